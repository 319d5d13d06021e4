/- Part Z6 of the lemmas and walks of the Go functions that these statements reach; conditions: those that each theorem names. -/
import Derived.Test.YtgjajalneknagaaJZ5
section
/- Chapter 21's law ClientPlays, walked; conditions: those that each theorem names. -/
namespace Go.Proofs.Ytgjajalneknagaa.Sx
open Go.RowKit Go.Proofs.Ytgjajalneknagaa.Hm Go.Proofs.YtgjajalneknagaaW.PrintWords Go.Proofs.YtgjajalneknagaaW.PrintLast Go.Proofs.YtgjajalneknagaaW.PrintMore
set_option linter.unusedVariables false
set_option linter.unusedSimpArgs false
attribute [local irreducible] SX SXL SXA St callK Post Evals

section
variable {F R : List Thing} {K : Ending → List Thing → Prop} {A B C D A1 A2 A3 A4 : Option Addr} {b d c a1 a2 a3 a4 : Nat} {xs : List Act} {id pl : Int}
structure CInv (id : Int) (s : Cl) : Prop where
  id : s.id = id
  last : u32ok s.last
  len : s.c.d.length ≤ 1100
  op : s.op = true → ((1 ≤ s.pa ∧ s.pa ≤ 8) ∧ (1 ≤ s.le ∧ s.le ≤ 8)) ∧ s.c.xid = s.last
theorem fits_eq {s : Cl} {m : Msg} (h : CInv id s) : fitsR s m = fitsB s m := by
  unfold fitsR fitsB
  cases ho : s.op with
  | false => rfl
  | true => rw [(h.op ho).2]
theorem CInv.begun {s : Cl} {y : Ca} (h : CInv id s) (hl : y.d.length ≤ 1100) : CInv id (begunC s y) :=
  ⟨h.id, ⟨by show 0 ≤ (s.last + 1) % 4294967296; omega, by show (s.last + 1) % 4294967296 < 4294967296; omega⟩, hl, fun _ => ⟨⟨⟨by show (1 : Int) ≤ 1; omega, by show (1 : Int) ≤ 8; omega⟩, ⟨by show (1 : Int) ≤ 1; omega, by show (1 : Int) ≤ 8; omega⟩⟩, rfl⟩⟩
theorem CInv.shut {s : Cl} (h : CInv id s) : CInv id (shut s) := ⟨h.id, h.last, h.len, fun ho => by cases ho⟩
theorem CInv.moved {s : Cl} {k : Int} (h : CInv id s) : CInv id (moved s k) :=
  ⟨h.id, h.last, h.len, fun ho => ⟨⟨⟨by show (1 : Int) ≤ 1; omega, by show (1 : Int) ≤ 8; omega⟩, ⟨by show (1 : Int) ≤ 1; omega, by show (1 : Int) ≤ 8; omega⟩⟩, (h.op ho).2⟩⟩
theorem CInv.waits {s : Cl} (h : CInv id s) (h1 : 1 < s.le) : CInv id (waits s) :=
  ⟨h.id, h.last, h.len, fun ho => ⟨⟨(h.op ho).1.1, ⟨by show 1 ≤ s.le - 1; omega, by have := (h.op ho).1.2.2; show s.le - 1 ≤ 8; omega⟩⟩, (h.op ho).2⟩⟩
theorem CInv.again {s : Cl} (h : CInv id s) : CInv id (again s) :=
  ⟨h.id, h.last, h.len, fun ho => ⟨⟨more8_le (h.op ho).1.1, more8_le (h.op ho).1.1⟩, (h.op ho).2⟩⟩
set_option maxHeartbeats 2000000 in
set_option maxRecDepth 20000 in
theorem ClientPlays_S (hid : u32ok id) (hc : xs.length ≤ c) (hw : ∀ a ∈ xs, a.wf) [hr : Has (roR kAct A xs) F] (h : K (.returned (.bool true)) F) : Fn (Try.prog) 3 [.int .u32 id, .int .i64 pl, .slice A xs.length c] F K := by
  refine Fn.flat (A := A) (xs := xs) kAct (by decide) (fun css hcs => ?_) (fun w => rfl)
  refine Fn.enter Try.call3 Try.func3 rfl rfl rfl ?_
  repeat (first | refine Qa ?_ | refine Qb ?_ | refine Qc ?_ | refine Qd ?_ | refine Qe ?_ | refine Qf ?_ | refine Qg ?_ | refine Qh ?_ | refine Qi ?_ | refine Qj ?_ | refine Qk ?_ | refine Ql ?_ | refine Qm ?_ | refine Qn ?_ | refine Qo ?_ | refine Qp ?_ | refine Qq ?_ | fail)
  refine SXL.call rfl rfl rfl ?_
  refine (awake21_S (callK.ret ?_))
  repeat (first | refine Qa ?_ | refine Qb ?_ | refine Qc ?_ | refine Qd ?_ | refine Qe ?_ | refine Qf ?_ | refine Qg ?_ | refine Qh ?_ | refine Qi ?_ | refine Qj ?_ | refine Qk ?_ | refine Ql ?_ | refine Qm ?_ | refine Qn ?_ | refine Qo ?_ | refine Qp ?_ | refine Qq ?_ | fail)
  refine SXL.call rfl rfl rfl ?_
  refine (New_S (id := id) (pl := pl) (fun hk => callK.ret ?_) (fun hk p => callK.ret ?_))
  · repeat (first | refine Qa ?_ | refine Qb ?_ | refine Qc ?_ | refine Qd ?_ | refine Qe ?_ | refine Qf ?_ | refine Qg ?_ | refine Qh ?_ | refine Qi ?_ | refine Qj ?_ | refine Qk ?_ | refine Ql ?_ | refine Qm ?_ | refine Qn ?_ | refine Qo ?_ | refine Qp ?_ | refine Qq ?_ | fail)
    refine SXL.call rfl rfl rfl ?_
    refine (RNew21_S (id := id) (pl := pl) (fun _ => callK.ret ?_) (fun hk2 => Bool.noConfusion (hk.symm.trans hk2)))
    repeat (first | refine Qa ?_ | refine Qb ?_ | refine Qc ?_ | refine Qd ?_ | refine Qe ?_ | refine Qf ?_ | refine Qg ?_ | refine Qh ?_ | refine Qi ?_ | refine Qj ?_ | refine Qk ?_ | refine Ql ?_ | refine Qm ?_ | refine Qn ?_ | refine Qo ?_ | refine Qp ?_ | refine Qq ?_ | fail)
    refine SXL.alloc rfl rfl (fun wb => ?_)
    repeat (first | refine Qa ?_ | refine Qb ?_ | refine Qc ?_ | fail)
    refine Qd ?_
    refine Qf ?_
    refine Qf ?_
    refine Qe ?_
    repeat (first | refine Qa ?_ | refine Qb ?_ | refine Qc ?_ | refine Qm ?_ | refine Qn ?_ | refine Qo ?_ | refine Qp ?_ | refine Qq ?_ | fail)
    refine Qd ?_
    refine Ql ?_
    refine Qg ?_
    refine Qf ?_
    refine SX.cut (fun a M => a = [] ∧ F = M) ?_ ?_
    rotate_left
    · rintro _ _ ⟨rfl, rfl⟩
      repeat (first | refine Qa ?_ | refine Qb ?_ | refine Qc ?_ | refine Qd ?_ | refine Qe ?_ | refine Qf ?_ | refine Qg ?_ | refine Qh ?_ | refine Qi ?_ | refine Qj ?_ | refine Qk ?_ | refine Ql ?_ | refine Qm ?_ | refine Qn ?_ | refine Qo ?_ | refine Qp ?_ | refine Qq ?_ | fail)
      refine SXL.call rfl rfl rfl ?_
      refine (BeginNil_S (x := Ca0) (A := none) (a := 0) (callK.ret ?_))
      repeat (first | refine Qa ?_ | refine Qb ?_ | refine Qc ?_ | refine Qd ?_ | refine Qe ?_ | refine Qf ?_ | refine Qg ?_ | refine Qh ?_ | refine Qi ?_ | refine Qj ?_ | refine Qk ?_ | refine Ql ?_ | refine Qm ?_ | refine Qn ?_ | refine Qo ?_ | refine Qp ?_ | refine Qq ?_ | fail)
      refine SXL.call rfl rfl rfl ?_
      refine (HandleNil_S (m := Msg0) (A1 := none) (a1 := 0) (A2 := none) (a2 := 0) (A3 := none) (a3 := 0) (A4 := none) (a4 := 0) (callK.ret ?_))
      repeat (first | refine Qa ?_ | refine Qb ?_ | refine Qc ?_ | refine Qd ?_ | refine Qe ?_ | refine Qf ?_ | refine Qg ?_ | refine Qh ?_ | refine Qi ?_ | refine Qj ?_ | refine Qk ?_ | refine Ql ?_ | refine Qm ?_ | refine Qn ?_ | refine Qo ?_ | refine Qp ?_ | refine Qq ?_ | fail)
      refine SXL.alloc rfl rfl (fun y1 => ?_)
      repeat (first | refine Qa ?_ | refine Qb ?_ | refine Qc ?_ | refine Qd ?_ | refine Qe ?_ | refine Qf ?_ | refine Qg ?_ | refine Qh ?_ | refine Qi ?_ | refine Qj ?_ | refine Qk ?_ | refine Ql ?_ | refine Qm ?_ | refine Qn ?_ | refine Qo ?_ | refine Qp ?_ | refine Qq ?_ | fail)
      refine SXL.call rfl rfl rfl ?_
      refine (OpenNil_S (callK.ret ?_))
      repeat (first | refine Qa ?_ | refine Qb ?_ | refine Qc ?_ | refine Qd ?_ | refine Qe ?_ | refine Qf ?_ | refine Qg ?_ | refine Qh ?_ | refine Qi ?_ | refine Qj ?_ | refine Qk ?_ | refine Ql ?_ | refine Qm ?_ | refine Qn ?_ | refine Qo ?_ | refine Qp ?_ | refine Qq ?_ | fail)
      refine SXL.alloc rfl rfl (fun y2 => ?_)
      repeat (first | refine Qa ?_ | refine Qb ?_ | refine Qc ?_ | refine Qd ?_ | refine Qe ?_ | refine Qf ?_ | refine Qg ?_ | refine Qh ?_ | refine Qi ?_ | refine Qj ?_ | refine Qk ?_ | refine Ql ?_ | refine Qm ?_ | refine Qn ?_ | refine Qo ?_ | refine Qp ?_ | refine Qq ?_ | fail)
      refine SXL.call rfl rfl rfl ?_
      refine (PlaceNil_S (callK.ret ?_))
      repeat (first | refine Qa ?_ | refine Qb ?_ | refine Qc ?_ | refine Qd ?_ | refine Qe ?_ | refine Qf ?_ | refine Qg ?_ | refine Qh ?_ | refine Qi ?_ | refine Qj ?_ | refine Qk ?_ | refine Ql ?_ | refine Qm ?_ | refine Qn ?_ | refine Qo ?_ | refine Qp ?_ | refine Qq ?_ | fail)
      refine SXL.call rfl rfl rfl ?_
      refine (TickNil_S (callK.ret ?_))
      repeat (first | refine Qa ?_ | refine Qb ?_ | refine Qc ?_ | refine Qd ?_ | refine Qe ?_ | refine Qf ?_ | refine Qg ?_ | refine Qh ?_ | refine Qi ?_ | refine Qj ?_ | refine Qk ?_ | refine Ql ?_ | refine Qm ?_ | refine Qn ?_ | refine Qo ?_ | refine Qp ?_ | refine Qq ?_ | fail)
      refine SX.ret (M' := F) rfl (Evals.tmp rfl Evals.nil) ?_ inferInstance
      exact h
    repeat (first | refine Qa ?_ | refine Qb ?_ | refine Qc ?_ | refine Qd ?_ | refine Qe ?_ | refine Qf ?_ | refine Qg ?_ | refine Qh ?_ | refine Qi ?_ | refine Qj ?_ | refine Qk ?_ | refine Ql ?_ | refine Qm ?_ | refine Qn ?_ | refine Qo ?_ | refine Qp ?_ | refine Qq ?_ | fail)
    refine SX.loop (fun z a M => a = [(0, .int .u32 id), (2, .slice A xs.length c), (8, .pointer none), (12, .int .i64 0)] ∧ F = M) 0 ⟨rfl, rfl⟩ (by repeat (first | exact trivial | refine ⟨rfl, ?_⟩)) inferInstance ?_
    rintro z _ _ ⟨rfl, rfl⟩
    repeat (first | refine Qa ?_ | refine Qb ?_ | refine Qc ?_ | refine Qd ?_ | refine Qe ?_ | refine Qf ?_ | refine Qg ?_ | refine Qh ?_ | refine Qi ?_ | refine Qj ?_ | refine Qk ?_ | refine Ql ?_ | refine Qm ?_ | refine Qn ?_ | refine Qo ?_ | refine Qp ?_ | refine Qq ?_ | fail)
    refine SXL.split (s := 73) rfl (fun e1 => ?_) (fun e1 => ?_)
    · repeat (first | refine Qa ?_ | refine Qb ?_ | refine Qc ?_ | refine Qd ?_ | refine Qe ?_ | refine Qf ?_ | refine Qg ?_ | refine Qh ?_ | refine Qi ?_ | refine Qj ?_ | refine Qk ?_ | refine Ql ?_ | refine Qm ?_ | refine Qn ?_ | refine Qo ?_ | refine Qp ?_ | refine Qq ?_ | fail)
      refine SX.meet ⟨rfl, rfl⟩ (by repeat (first | exact trivial | refine ⟨rfl, ?_⟩)) inferInstance
    · repeat (first | refine Qa ?_ | refine Qb ?_ | refine Qc ?_ | refine Qd ?_ | refine Qe ?_ | refine Qf ?_ | refine Qg ?_ | refine Qh ?_ | refine Qi ?_ | refine Qj ?_ | refine Qk ?_ | refine Ql ?_ | refine Qm ?_ | refine Qn ?_ | refine Qo ?_ | refine Qp ?_ | refine Qq ?_ | fail)
      refine SX.meet ⟨rfl, rfl⟩ (by repeat (first | exact trivial | refine ⟨rfl, ?_⟩)) inferInstance
  · repeat (first | refine Qa ?_ | refine Qb ?_ | refine Qc ?_ | refine Qd ?_ | refine Qe ?_ | refine Qf ?_ | refine Qg ?_ | refine Qh ?_ | refine Qi ?_ | refine Qj ?_ | refine Qk ?_ | refine Ql ?_ | refine Qm ?_ | refine Qn ?_ | refine Qo ?_ | refine Qp ?_ | refine Qq ?_ | fail)
    refine SXL.call rfl rfl rfl ?_
    refine (RNew21_S (id := id) (pl := pl) (fun hk2 => Bool.noConfusion (hk2.symm.trans hk)) (fun _ => callK.ret ?_))
    repeat (first | refine Qa ?_ | refine Qb ?_ | refine Qc ?_ | refine Qd ?_ | refine Qe ?_ | refine Qf ?_ | refine Qg ?_ | refine Qh ?_ | refine Qi ?_ | refine Qj ?_ | refine Qk ?_ | refine Ql ?_ | refine Qm ?_ | refine Qn ?_ | refine Qo ?_ | refine Qp ?_ | refine Qq ?_ | fail)
    refine SXL.alloc rfl rfl (fun wb => ?_)
    repeat (first | refine Qa ?_ | refine Qb ?_ | refine Qc ?_ | fail)
    refine Qd ?_
    refine Qf ?_
    refine Qf ?_
    refine Qe ?_
    repeat (first | refine Qa ?_ | refine Qb ?_ | refine Qc ?_ | refine Qm ?_ | refine Qn ?_ | refine Qo ?_ | refine Qp ?_ | refine Qq ?_ | fail)
    refine Qd ?_
    refine Ql ?_
    refine Qg ?_
    refine Qf ?_
    refine SX.cut (fun a M => a = [] ∧ F = M) ?_ ?_
    rotate_left
    · rintro _ _ ⟨rfl, rfl⟩
      repeat (first | refine Qa ?_ | refine Qb ?_ | refine Qc ?_ | refine Qd ?_ | refine Qe ?_ | refine Qf ?_ | refine Qg ?_ | refine Qh ?_ | refine Qi ?_ | refine Qj ?_ | refine Qk ?_ | refine Ql ?_ | refine Qm ?_ | refine Qn ?_ | refine Qo ?_ | refine Qp ?_ | refine Qq ?_ | fail)
      refine SXL.call rfl rfl rfl ?_
      refine (BeginNil_S (x := Ca0) (A := none) (a := 0) (callK.ret ?_))
      repeat (first | refine Qa ?_ | refine Qb ?_ | refine Qc ?_ | refine Qd ?_ | refine Qe ?_ | refine Qf ?_ | refine Qg ?_ | refine Qh ?_ | refine Qi ?_ | refine Qj ?_ | refine Qk ?_ | refine Ql ?_ | refine Qm ?_ | refine Qn ?_ | refine Qo ?_ | refine Qp ?_ | refine Qq ?_ | fail)
      refine SXL.call rfl rfl rfl ?_
      refine (HandleNil_S (m := Msg0) (A1 := none) (a1 := 0) (A2 := none) (a2 := 0) (A3 := none) (a3 := 0) (A4 := none) (a4 := 0) (callK.ret ?_))
      repeat (first | refine Qa ?_ | refine Qb ?_ | refine Qc ?_ | refine Qd ?_ | refine Qe ?_ | refine Qf ?_ | refine Qg ?_ | refine Qh ?_ | refine Qi ?_ | refine Qj ?_ | refine Qk ?_ | refine Ql ?_ | refine Qm ?_ | refine Qn ?_ | refine Qo ?_ | refine Qp ?_ | refine Qq ?_ | fail)
      refine SXL.alloc rfl rfl (fun y1 => ?_)
      repeat (first | refine Qa ?_ | refine Qb ?_ | refine Qc ?_ | refine Qd ?_ | refine Qe ?_ | refine Qf ?_ | refine Qg ?_ | refine Qh ?_ | refine Qi ?_ | refine Qj ?_ | refine Qk ?_ | refine Ql ?_ | refine Qm ?_ | refine Qn ?_ | refine Qo ?_ | refine Qp ?_ | refine Qq ?_ | fail)
      refine SXL.call rfl rfl rfl ?_
      refine (OpenNil_S (callK.ret ?_))
      repeat (first | refine Qa ?_ | refine Qb ?_ | refine Qc ?_ | refine Qd ?_ | refine Qe ?_ | refine Qf ?_ | refine Qg ?_ | refine Qh ?_ | refine Qi ?_ | refine Qj ?_ | refine Qk ?_ | refine Ql ?_ | refine Qm ?_ | refine Qn ?_ | refine Qo ?_ | refine Qp ?_ | refine Qq ?_ | fail)
      refine SXL.alloc rfl rfl (fun y2 => ?_)
      repeat (first | refine Qa ?_ | refine Qb ?_ | refine Qc ?_ | refine Qd ?_ | refine Qe ?_ | refine Qf ?_ | refine Qg ?_ | refine Qh ?_ | refine Qi ?_ | refine Qj ?_ | refine Qk ?_ | refine Ql ?_ | refine Qm ?_ | refine Qn ?_ | refine Qo ?_ | refine Qp ?_ | refine Qq ?_ | fail)
      refine SXL.call rfl rfl rfl ?_
      refine (PlaceNil_S (callK.ret ?_))
      repeat (first | refine Qa ?_ | refine Qb ?_ | refine Qc ?_ | refine Qd ?_ | refine Qe ?_ | refine Qf ?_ | refine Qg ?_ | refine Qh ?_ | refine Qi ?_ | refine Qj ?_ | refine Qk ?_ | refine Ql ?_ | refine Qm ?_ | refine Qn ?_ | refine Qo ?_ | refine Qp ?_ | refine Qq ?_ | fail)
      refine SXL.call rfl rfl rfl ?_
      refine (TickNil_S (callK.ret ?_))
      repeat (first | refine Qa ?_ | refine Qb ?_ | refine Qc ?_ | refine Qd ?_ | refine Qe ?_ | refine Qf ?_ | refine Qg ?_ | refine Qh ?_ | refine Qi ?_ | refine Qj ?_ | refine Qk ?_ | refine Ql ?_ | refine Qm ?_ | refine Qn ?_ | refine Qo ?_ | refine Qp ?_ | refine Qq ?_ | fail)
      refine SX.ret (M' := F) rfl (Evals.tmp rfl Evals.nil) ?_ inferInstance
      exact h
    repeat (first | refine Qa ?_ | refine Qb ?_ | refine Qc ?_ | refine Qd ?_ | refine Qe ?_ | refine Qf ?_ | refine Qg ?_ | refine Qh ?_ | refine Qi ?_ | refine Qj ?_ | refine Qk ?_ | refine Ql ?_ | refine Qm ?_ | refine Qn ?_ | refine Qo ?_ | refine Qp ?_ | refine Qq ?_ | fail)
    refine SX.loop (fun z a M => ∃ (i : Nat) (s : Cl) (D : Option Addr) (d : Nat), i + z = xs.length ∧ CInv id s ∧ s.c.d.length ≤ d ∧ a = [(0, .int .u32 id), (2, .slice A xs.length c), (8, .pointer (some ⟨p, 0, none⟩)), (10, .pointer (some ⟨wb, 0, none⟩)), (12, .int .i64 i)] ∧ .own (some ⟨p, 0, none⟩) (cellsR p (clC s D d) 91) :: .own (some ⟨wb, 0, none⟩) (cellsR wb (rclC s) 35) :: .own D (rowR (Kd.int .u8) 5 (.slice D s.c.d.length d) s.c.d) :: .per (roR (cellsK kAct.sz) A css) :: .per (fksR kAct xs css) :: F = M)
      xs.length ⟨0, clN id pl, none, 0, by omega, ⟨rfl, u32_0, Nat.zero_le _, fun ho => by cases ho⟩, Nat.le_refl _, rfl, rfl⟩ (by repeat (first | exact trivial | refine ⟨rfl, ?_⟩)) inferInstance ?_
    rintro z _ _ ⟨i, s, D, d, hz, hI, hd, rfl, rfl⟩
    by_cases hi : i < xs.length
    rotate_left
    · repeat (first | refine Qa ?_ | refine Qb ?_ | refine Qc ?_ | refine Qd ?_ | refine Qe ?_ | refine Qf ?_ | refine Qg ?_ | refine Qh ?_ | refine Qi ?_ | refine Qj ?_ | refine Qk ?_ | refine Ql ?_ | refine Qm ?_ | refine Qn ?_ | refine Qo ?_ | refine Qp ?_ | refine Qq ?_ | fail)
      refine SXL.know 73 false rfl (decide_eq_false (by omega)) ?_
      repeat (first | refine Qa ?_ | refine Qb ?_ | refine Qc ?_ | refine Qd ?_ | refine Qe ?_ | refine Qf ?_ | refine Qg ?_ | refine Qh ?_ | refine Qi ?_ | refine Qj ?_ | refine Qk ?_ | refine Ql ?_ | refine Qm ?_ | refine Qn ?_ | refine Qo ?_ | refine Qp ?_ | refine Qq ?_ | fail)
      refine SX.meet ⟨rfl, rfl⟩ (by repeat (first | exact trivial | refine ⟨rfl, ?_⟩)) inferInstance
    obtain ⟨e, he⟩ : ∃ e, xs[i]? = some e := ⟨_, List.getElem?_eq_getElem hi⟩
    obtain ⟨cc, hcc⟩ : ∃ cc, css[i]? = some cc := ⟨_, List.getElem?_eq_getElem (by omega)⟩
    have hew := hw e (List.mem_of_getElem? he)
    refine SX.fk (D := kAct) (actC e) (fun x => actL e x) he hcc (fun w S h => act_open h) (fun x hx => ?_)
    show SX _ _ _ _ _ _ (.per (pureR (x.fits e)) :: .per (roR (Kd.int .u8) x.A e.c.d) :: .per (roR (Kd.int .u8) x.A1 e.m.c.d) :: .per (roR (Kd.int .u8) x.A2 e.m.r.d) :: .per (roR kE x.A3 e.m.r.e) :: .per (roR (Kd.int .u8) x.A4 e.m.t.d) :: .own (some ⟨p, 0, none⟩) (cellsR p (clC s D d) 91) :: .own (some ⟨wb, 0, none⟩) (cellsR wb (rclC s) 35) :: .own D (rowR (Kd.int .u8) 5 (.slice D s.c.d.length d) s.c.d) :: .per (roR (cellsK kAct.sz) A css) :: .per (fksR kAct xs css) :: F)
    refine SX.pure (x.fits e) (fun hfit => ?_)
    obtain ⟨cl, hcl⟩ := cc
    simp only at hx
    subst hx
    refine SX.addr (A := A) (cellsK kAct.sz) (by decide) (xs := css) (by omega) (fun bb oo e9 => ?_)
    subst e9
    repeat (first | refine Qa ?_ | refine Qb ?_ | refine Qc ?_ | refine Qd ?_ | refine Qe ?_ | refine Qf ?_ | refine Qg ?_ | refine Qh ?_ | refine Qi ?_ | refine Qj ?_ | refine Qk ?_ | refine Ql ?_ | refine Qm ?_ | refine Qn ?_ | refine Qo ?_ | refine Qp ?_ | refine Qq ?_ | fail)
    refine SXL.know 73 true rfl (decide_eq_true (by omega)) ?_
    repeat (first | refine Qa ?_ | refine Qb ?_ | refine Qc ?_ | refine Qd ?_ | refine Qe ?_ | refine Qf ?_ | refine Qg ?_ | refine Qh ?_ | refine Qi ?_ | refine Qj ?_ | refine Qk ?_ | refine Ql ?_ | refine Qm ?_ | refine Qn ?_ | refine Qo ?_ | refine Qp ?_ | refine Qq ?_ | fail)
    by_cases hi6 : i < 60
    rotate_left
    · refine SXL.know 77 false rfl (decide_eq_false (by omega)) ?_
      repeat (first | refine Qa ?_ | refine Qb ?_ | refine Qc ?_ | refine Qd ?_ | refine Qe ?_ | refine Qf ?_ | refine Qg ?_ | refine Qh ?_ | refine Qi ?_ | refine Qj ?_ | refine Qk ?_ | refine Ql ?_ | refine Qm ?_ | refine Qn ?_ | refine Qo ?_ | refine Qp ?_ | refine Qq ?_ | fail)
      refine SX.meet ⟨rfl, rfl⟩ (by repeat (first | exact trivial | refine ⟨rfl, ?_⟩)) inferInstance
    refine SXL.know 77 true rfl (decide_eq_true (by omega)) ?_
    repeat (first | refine Qa ?_ | refine Qb ?_ | refine Qc ?_ | refine Qd ?_ | refine Qe ?_ | refine Qf ?_ | refine Qg ?_ | refine Qh ?_ | refine Qi ?_ | refine Qj ?_ | refine Qk ?_ | refine Ql ?_ | refine Qm ?_ | refine Qn ?_ | refine Qo ?_ | refine Qp ?_ | refine Qq ?_ | fail)
    refine SXL.idx rfl rfl rfl rfl rfl (by omega) (by omega) rfl ?_
    refine SXL.loadRow (cellsK kAct.sz) rfl rfl inferInstance (by rw [Int.toNat_natCast]; exact hcc) rfl rfl ?_
    repeat (first | refine Qa ?_ | refine Qb ?_ | refine Qc ?_ | refine Qd ?_ | refine Qe ?_ | refine Qf ?_ | refine Qg ?_ | refine Qh ?_ | refine Qi ?_ | refine Qj ?_ | refine Qk ?_ | refine Ql ?_ | refine Qm ?_ | refine Qn ?_ | refine Qo ?_ | refine Qp ?_ | refine Qq ?_ | fail)
    refine SXL.alloc rfl rfl (fun t => ?_)
    repeat (first | refine Qa ?_ | refine Qb ?_ | refine Qc ?_ | refine Qd ?_ | refine Qe ?_ | refine Qf ?_ | refine Qg ?_ | refine Qh ?_ | refine Qi ?_ | refine Qj ?_ | refine Qk ?_ | refine Ql ?_ | refine Qm ?_ | refine Qn ?_ | refine Qo ?_ | refine Qp ?_ | refine Qq ?_ | fail)
    refine SXL.split (s := 92) rfl (fun g1 => ?_) (fun g1 => ?_)
    · repeat (first | refine Qa ?_ | refine Qb ?_ | refine Qc ?_ | refine Qd ?_ | refine Qe ?_ | refine Qf ?_ | refine Qg ?_ | refine Qh ?_ | refine Qi ?_ | refine Qj ?_ | refine Qk ?_ | refine Ql ?_ | refine Qm ?_ | refine Qn ?_ | refine Qo ?_ | refine Qp ?_ | refine Qq ?_ | fail)
      refine SX.ret (M' := F) rfl (Evals.tmp rfl Evals.nil) ?_ inferInstance
      exact h
    repeat (first | refine Qa ?_ | refine Qb ?_ | refine Qc ?_ | refine Qd ?_ | refine Qe ?_ | refine Qf ?_ | refine Qg ?_ | refine Qh ?_ | refine Qi ?_ | refine Qj ?_ | refine Qk ?_ | refine Ql ?_ | refine Qm ?_ | refine Qn ?_ | refine Qo ?_ | refine Qp ?_ | refine Qq ?_ | fail)
    refine SXL.split (s := 99) rfl (fun g2 => ?_) (fun g2 => ?_)
    · repeat (first | refine Qa ?_ | refine Qb ?_ | refine Qc ?_ | refine Qd ?_ | refine Qe ?_ | refine Qf ?_ | refine Qg ?_ | refine Qh ?_ | refine Qi ?_ | refine Qj ?_ | refine Qk ?_ | refine Ql ?_ | refine Qm ?_ | refine Qn ?_ | refine Qo ?_ | refine Qp ?_ | refine Qq ?_ | fail)
      refine SX.ret (M' := F) rfl (Evals.tmp rfl Evals.nil) ?_ inferInstance
      exact h
    repeat (first | refine Qa ?_ | refine Qb ?_ | refine Qc ?_ | refine Qd ?_ | refine Qe ?_ | refine Qf ?_ | refine Qg ?_ | refine Qh ?_ | refine Qi ?_ | refine Qj ?_ | refine Qk ?_ | refine Ql ?_ | refine Qm ?_ | refine Qn ?_ | refine Qo ?_ | refine Qp ?_ | refine Qq ?_ | fail)
    refine SXL.split (s := 106) rfl (fun g3 => ?_) (fun g3 => ?_)
    · repeat (first | refine Qa ?_ | refine Qb ?_ | refine Qc ?_ | refine Qd ?_ | refine Qe ?_ | refine Qf ?_ | refine Qg ?_ | refine Qh ?_ | refine Qi ?_ | refine Qj ?_ | refine Qk ?_ | refine Ql ?_ | refine Qm ?_ | refine Qn ?_ | refine Qo ?_ | refine Qp ?_ | refine Qq ?_ | fail)
      refine SX.ret (M' := F) rfl (Evals.tmp rfl Evals.nil) ?_ inferInstance
      exact h
    repeat (first | refine Qa ?_ | refine Qb ?_ | refine Qc ?_ | refine Qm ?_ | refine Qn ?_ | refine Qo ?_ | fail)
    refine Qd ?_
    refine SX.cond rfl (fun g4 => ?_) (fun g4 => ?_)
    · repeat (first | refine Qa ?_ | refine Qb ?_ | refine Qc ?_ | refine Qd ?_ | refine Qe ?_ | refine Qf ?_ | refine Qg ?_ | refine Qh ?_ | refine Qi ?_ | refine Qj ?_ | refine Qk ?_ | refine Ql ?_ | refine Qm ?_ | refine Qn ?_ | refine Qo ?_ | refine Qp ?_ | refine Qq ?_ | fail)
      refine SX.ret (M' := F) rfl (Evals.tmp rfl Evals.nil) ?_ inferInstance
      exact h
    have hdl : e.c.d.length ≤ 1100 := by
      simp only [decide_eq_false_iff_not] at g1
      omega
    clear g1 g2 g3 g4
    refine Qg ?_
    refine Qf ?_
    refine Qe ?_
    repeat (first | refine Qa ?_ | refine Qb ?_ | refine Qc ?_ | fail)
    refine Qd ?_
    refine Qf ?_
    refine SX.cut (fun a M => ∃ (s' : Cl) (D' : Option Addr) (d' : Nat), CInv id s' ∧ s'.c.d.length ≤ d' ∧ a = [(0, .int .u32 id), (2, .slice (some ⟨bb, oo, none⟩) xs.length c), (8, .pointer (some ⟨p, 0, none⟩)), (10, .pointer (some ⟨wb, 0, none⟩)), (12, .int .i64 i), (14, .bool true)] ∧ .own (some ⟨p, 0, none⟩) (cellsR p (clC s' D' d') 91) :: .own (some ⟨wb, 0, none⟩) (cellsR wb (rclC s') 35) :: .own D' (rowR (Kd.int .u8) 5 (.slice D' s'.c.d.length d') s'.c.d) :: .per (roR (cellsK kAct.sz) (some ⟨bb, oo, none⟩) css) :: .per (fksR kAct xs css) :: F = M) ?_ ?_
    rotate_left
    · rintro _ _ ⟨s', D', d', hI', hd', rfl, rfl⟩
      clear hI hd hdl
      repeat (first | refine Qa ?_ | refine Qb ?_ | refine Qc ?_ | refine Qd ?_ | refine Qe ?_ | refine Qf ?_ | refine Qg ?_ | refine Qh ?_ | refine Qi ?_ | refine Qj ?_ | refine Qk ?_ | refine Ql ?_ | refine Qm ?_ | refine Qn ?_ | refine Qo ?_ | refine Qp ?_ | refine Qq ?_ | fail)
      refine SXL.call rfl rfl rfl ?_
      refine (Open_S (b := p) (s := s') (D := D') (d := d') inferInstance (fun ho => callK.ret ?_) (fun ho => callK.ret ?_))
      · repeat (first | refine Qa ?_ | refine Qb ?_ | refine Qc ?_ | refine Qd ?_ | refine Qe ?_ | refine Qf ?_ | refine Qg ?_ | refine Qh ?_ | refine Qi ?_ | refine Qj ?_ | refine Qk ?_ | refine Ql ?_ | refine Qm ?_ | refine Qn ?_ | refine Qo ?_ | refine Qp ?_ | refine Qq ?_ | fail)
        refine SXL.alloc rfl rfl (fun z3 => ?_)
        repeat (first | refine Qa ?_ | refine Qb ?_ | refine Qc ?_ | refine Qd ?_ | refine Qe ?_ | refine Qf ?_ | refine Qg ?_ | refine Qh ?_ | refine Qi ?_ | refine Qj ?_ | refine Qk ?_ | refine Ql ?_ | refine Qm ?_ | refine Qn ?_ | refine Qo ?_ | refine Qp ?_ | refine Qq ?_ | fail)
        refine SXA.begin (.own (some ⟨p, 0, none⟩) (cellsR p (clC s' D' d') 91) :: .own (some ⟨wb, 0, none⟩) (cellsR wb (rclC s') 35) :: .own D' (rowR (Kd.int .u8) 5 (.slice D' s'.c.d.length d') s'.c.d) :: .per (roR (cellsK kAct.sz) (some ⟨bb, oo, none⟩) css) :: .per (fksR kAct xs css) :: F) [] ?_
        (first | refine Qr 0 ?_ | refine Qs 0 ?_ | refine Qt 0 ?_ | refine Qu 0 ?_ | fail)
        (first | refine Qr 1 ?_ | refine Qs 1 ?_ | refine Qt 1 ?_ | refine Qu 1 ?_ | fail)
        (first | refine Qr 2 ?_ | refine Qs 2 ?_ | refine Qt 2 ?_ | refine Qu 2 ?_ | fail)
        (first | refine Qr 3 ?_ | refine Qs 3 ?_ | refine Qt 3 ?_ | refine Qu 3 ?_ | fail)
        (first | refine Qr 4 ?_ | refine Qs 4 ?_ | refine Qt 4 ?_ | refine Qu 4 ?_ | fail)
        (first | refine Qr 5 ?_ | refine Qs 5 ?_ | refine Qt 5 ?_ | refine Qu 5 ?_ | fail)
        (first | refine Qr 6 ?_ | refine Qs 6 ?_ | refine Qt 6 ?_ | refine Qu 6 ?_ | fail)
        (first | refine Qr 7 ?_ | refine Qs 7 ?_ | refine Qt 7 ?_ | refine Qu 7 ?_ | fail)
        (first | refine Qr 8 ?_ | refine Qs 8 ?_ | refine Qt 8 ?_ | refine Qu 8 ?_ | fail)
        refine SXA.know 236 false rfl (by rw [ho]; rfl) ?_
        (first | refine Qr 9 ?_ | refine Qs 9 ?_ | refine Qt 9 ?_ | refine Qu 9 ?_ | fail)
        (first | refine Qr 10 ?_ | refine Qs 10 ?_ | refine Qt 10 ?_ | refine Qu 10 ?_ | fail)
        (first | refine Qr 11 ?_ | refine Qs 11 ?_ | refine Qt 11 ?_ | refine Qu 11 ?_ | fail)
        (first | refine Qr 12 ?_ | refine Qs 12 ?_ | refine Qt 12 ?_ | refine Qu 12 ?_ | fail)
        (first | refine Qr 13 ?_ | refine Qs 13 ?_ | refine Qt 13 ?_ | refine Qu 13 ?_ | fail)
        (first | refine Qr 14 ?_ | refine Qs 14 ?_ | refine Qt 14 ?_ | refine Qu 14 ?_ | fail)
        (first | refine Qr 15 ?_ | refine Qs 15 ?_ | refine Qt 15 ?_ | refine Qu 15 ?_ | fail)
        (first | refine Qr 16 ?_ | refine Qs 16 ?_ | refine Qt 16 ?_ | refine Qu 16 ?_ | fail)
        (first | refine Qr 17 ?_ | refine Qs 17 ?_ | refine Qt 17 ?_ | refine Qu 17 ?_ | fail)
        (first | refine Qr 18 ?_ | refine Qs 18 ?_ | refine Qt 18 ?_ | refine Qu 18 ?_ | fail)
        (first | refine Qr 19 ?_ | refine Qs 19 ?_ | refine Qt 19 ?_ | refine Qu 19 ?_ | fail)
        (first | refine Qr 21 ?_ | refine Qs 21 ?_ | refine Qt 21 ?_ | refine Qu 21 ?_ | fail)
        (first | refine Qr 22 ?_ | refine Qs 22 ?_ | refine Qt 22 ?_ | refine Qu 22 ?_ | fail)
        refine Qw 20 ?_
        refine Qm ?_
        refine SXL.call rfl rfl rfl ?_
        refine (Place_S (b := p) (s := s') (D := D') (d := d') inferInstance (callK.ret ?_))
        refine SXL.nil (SXA.next inferInstance ?_)
        (first | refine Qr 23 ?_ | refine Qs 23 ?_ | refine Qt 23 ?_ | refine Qu 23 ?_ | fail)
        (first | refine Qr 24 ?_ | refine Qs 24 ?_ | refine Qt 24 ?_ | refine Qu 24 ?_ | fail)
        refine Qv ?_
        refine SX.know 252 false rfl (by simp) ?_
        repeat (first | refine Qa ?_ | refine Qb ?_ | refine Qc ?_ | refine Qd ?_ | refine Qe ?_ | refine Qf ?_ | refine Qg ?_ | refine Qh ?_ | refine Qi ?_ | refine Qj ?_ | refine Qk ?_ | refine Ql ?_ | refine Qm ?_ | refine Qn ?_ | refine Qo ?_ | refine Qp ?_ | refine Qq ?_ | fail)
        refine SX.same 12 (.int .i64 ((i + 1 : Nat) : Int)) rfl (by simp (disch := omega) only [IntWalk.i64_in, IntWalk.u8_in, IntWalk.u32_in, IntWalk.u64_in, IntWalk.rem_in, Int.natCast_add, Int.natCast_one]) ?_
        refine SX.again (z - 1) (by omega) ⟨i + 1, s', D', d', by omega, hI', hd', rfl, rfl⟩ (by repeat (first | exact trivial | refine ⟨rfl, ?_⟩)) inferInstance
      · repeat (first | refine Qa ?_ | refine Qb ?_ | refine Qc ?_ | refine Qd ?_ | refine Qe ?_ | refine Qf ?_ | refine Qg ?_ | refine Qh ?_ | refine Qi ?_ | refine Qj ?_ | refine Qk ?_ | refine Ql ?_ | refine Qm ?_ | refine Qn ?_ | refine Qo ?_ | refine Qp ?_ | refine Qq ?_ | fail)
        refine SXL.alloc rfl rfl (fun z3 => ?_)
        repeat (first | refine Qa ?_ | refine Qb ?_ | refine Qc ?_ | refine Qd ?_ | refine Qe ?_ | refine Qf ?_ | refine Qg ?_ | refine Qh ?_ | refine Qi ?_ | refine Qj ?_ | refine Qk ?_ | refine Ql ?_ | refine Qm ?_ | refine Qn ?_ | refine Qo ?_ | refine Qp ?_ | refine Qq ?_ | fail)
        refine SXA.begin (.own (some ⟨z3, 0, none⟩) (cellsR z3 (caC s'.c D' d') 40) :: .own (some ⟨p, 0, none⟩) (cellsR p (clC s' D' d') 91) :: .own (some ⟨wb, 0, none⟩) (cellsR wb (rclC s') 35) :: .own D' (rowR (Kd.int .u8) 5 (.slice D' s'.c.d.length d') s'.c.d) :: .per (roR (cellsK kAct.sz) (some ⟨bb, oo, none⟩) css) :: .per (fksR kAct xs css) :: F) [] ?_
        unfold caC
        (first | refine Qr 0 ?_ | refine Qs 0 ?_ | refine Qt 0 ?_ | refine Qu 0 ?_ | fail)
        (first | refine Qr 1 ?_ | refine Qs 1 ?_ | refine Qt 1 ?_ | refine Qu 1 ?_ | fail)
        (first | refine Qr 2 ?_ | refine Qs 2 ?_ | refine Qt 2 ?_ | refine Qu 2 ?_ | fail)
        (first | refine Qr 3 ?_ | refine Qs 3 ?_ | refine Qt 3 ?_ | refine Qu 3 ?_ | fail)
        (first | refine Qr 4 ?_ | refine Qs 4 ?_ | refine Qt 4 ?_ | refine Qu 4 ?_ | fail)
        (first | refine Qr 5 ?_ | refine Qs 5 ?_ | refine Qt 5 ?_ | refine Qu 5 ?_ | fail)
        (first | refine Qr 6 ?_ | refine Qs 6 ?_ | refine Qt 6 ?_ | refine Qu 6 ?_ | fail)
        (first | refine Qr 7 ?_ | refine Qs 7 ?_ | refine Qt 7 ?_ | refine Qu 7 ?_ | fail)
        (first | refine Qr 8 ?_ | refine Qs 8 ?_ | refine Qt 8 ?_ | refine Qu 8 ?_ | fail)
        refine SXA.know 236 false rfl (by rw [ho]; rfl) ?_
        (first | refine Qr 9 ?_ | refine Qs 9 ?_ | refine Qt 9 ?_ | refine Qu 9 ?_ | fail)
        (first | refine Qr 10 ?_ | refine Qs 10 ?_ | refine Qt 10 ?_ | refine Qu 10 ?_ | fail)
        (first | refine Qr 11 ?_ | refine Qs 11 ?_ | refine Qt 11 ?_ | refine Qu 11 ?_ | fail)
        (first | refine Qr 13 ?_ | refine Qs 13 ?_ | refine Qt 13 ?_ | refine Qu 13 ?_ | fail)
        (first | refine Qr 14 ?_ | refine Qs 14 ?_ | refine Qt 14 ?_ | refine Qu 14 ?_ | fail)
        refine Qw 12 ?_
        refine Qm ?_
        refine SXL.call rfl rfl rfl ?_
        refine (callOf21_S (s := s'.c) (A := D') inferInstance (callK.ret ?_))
        refine SXL.nil (SXA.next inferInstance ?_)
        refine Qw 15 ?_
        refine Qm ?_
        refine SXL.neStr rfl rfl inferInstance inferInstance rfl rfl rfl rfl ?_
        refine SXL.nil (SXA.next inferInstance ?_)
        (first | refine Qr 16 ?_ | refine Qs 16 ?_ | refine Qt 16 ?_ | refine Qu 16 ?_ | fail)
        (first | refine Qr 17 ?_ | refine Qs 17 ?_ | refine Qt 17 ?_ | refine Qu 17 ?_ | fail)
        (first | refine Qr 18 ?_ | refine Qs 18 ?_ | refine Qt 18 ?_ | refine Qu 18 ?_ | fail)
        refine SXA.know 246 false rfl (by simp) ?_
        (first | refine Qr 19 ?_ | refine Qs 19 ?_ | refine Qt 19 ?_ | refine Qu 19 ?_ | fail)
        (first | refine Qr 21 ?_ | refine Qs 21 ?_ | refine Qt 21 ?_ | refine Qu 21 ?_ | fail)
        (first | refine Qr 22 ?_ | refine Qs 22 ?_ | refine Qt 22 ?_ | refine Qu 22 ?_ | fail)
        refine Qw 20 ?_
        refine Qm ?_
        refine SXL.call rfl rfl rfl ?_
        refine (Place_S (b := p) (s := s') (D := D') (d := d') inferInstance (callK.ret ?_))
        refine SXL.nil (SXA.next inferInstance ?_)
        (first | refine Qr 23 ?_ | refine Qs 23 ?_ | refine Qt 23 ?_ | refine Qu 23 ?_ | fail)
        (first | refine Qr 24 ?_ | refine Qs 24 ?_ | refine Qt 24 ?_ | refine Qu 24 ?_ | fail)
        refine Qv ?_
        refine SX.know 252 false rfl (by simp) ?_
        repeat (first | refine Qa ?_ | refine Qb ?_ | refine Qc ?_ | refine Qd ?_ | refine Qe ?_ | refine Qf ?_ | refine Qg ?_ | refine Qh ?_ | refine Qi ?_ | refine Qj ?_ | refine Qk ?_ | refine Ql ?_ | refine Qm ?_ | refine Qn ?_ | refine Qo ?_ | refine Qp ?_ | refine Qq ?_ | fail)
        refine SX.same 12 (.int .i64 ((i + 1 : Nat) : Int)) rfl (by simp (disch := omega) only [IntWalk.i64_in, IntWalk.u8_in, IntWalk.u32_in, IntWalk.u64_in, IntWalk.rem_in, Int.natCast_add, Int.natCast_one]) ?_
        refine SX.again (z - 1) (by omega) ⟨i + 1, s', D', d', by omega, hI', hd', rfl, rfl⟩ (by repeat (first | exact trivial | refine ⟨rfl, ?_⟩)) inferInstance
    have hids : u32ok s.id := by rw [hI.id]; exact hid
    refine Qf ?_
    refine Qe ?_
    repeat (first | refine Qa ?_ | refine Qb ?_ | refine Qc ?_ | fail)
    refine Qd ?_
    generalize hkk : andI .i64 e.k 7 = kk
    refine Qh ?_
    refine Qf ?_
    refine SX.cut (fun a M => a = [(0, .int .u32 id), (2, .slice (some ⟨bb, oo, none⟩) xs.length c), (8, .pointer (some ⟨p, 0, none⟩)), (10, .pointer (some ⟨wb, 0, none⟩)), (12, .int .i64 i), (13, .pointer (some ⟨t, 0, none⟩)), (14, .bool true), (116, .int .i64 kk), (129, .bool (decide (kk = 0 ∨ kk = 1)))] ∧ .own (some ⟨t, 0, none⟩) (cellsR t (actC e x) 51) :: .per (roR (Kd.int .u8) x.A e.c.d) :: .per (roR (Kd.int .u8) x.A1 e.m.c.d) :: .per (roR (Kd.int .u8) x.A2 e.m.r.d) :: .per (roR kE x.A3 e.m.r.e) :: .per (roR (Kd.int .u8) x.A4 e.m.t.d) :: .own (some ⟨p, 0, none⟩) (cellsR p (clC s D d) 91) :: .own (some ⟨wb, 0, none⟩) (cellsR wb (rclC s) 35) :: .own D (rowR (Kd.int .u8) 5 (.slice D s.c.d.length d) s.c.d) :: .per (roR (cellsK kAct.sz) (some ⟨bb, oo, none⟩) css) :: .per (fksR kAct xs css) :: F = M) ?_ ?_
    · repeat (first | refine Qa ?_ | refine Qb ?_ | refine Qc ?_ | refine Qd ?_ | refine Qe ?_ | refine Qf ?_ | refine Qg ?_ | refine Qh ?_ | refine Qi ?_ | refine Qj ?_ | refine Qk ?_ | refine Ql ?_ | refine Qm ?_ | refine Qn ?_ | refine Qo ?_ | refine Qp ?_ | refine Qq ?_ | fail)
      refine SX.cond rfl (fun k0 => ?_) (fun k0 => ?_)
      · repeat (first | refine Qa ?_ | refine Qb ?_ | refine Qc ?_ | refine Qd ?_ | refine Qe ?_ | refine Qf ?_ | refine Qg ?_ | refine Qh ?_ | refine Qi ?_ | refine Qj ?_ | refine Qk ?_ | refine Ql ?_ | refine Qm ?_ | refine Qn ?_ | refine Qo ?_ | refine Qp ?_ | refine Qq ?_ | fail)
        refine SX.same 129 (.bool (decide (kk = 0 ∨ kk = 1))) rfl (by have k9 : kk = 0 := by simpa using k0
                                                                      simp [k9]) ?_
        refine SX.meet ⟨rfl, rfl⟩ (by repeat (first | exact trivial | refine ⟨rfl, ?_⟩)) (by unfold actC; infer_instance)
      · repeat (first | refine Qa ?_ | refine Qb ?_ | refine Qc ?_ | refine Qd ?_ | refine Qe ?_ | refine Qf ?_ | refine Qg ?_ | refine Qh ?_ | refine Qi ?_ | refine Qj ?_ | refine Qk ?_ | refine Ql ?_ | refine Qm ?_ | refine Qn ?_ | refine Qo ?_ | refine Qp ?_ | refine Qq ?_ | fail)
        refine SX.same 129 (.bool (decide (kk = 0 ∨ kk = 1))) rfl (by have k9 : kk ≠ 0 := by simpa using k0
                                                                      congr 1; rw [Bool.eq_iff_iff]; simp [k9]) ?_
        refine SX.meet ⟨rfl, rfl⟩ (by repeat (first | exact trivial | refine ⟨rfl, ?_⟩)) (by unfold actC; infer_instance)
    rintro _ _ ⟨rfl, rfl⟩
    refine SX.condp rfl (fun k1 => ?_) (fun k1 => ?_)
    · unfold actC
      repeat (first | refine Qa ?_ | refine Qb ?_ | refine Qc ?_ | refine Qd ?_ | refine Qe ?_ | refine Qf ?_ | refine Qg ?_ | refine Qh ?_ | refine Qi ?_ | refine Qj ?_ | refine Qk ?_ | refine Ql ?_ | refine Qm ?_ | refine Qn ?_ | refine Qo ?_ | refine Qp ?_ | refine Qq ?_ | fail)
      refine SXL.call rfl rfl rfl ?_
      refine (Begin_S (b := p) (s := s) (D := D) (d := d) (x := e.c) (A := x.A) (a := x.a) inferInstance inferInstance hfit.c (by omega) hids hI.last hew.c (fun ho => callK.ret ?_) (fun ho r n hm hn => callK.ret ?_) (fun ho r hm g B1 b1 B2 b2 hb1 hb2 => callK.ret ?_))
      · repeat (first | refine Qa ?_ | refine Qb ?_ | refine Qc ?_ | fail)
        refine Qd ?_
        refine Qf ?_
        refine SX.cut (fun a M => ∃ z : Nat, a = [(0, .int .u32 id), (2, .slice (some ⟨bb, oo, none⟩) xs.length c), (8, .pointer (some ⟨p, 0, none⟩)), (10, .pointer (some ⟨wb, 0, none⟩)), (12, .int .i64 i), (14, .bool true), (15, .int .u32 0), (16, .slice none 0 0), (17, .int .i64 22), (18, .pointer (some ⟨z, 0, none⟩)), (19, .int .u32 0), (20, .int .i64 22)] ∧ .own (some ⟨z, 0, none⟩) (cellsR z (rclC s) 35) :: .own (some ⟨p, 0, none⟩) (cellsR p (clC s D d) 91) :: .own (some ⟨wb, 0, none⟩) (cellsR wb (rclC s) 35) :: .own D (rowR (Kd.int .u8) 5 (.slice D s.c.d.length d) s.c.d) :: .per (roR (cellsK kAct.sz) (some ⟨bb, oo, none⟩) css) :: .per (fksR kAct xs css) :: F = M) ?_ ?_
        · refine SXA.begin (.own (some ⟨t, 0, none⟩) (cellsR t (actC e x) 51) :: .per (roR (Kd.int .u8) x.A e.c.d) :: .per (roR (Kd.int .u8) x.A1 e.m.c.d) :: .per (roR (Kd.int .u8) x.A2 e.m.r.d) :: .per (roR kE x.A3 e.m.r.e) :: .per (roR (Kd.int .u8) x.A4 e.m.t.d) :: .own (some ⟨p, 0, none⟩) (cellsR p (clC s D d) 91) :: .own (some ⟨wb, 0, none⟩) (cellsR wb (rclC s) 35) :: .own D (rowR (Kd.int .u8) 5 (.slice D s.c.d.length d) s.c.d) :: .per (roR (cellsK kAct.sz) (some ⟨bb, oo, none⟩) css) :: .per (fksR kAct xs css) :: F) [] ?_
          unfold actC
          (first | refine Qr 0 ?_ | refine Qs 0 ?_ | refine Qt 0 ?_ | refine Qu 0 ?_ | fail)
          (first | refine Qr 1 ?_ | refine Qs 1 ?_ | refine Qt 1 ?_ | refine Qu 1 ?_ | fail)
          (first | refine Qr 2 ?_ | refine Qs 2 ?_ | refine Qt 2 ?_ | refine Qu 2 ?_ | fail)
          refine SXA.two 3 9 (by decide +kernel) rfl rfl ?_ ?_
          · skip
            refine SXL.call rfl rfl rfl ?_
            refine (callOf21_S (s := e.c) (A := x.A) inferInstance (callK.ret ?_))
            refine SXL.nil (SXA.next inferInstance ?_)
            refine SXA.two 4 9 (by decide +kernel) rfl rfl ?_ ?_
            · skip
              refine SXL.call rfl rfl rfl ?_
              refine (RBegin21_S (s := s) (x := e.c) hids hew.c (fun _ => callK.ret ?_) (fun ho2 => Bool.noConfusion (ho.symm.trans ho2)) (fun ho2 => Bool.noConfusion (ho.symm.trans ho2)))
              refine SXL.nil (SXA.next inferInstance ?_)
              (first | refine Qr 5 ?_ | refine Qs 5 ?_ | refine Qt 5 ?_ | refine Qu 5 ?_ | fail)
              (first | refine Qr 6 ?_ | refine Qs 6 ?_ | refine Qt 6 ?_ | refine Qu 6 ?_ | fail)
              (first | refine Qr 7 ?_ | refine Qs 7 ?_ | refine Qt 7 ?_ | refine Qu 7 ?_ | fail)
              (first | refine Qr 8 ?_ | refine Qs 8 ?_ | refine Qt 8 ?_ | refine Qu 8 ?_ | fail)
              refine Qw 9 ?_
              refine SXL.alloc rfl rfl (fun z => ?_)
              refine SXL.nil (SXA.next inferInstance ?_)
              (first | refine Qr 10 ?_ | refine Qs 10 ?_ | refine Qt 10 ?_ | refine Qu 10 ?_ | fail)
              (first | refine Qr 11 ?_ | refine Qs 11 ?_ | refine Qt 11 ?_ | refine Qu 11 ?_ | fail)
              (first | refine Qr 12 ?_ | refine Qs 12 ?_ | refine Qt 12 ?_ | refine Qu 12 ?_ | fail)
              refine Qv ?_
              refine SX.meet ⟨z, rfl, rfl⟩ (by repeat (first | exact trivial | refine ⟨rfl, ?_⟩)) inferInstance
            · skip
              refine SXL.alloc rfl rfl (fun z => ?_)
              refine SXL.nil (SXA.next inferInstance ?_)
              refine Qw 4 ?_
              refine SXL.call rfl rfl rfl ?_
              refine (RBegin21_S (s := s) (x := e.c) hids hew.c (fun _ => callK.ret ?_) (fun ho2 => Bool.noConfusion (ho.symm.trans ho2)) (fun ho2 => Bool.noConfusion (ho.symm.trans ho2)))
              refine SXL.nil (SXA.next inferInstance ?_)
              (first | refine Qr 5 ?_ | refine Qs 5 ?_ | refine Qt 5 ?_ | refine Qu 5 ?_ | fail)
              (first | refine Qr 6 ?_ | refine Qs 6 ?_ | refine Qt 6 ?_ | refine Qu 6 ?_ | fail)
              (first | refine Qr 7 ?_ | refine Qs 7 ?_ | refine Qt 7 ?_ | refine Qu 7 ?_ | fail)
              (first | refine Qr 8 ?_ | refine Qs 8 ?_ | refine Qt 8 ?_ | refine Qu 8 ?_ | fail)
              (first | refine Qr 10 ?_ | refine Qs 10 ?_ | refine Qt 10 ?_ | refine Qu 10 ?_ | fail)
              (first | refine Qr 11 ?_ | refine Qs 11 ?_ | refine Qt 11 ?_ | refine Qu 11 ?_ | fail)
              (first | refine Qr 12 ?_ | refine Qs 12 ?_ | refine Qt 12 ?_ | refine Qu 12 ?_ | fail)
              refine Qv ?_
              refine SX.meet ⟨z, rfl, rfl⟩ (by repeat (first | exact trivial | refine ⟨rfl, ?_⟩)) inferInstance
          · skip
            refine SXL.alloc rfl rfl (fun z => ?_)
            refine SXL.nil (SXA.next inferInstance ?_)
            refine Qw 3 ?_
            refine SXL.call rfl rfl rfl ?_
            refine (callOf21_S (s := e.c) (A := x.A) inferInstance (callK.ret ?_))
            refine SXL.nil (SXA.next inferInstance ?_)
            refine Qw 4 ?_
            refine SXL.call rfl rfl rfl ?_
            refine (RBegin21_S (s := s) (x := e.c) hids hew.c (fun _ => callK.ret ?_) (fun ho2 => Bool.noConfusion (ho.symm.trans ho2)) (fun ho2 => Bool.noConfusion (ho.symm.trans ho2)))
            refine SXL.nil (SXA.next inferInstance ?_)
            (first | refine Qr 5 ?_ | refine Qs 5 ?_ | refine Qt 5 ?_ | refine Qu 5 ?_ | fail)
            (first | refine Qr 6 ?_ | refine Qs 6 ?_ | refine Qt 6 ?_ | refine Qu 6 ?_ | fail)
            (first | refine Qr 7 ?_ | refine Qs 7 ?_ | refine Qt 7 ?_ | refine Qu 7 ?_ | fail)
            (first | refine Qr 8 ?_ | refine Qs 8 ?_ | refine Qt 8 ?_ | refine Qu 8 ?_ | fail)
            (first | refine Qr 10 ?_ | refine Qs 10 ?_ | refine Qt 10 ?_ | refine Qu 10 ?_ | fail)
            (first | refine Qr 11 ?_ | refine Qs 11 ?_ | refine Qt 11 ?_ | refine Qu 11 ?_ | fail)
            (first | refine Qr 12 ?_ | refine Qs 12 ?_ | refine Qt 12 ?_ | refine Qu 12 ?_ | fail)
            refine Qv ?_
            refine SX.meet ⟨z, rfl, rfl⟩ (by repeat (first | exact trivial | refine ⟨rfl, ?_⟩)) inferInstance
        rintro _ _ ⟨z, rfl, rfl⟩
        repeat (first | refine Qa ?_ | refine Qb ?_ | refine Qc ?_ | refine Qd ?_ | refine Qe ?_ | refine Qf ?_ | refine Qg ?_ | refine Qh ?_ | refine Qi ?_ | refine Qj ?_ | refine Qk ?_ | refine Ql ?_ | refine Qm ?_ | refine Qn ?_ | refine Qo ?_ | refine Qp ?_ | refine Qq ?_ | fail)
        refine SXL.call rfl rfl rfl ?_
        refine (asksNo21_S (s := s) (callK.ret ?_))
        repeat (first | refine Qa ?_ | refine Qb ?_ | refine Qc ?_ | refine Qd ?_ | refine Qe ?_ | refine Qf ?_ | refine Qg ?_ | refine Qh ?_ | refine Qi ?_ | refine Qj ?_ | refine Qk ?_ | refine Ql ?_ | refine Qm ?_ | refine Qn ?_ | refine Qo ?_ | refine Qp ?_ | refine Qq ?_ | fail)
        refine SX.same 14 (.bool true) rfl rfl ?_
        refine SX.meet ⟨s, D, d, hI, hd, rfl, rfl⟩ (by repeat (first | exact trivial | refine ⟨rfl, ?_⟩)) inferInstance
      · repeat (first | refine Qa ?_ | refine Qb ?_ | refine Qc ?_ | fail)
        refine Qd ?_
        refine Qf ?_
        refine SX.cut (fun a M => ∃ z : Nat, a = [(0, .int .u32 id), (2, .slice (some ⟨bb, oo, none⟩) xs.length c), (8, .pointer (some ⟨p, 0, none⟩)), (10, .pointer (some ⟨wb, 0, none⟩)), (12, .int .i64 i), (14, .bool true), (15, .int .u32 0), (16, .slice none 0 0), (17, .int .i64 n), (18, .pointer (some ⟨z, 0, none⟩)), (19, .int .u32 0), (20, .int .i64 n)] ∧ .own (some ⟨z, 0, none⟩) (cellsR z (rclC s) 35) :: .own (some ⟨p, 0, none⟩) (cellsR p (clC s D d) 91) :: .own (some ⟨wb, 0, none⟩) (cellsR wb (rclC s) 35) :: .own D (rowR (Kd.int .u8) 5 (.slice D s.c.d.length d) s.c.d) :: .per (roR (cellsK kAct.sz) (some ⟨bb, oo, none⟩) css) :: .per (fksR kAct xs css) :: F = M) ?_ ?_
        · refine SXA.begin (.own (some ⟨t, 0, none⟩) (cellsR t (actC e x) 51) :: .per (roR (Kd.int .u8) x.A e.c.d) :: .per (roR (Kd.int .u8) x.A1 e.m.c.d) :: .per (roR (Kd.int .u8) x.A2 e.m.r.d) :: .per (roR kE x.A3 e.m.r.e) :: .per (roR (Kd.int .u8) x.A4 e.m.t.d) :: .own (some ⟨p, 0, none⟩) (cellsR p (clC s D d) 91) :: .own (some ⟨wb, 0, none⟩) (cellsR wb (rclC s) 35) :: .own D (rowR (Kd.int .u8) 5 (.slice D s.c.d.length d) s.c.d) :: .per (roR (cellsK kAct.sz) (some ⟨bb, oo, none⟩) css) :: .per (fksR kAct xs css) :: F) [] ?_
          unfold actC
          (first | refine Qr 0 ?_ | refine Qs 0 ?_ | refine Qt 0 ?_ | refine Qu 0 ?_ | fail)
          (first | refine Qr 1 ?_ | refine Qs 1 ?_ | refine Qt 1 ?_ | refine Qu 1 ?_ | fail)
          (first | refine Qr 2 ?_ | refine Qs 2 ?_ | refine Qt 2 ?_ | refine Qu 2 ?_ | fail)
          refine SXA.two 3 9 (by decide +kernel) rfl rfl ?_ ?_
          · skip
            refine SXL.call rfl rfl rfl ?_
            refine (callOf21_S (s := e.c) (A := x.A) inferInstance (callK.ret ?_))
            refine SXL.nil (SXA.next inferInstance ?_)
            refine SXA.two 4 9 (by decide +kernel) rfl rfl ?_ ?_
            · skip
              refine SXL.call rfl rfl rfl ?_
              refine (RBegin21_S (s := s) (x := e.c) hids hew.c (fun ho2 => Bool.noConfusion (ho.symm.trans ho2)) (fun _ r2 n2 hm2 hn2 => ?_) (fun _ r2 hm2 => absurd (hm.symm.trans hm2) (fun e9 => hn (congrArg Prod.snd e9))))
              obtain rfl : n = n2 := congrArg Prod.snd (hm.symm.trans hm2)
              refine callK.ret ?_
              refine SXL.nil (SXA.next inferInstance ?_)
              (first | refine Qr 5 ?_ | refine Qs 5 ?_ | refine Qt 5 ?_ | refine Qu 5 ?_ | fail)
              (first | refine Qr 6 ?_ | refine Qs 6 ?_ | refine Qt 6 ?_ | refine Qu 6 ?_ | fail)
              (first | refine Qr 7 ?_ | refine Qs 7 ?_ | refine Qt 7 ?_ | refine Qu 7 ?_ | fail)
              (first | refine Qr 8 ?_ | refine Qs 8 ?_ | refine Qt 8 ?_ | refine Qu 8 ?_ | fail)
              refine Qw 9 ?_
              refine SXL.alloc rfl rfl (fun z => ?_)
              refine SXL.nil (SXA.next inferInstance ?_)
              (first | refine Qr 10 ?_ | refine Qs 10 ?_ | refine Qt 10 ?_ | refine Qu 10 ?_ | fail)
              (first | refine Qr 11 ?_ | refine Qs 11 ?_ | refine Qt 11 ?_ | refine Qu 11 ?_ | fail)
              (first | refine Qr 12 ?_ | refine Qs 12 ?_ | refine Qt 12 ?_ | refine Qu 12 ?_ | fail)
              refine Qv ?_
              refine SX.meet ⟨z, rfl, rfl⟩ (by repeat (first | exact trivial | refine ⟨rfl, ?_⟩)) inferInstance
            · skip
              refine SXL.alloc rfl rfl (fun z => ?_)
              refine SXL.nil (SXA.next inferInstance ?_)
              refine Qw 4 ?_
              refine SXL.call rfl rfl rfl ?_
              refine (RBegin21_S (s := s) (x := e.c) hids hew.c (fun ho2 => Bool.noConfusion (ho.symm.trans ho2)) (fun _ r2 n2 hm2 hn2 => ?_) (fun _ r2 hm2 => absurd (hm.symm.trans hm2) (fun e9 => hn (congrArg Prod.snd e9))))
              obtain rfl : n = n2 := congrArg Prod.snd (hm.symm.trans hm2)
              refine callK.ret ?_
              refine SXL.nil (SXA.next inferInstance ?_)
              (first | refine Qr 5 ?_ | refine Qs 5 ?_ | refine Qt 5 ?_ | refine Qu 5 ?_ | fail)
              (first | refine Qr 6 ?_ | refine Qs 6 ?_ | refine Qt 6 ?_ | refine Qu 6 ?_ | fail)
              (first | refine Qr 7 ?_ | refine Qs 7 ?_ | refine Qt 7 ?_ | refine Qu 7 ?_ | fail)
              (first | refine Qr 8 ?_ | refine Qs 8 ?_ | refine Qt 8 ?_ | refine Qu 8 ?_ | fail)
              (first | refine Qr 10 ?_ | refine Qs 10 ?_ | refine Qt 10 ?_ | refine Qu 10 ?_ | fail)
              (first | refine Qr 11 ?_ | refine Qs 11 ?_ | refine Qt 11 ?_ | refine Qu 11 ?_ | fail)
              (first | refine Qr 12 ?_ | refine Qs 12 ?_ | refine Qt 12 ?_ | refine Qu 12 ?_ | fail)
              refine Qv ?_
              refine SX.meet ⟨z, rfl, rfl⟩ (by repeat (first | exact trivial | refine ⟨rfl, ?_⟩)) inferInstance
          · skip
            refine SXL.alloc rfl rfl (fun z => ?_)
            refine SXL.nil (SXA.next inferInstance ?_)
            refine Qw 3 ?_
            refine SXL.call rfl rfl rfl ?_
            refine (callOf21_S (s := e.c) (A := x.A) inferInstance (callK.ret ?_))
            refine SXL.nil (SXA.next inferInstance ?_)
            refine Qw 4 ?_
            refine SXL.call rfl rfl rfl ?_
            refine (RBegin21_S (s := s) (x := e.c) hids hew.c (fun ho2 => Bool.noConfusion (ho.symm.trans ho2)) (fun _ r2 n2 hm2 hn2 => ?_) (fun _ r2 hm2 => absurd (hm.symm.trans hm2) (fun e9 => hn (congrArg Prod.snd e9))))
            obtain rfl : n = n2 := congrArg Prod.snd (hm.symm.trans hm2)
            refine callK.ret ?_
            refine SXL.nil (SXA.next inferInstance ?_)
            (first | refine Qr 5 ?_ | refine Qs 5 ?_ | refine Qt 5 ?_ | refine Qu 5 ?_ | fail)
            (first | refine Qr 6 ?_ | refine Qs 6 ?_ | refine Qt 6 ?_ | refine Qu 6 ?_ | fail)
            (first | refine Qr 7 ?_ | refine Qs 7 ?_ | refine Qt 7 ?_ | refine Qu 7 ?_ | fail)
            (first | refine Qr 8 ?_ | refine Qs 8 ?_ | refine Qt 8 ?_ | refine Qu 8 ?_ | fail)
            (first | refine Qr 10 ?_ | refine Qs 10 ?_ | refine Qt 10 ?_ | refine Qu 10 ?_ | fail)
            (first | refine Qr 11 ?_ | refine Qs 11 ?_ | refine Qt 11 ?_ | refine Qu 11 ?_ | fail)
            (first | refine Qr 12 ?_ | refine Qs 12 ?_ | refine Qt 12 ?_ | refine Qu 12 ?_ | fail)
            refine Qv ?_
            refine SX.meet ⟨z, rfl, rfl⟩ (by repeat (first | exact trivial | refine ⟨rfl, ?_⟩)) inferInstance
        rintro _ _ ⟨z, rfl, rfl⟩
        repeat (first | refine Qa ?_ | refine Qb ?_ | refine Qc ?_ | refine Qd ?_ | refine Qe ?_ | refine Qf ?_ | refine Qg ?_ | refine Qh ?_ | refine Qi ?_ | refine Qj ?_ | refine Qk ?_ | refine Ql ?_ | refine Qm ?_ | refine Qn ?_ | refine Qo ?_ | refine Qp ?_ | refine Qq ?_ | fail)
        refine SXL.know 153 false rfl (by simpa using hn) ?_
        refine SXL.call rfl rfl rfl ?_
        refine (asksNo21_S (s := s) (callK.ret ?_))
        repeat (first | refine Qa ?_ | refine Qb ?_ | refine Qc ?_ | refine Qd ?_ | refine Qe ?_ | refine Qf ?_ | refine Qg ?_ | refine Qh ?_ | refine Qi ?_ | refine Qj ?_ | refine Qk ?_ | refine Ql ?_ | refine Qm ?_ | refine Qn ?_ | refine Qo ?_ | refine Qp ?_ | refine Qq ?_ | fail)
        refine SXL.know 163 true rfl (by simp) ?_
        repeat (first | refine Qa ?_ | refine Qb ?_ | refine Qc ?_ | refine Qd ?_ | refine Qe ?_ | refine Qf ?_ | refine Qg ?_ | refine Qh ?_ | refine Qi ?_ | refine Qj ?_ | refine Qk ?_ | refine Ql ?_ | refine Qm ?_ | refine Qn ?_ | refine Qo ?_ | refine Qp ?_ | refine Qq ?_ | fail)
        refine SX.same 14 (.bool true) rfl rfl ?_
        refine SX.meet ⟨s, D, d, hI, hd, rfl, rfl⟩ (by repeat (first | exact trivial | refine ⟨rfl, ?_⟩)) inferInstance
      · repeat (first | refine Qa ?_ | refine Qb ?_ | refine Qc ?_ | fail)
        refine Qd ?_
        refine Qf ?_
        refine SX.cut (fun a M => ∃ z : Nat, a = [(0, .int .u32 id), (2, .slice (some ⟨bb, oo, none⟩) xs.length c), (8, .pointer (some ⟨p, 0, none⟩)), (10, .pointer (some ⟨wb, 0, none⟩)), (12, .int .i64 i), (14, .bool true), (15, .int .u32 ((s.last + 1) % 4294967296)), (16, .slice (some ⟨g, 0, none⟩) 1 1), (17, .int .i64 0), (18, .pointer (some ⟨z, 0, none⟩)), (19, .int .u32 ((s.last + 1) % 4294967296)), (20, .int .i64 0)] ∧ .own (some ⟨z, 0, none⟩) (cellsR z (rclC (begunC s e.c)) 35) :: .own (some ⟨g, 0, none⟩) (cellsR g (ouC s.pl (asked s e.c) B2 b2) 82) :: .own B2 (rowR (Kd.int .u8) 5 (.slice B2 e.c.d.length b2) e.c.d) :: .own (some ⟨p, 0, none⟩) (cellsR p (clC (begunC s e.c) B1 b1) 91) :: .own (some ⟨wb, 0, none⟩) (cellsR wb (rclC s) 35) :: .own B1 (rowR (Kd.int .u8) 5 (.slice B1 e.c.d.length b1) e.c.d) :: .per (roR (cellsK kAct.sz) (some ⟨bb, oo, none⟩) css) :: .per (fksR kAct xs css) :: F = M) ?_ ?_
        · refine SXA.begin (.own (some ⟨t, 0, none⟩) (cellsR t (actC e x) 51) :: .per (roR (Kd.int .u8) x.A e.c.d) :: .per (roR (Kd.int .u8) x.A1 e.m.c.d) :: .per (roR (Kd.int .u8) x.A2 e.m.r.d) :: .per (roR kE x.A3 e.m.r.e) :: .per (roR (Kd.int .u8) x.A4 e.m.t.d) :: .own (some ⟨g, 0, none⟩) (cellsR g (ouC s.pl (asked s e.c) B2 b2) 82) :: .own B2 (rowR (Kd.int .u8) 5 (.slice B2 e.c.d.length b2) e.c.d) :: .own (some ⟨p, 0, none⟩) (cellsR p (clC (begunC s e.c) B1 b1) 91) :: .own (some ⟨wb, 0, none⟩) (cellsR wb (rclC s) 35) :: .own B1 (rowR (Kd.int .u8) 5 (.slice B1 e.c.d.length b1) e.c.d) :: .per (roR (cellsK kAct.sz) (some ⟨bb, oo, none⟩) css) :: .per (fksR kAct xs css) :: F) [] ?_
          unfold actC
          (first | refine Qr 0 ?_ | refine Qs 0 ?_ | refine Qt 0 ?_ | refine Qu 0 ?_ | fail)
          (first | refine Qr 1 ?_ | refine Qs 1 ?_ | refine Qt 1 ?_ | refine Qu 1 ?_ | fail)
          (first | refine Qr 2 ?_ | refine Qs 2 ?_ | refine Qt 2 ?_ | refine Qu 2 ?_ | fail)
          refine SXA.two 3 9 (by decide +kernel) rfl rfl ?_ ?_
          · skip
            refine SXL.call rfl rfl rfl ?_
            refine (callOf21_S (s := e.c) (A := x.A) inferInstance (callK.ret ?_))
            refine SXL.nil (SXA.next inferInstance ?_)
            refine SXA.two 4 9 (by decide +kernel) rfl rfl ?_ ?_
            · skip
              refine SXL.call rfl rfl rfl ?_
              refine (RBegin21_S (s := s) (x := e.c) hids hew.c (fun ho2 => Bool.noConfusion (ho.symm.trans ho2)) (fun _ r2 n2 hm2 hn2 => absurd (hm.symm.trans hm2) (fun e9 => hn2 (congrArg Prod.snd e9).symm)) (fun _ r2 hm2 => callK.ret ?_))
              refine SXL.nil (SXA.next inferInstance ?_)
              (first | refine Qr 5 ?_ | refine Qs 5 ?_ | refine Qt 5 ?_ | refine Qu 5 ?_ | fail)
              (first | refine Qr 6 ?_ | refine Qs 6 ?_ | refine Qt 6 ?_ | refine Qu 6 ?_ | fail)
              (first | refine Qr 7 ?_ | refine Qs 7 ?_ | refine Qt 7 ?_ | refine Qu 7 ?_ | fail)
              (first | refine Qr 8 ?_ | refine Qs 8 ?_ | refine Qt 8 ?_ | refine Qu 8 ?_ | fail)
              refine Qw 9 ?_
              refine SXL.alloc rfl rfl (fun z => ?_)
              refine SXL.nil (SXA.next inferInstance ?_)
              (first | refine Qr 10 ?_ | refine Qs 10 ?_ | refine Qt 10 ?_ | refine Qu 10 ?_ | fail)
              (first | refine Qr 11 ?_ | refine Qs 11 ?_ | refine Qt 11 ?_ | refine Qu 11 ?_ | fail)
              (first | refine Qr 12 ?_ | refine Qs 12 ?_ | refine Qt 12 ?_ | refine Qu 12 ?_ | fail)
              refine Qv ?_
              refine SX.meet ⟨z, rfl, rfl⟩ (by repeat (first | exact trivial | refine ⟨rfl, ?_⟩)) inferInstance
            · skip
              refine SXL.alloc rfl rfl (fun z => ?_)
              refine SXL.nil (SXA.next inferInstance ?_)
              refine Qw 4 ?_
              refine SXL.call rfl rfl rfl ?_
              refine (RBegin21_S (s := s) (x := e.c) hids hew.c (fun ho2 => Bool.noConfusion (ho.symm.trans ho2)) (fun _ r2 n2 hm2 hn2 => absurd (hm.symm.trans hm2) (fun e9 => hn2 (congrArg Prod.snd e9).symm)) (fun _ r2 hm2 => callK.ret ?_))
              refine SXL.nil (SXA.next inferInstance ?_)
              (first | refine Qr 5 ?_ | refine Qs 5 ?_ | refine Qt 5 ?_ | refine Qu 5 ?_ | fail)
              (first | refine Qr 6 ?_ | refine Qs 6 ?_ | refine Qt 6 ?_ | refine Qu 6 ?_ | fail)
              (first | refine Qr 7 ?_ | refine Qs 7 ?_ | refine Qt 7 ?_ | refine Qu 7 ?_ | fail)
              (first | refine Qr 8 ?_ | refine Qs 8 ?_ | refine Qt 8 ?_ | refine Qu 8 ?_ | fail)
              (first | refine Qr 10 ?_ | refine Qs 10 ?_ | refine Qt 10 ?_ | refine Qu 10 ?_ | fail)
              (first | refine Qr 11 ?_ | refine Qs 11 ?_ | refine Qt 11 ?_ | refine Qu 11 ?_ | fail)
              (first | refine Qr 12 ?_ | refine Qs 12 ?_ | refine Qt 12 ?_ | refine Qu 12 ?_ | fail)
              refine Qv ?_
              refine SX.meet ⟨z, rfl, rfl⟩ (by repeat (first | exact trivial | refine ⟨rfl, ?_⟩)) inferInstance
          · skip
            refine SXL.alloc rfl rfl (fun z => ?_)
            refine SXL.nil (SXA.next inferInstance ?_)
            refine Qw 3 ?_
            refine SXL.call rfl rfl rfl ?_
            refine (callOf21_S (s := e.c) (A := x.A) inferInstance (callK.ret ?_))
            refine SXL.nil (SXA.next inferInstance ?_)
            refine Qw 4 ?_
            refine SXL.call rfl rfl rfl ?_
            refine (RBegin21_S (s := s) (x := e.c) hids hew.c (fun ho2 => Bool.noConfusion (ho.symm.trans ho2)) (fun _ r2 n2 hm2 hn2 => absurd (hm.symm.trans hm2) (fun e9 => hn2 (congrArg Prod.snd e9).symm)) (fun _ r2 hm2 => callK.ret ?_))
            refine SXL.nil (SXA.next inferInstance ?_)
            (first | refine Qr 5 ?_ | refine Qs 5 ?_ | refine Qt 5 ?_ | refine Qu 5 ?_ | fail)
            (first | refine Qr 6 ?_ | refine Qs 6 ?_ | refine Qt 6 ?_ | refine Qu 6 ?_ | fail)
            (first | refine Qr 7 ?_ | refine Qs 7 ?_ | refine Qt 7 ?_ | refine Qu 7 ?_ | fail)
            (first | refine Qr 8 ?_ | refine Qs 8 ?_ | refine Qt 8 ?_ | refine Qu 8 ?_ | fail)
            (first | refine Qr 10 ?_ | refine Qs 10 ?_ | refine Qt 10 ?_ | refine Qu 10 ?_ | fail)
            (first | refine Qr 11 ?_ | refine Qs 11 ?_ | refine Qt 11 ?_ | refine Qu 11 ?_ | fail)
            (first | refine Qr 12 ?_ | refine Qs 12 ?_ | refine Qt 12 ?_ | refine Qu 12 ?_ | fail)
            refine Qv ?_
            refine SX.meet ⟨z, rfl, rfl⟩ (by repeat (first | exact trivial | refine ⟨rfl, ?_⟩)) inferInstance
        rintro _ _ ⟨z, rfl, rfl⟩
        repeat (first | refine Qa ?_ | refine Qb ?_ | refine Qc ?_ | refine Qd ?_ | refine Qe ?_ | refine Qf ?_ | refine Qg ?_ | refine Qh ?_ | refine Qi ?_ | refine Qj ?_ | refine Qk ?_ | refine Ql ?_ | refine Qm ?_ | refine Qn ?_ | refine Qo ?_ | refine Qp ?_ | refine Qq ?_ | fail)
        refine SXL.call rfl rfl rfl ?_
        refine (asks21_S (g := g) (s := begunC s e.c) (A := B2) (a1 := b2) inferInstance inferInstance (callK.ret ?_))
        repeat (first | refine Qa ?_ | refine Qb ?_ | refine Qc ?_ | refine Qd ?_ | refine Qe ?_ | refine Qf ?_ | refine Qg ?_ | refine Qh ?_ | refine Qi ?_ | refine Qj ?_ | refine Qk ?_ | refine Ql ?_ | refine Qm ?_ | refine Qn ?_ | refine Qo ?_ | refine Qp ?_ | refine Qq ?_ | fail)
        refine SXL.know 158 true rfl (by simp) ?_
        repeat (first | refine Qa ?_ | refine Qb ?_ | refine Qc ?_ | refine Qd ?_ | refine Qe ?_ | refine Qf ?_ | refine Qg ?_ | refine Qh ?_ | refine Qi ?_ | refine Qj ?_ | refine Qk ?_ | refine Ql ?_ | refine Qm ?_ | refine Qn ?_ | refine Qo ?_ | refine Qp ?_ | refine Qq ?_ | fail)
        refine SX.same 14 (.bool true) rfl rfl ?_
        refine SX.meet ⟨begunC s e.c, B1, b1, hI.begun hdl, hb1, rfl, rfl⟩ (by repeat (first | exact trivial | refine ⟨rfl, ?_⟩)) inferInstance
    refine Qf ?_
    refine SX.cut (fun a M => a = [(0, .int .u32 id), (2, .slice (some ⟨bb, oo, none⟩) xs.length c), (8, .pointer (some ⟨p, 0, none⟩)), (10, .pointer (some ⟨wb, 0, none⟩)), (12, .int .i64 i), (13, .pointer (some ⟨t, 0, none⟩)), (14, .bool true), (116, .int .i64 kk), (166, .bool (decide (kk = 2 ∨ kk = 3)))] ∧ .own (some ⟨t, 0, none⟩) (cellsR t (actC e x) 51) :: .per (roR (Kd.int .u8) x.A e.c.d) :: .per (roR (Kd.int .u8) x.A1 e.m.c.d) :: .per (roR (Kd.int .u8) x.A2 e.m.r.d) :: .per (roR kE x.A3 e.m.r.e) :: .per (roR (Kd.int .u8) x.A4 e.m.t.d) :: .own (some ⟨p, 0, none⟩) (cellsR p (clC s D d) 91) :: .own (some ⟨wb, 0, none⟩) (cellsR wb (rclC s) 35) :: .own D (rowR (Kd.int .u8) 5 (.slice D s.c.d.length d) s.c.d) :: .per (roR (cellsK kAct.sz) (some ⟨bb, oo, none⟩) css) :: .per (fksR kAct xs css) :: F = M) ?_ ?_
    · repeat (first | refine Qa ?_ | refine Qb ?_ | refine Qc ?_ | refine Qd ?_ | refine Qe ?_ | refine Qf ?_ | refine Qg ?_ | refine Qh ?_ | refine Qi ?_ | refine Qj ?_ | refine Qk ?_ | refine Ql ?_ | refine Qm ?_ | refine Qn ?_ | refine Qo ?_ | refine Qp ?_ | refine Qq ?_ | fail)
      refine SX.cond rfl (fun k0 => ?_) (fun k0 => ?_)
      · repeat (first | refine Qa ?_ | refine Qb ?_ | refine Qc ?_ | refine Qd ?_ | refine Qe ?_ | refine Qf ?_ | refine Qg ?_ | refine Qh ?_ | refine Qi ?_ | refine Qj ?_ | refine Qk ?_ | refine Ql ?_ | refine Qm ?_ | refine Qn ?_ | refine Qo ?_ | refine Qp ?_ | refine Qq ?_ | fail)
        refine SX.same 166 (.bool (decide (kk = 2 ∨ kk = 3))) rfl (by have k9 : kk = 2 := by simpa using k0
                                                                      simp [k9]) ?_
        refine SX.meet ⟨rfl, rfl⟩ (by repeat (first | exact trivial | refine ⟨rfl, ?_⟩)) inferInstance
      · repeat (first | refine Qa ?_ | refine Qb ?_ | refine Qc ?_ | refine Qd ?_ | refine Qe ?_ | refine Qf ?_ | refine Qg ?_ | refine Qh ?_ | refine Qi ?_ | refine Qj ?_ | refine Qk ?_ | refine Ql ?_ | refine Qm ?_ | refine Qn ?_ | refine Qo ?_ | refine Qp ?_ | refine Qq ?_ | fail)
        refine SX.same 166 (.bool (decide (kk = 2 ∨ kk = 3))) rfl (by have k9 : kk ≠ 2 := by simpa using k0
                                                                      congr 1; rw [Bool.eq_iff_iff]; simp [k9]) ?_
        refine SX.meet ⟨rfl, rfl⟩ (by repeat (first | exact trivial | refine ⟨rfl, ?_⟩)) inferInstance
    rintro _ _ ⟨rfl, rfl⟩
    refine SX.condp rfl (fun k2 => ?_) (fun k2 => ?_)
    · unfold actC
      refine Qf ?_
      refine Qe ?_
      repeat (first | refine Qa ?_ | refine Qb ?_ | refine Qc ?_ | fail)
      refine SXL.alloc rfl rfl (fun y => ?_)
      repeat (first | refine Qa ?_ | refine Qb ?_ | refine Qc ?_ | fail)
      refine Qd ?_
      refine Qf ?_
      refine SX.cut (fun a M => ∃ (m : Msg) (A1 A2 A3 A4 : Option Addr) (a1 a2 a3 a4 : Nat), u32ok m.r.free ∧ bytesB m.r.d = true ∧ m.r.e.length ≤ 4398046510976 ∧ m.r.e.length ≤ a3 ∧ Ro (Kd.int .u8) A1 (.per (roR (Kd.int .u8) x.A e.c.d) :: .per (roR (Kd.int .u8) x.A1 e.m.c.d) :: .per (roR (Kd.int .u8) x.A2 e.m.r.d) :: .per (roR kE x.A3 e.m.r.e) :: .per (roR (Kd.int .u8) x.A4 e.m.t.d) :: .per (roR (cellsK kAct.sz) (some ⟨bb, oo, none⟩) css) :: .per (fksR kAct xs css) :: F) m.c.d ∧ Ro (Kd.int .u8) A2 (.per (roR (Kd.int .u8) x.A e.c.d) :: .per (roR (Kd.int .u8) x.A1 e.m.c.d) :: .per (roR (Kd.int .u8) x.A2 e.m.r.d) :: .per (roR kE x.A3 e.m.r.e) :: .per (roR (Kd.int .u8) x.A4 e.m.t.d) :: .per (roR (cellsK kAct.sz) (some ⟨bb, oo, none⟩) css) :: .per (fksR kAct xs css) :: F) m.r.d ∧ Ro kE A3 (.per (roR (Kd.int .u8) x.A e.c.d) :: .per (roR (Kd.int .u8) x.A1 e.m.c.d) :: .per (roR (Kd.int .u8) x.A2 e.m.r.d) :: .per (roR kE x.A3 e.m.r.e) :: .per (roR (Kd.int .u8) x.A4 e.m.t.d) :: .per (roR (cellsK kAct.sz) (some ⟨bb, oo, none⟩) css) :: .per (fksR kAct xs css) :: F) m.r.e ∧ Ro (Kd.int .u8) A4 (.per (roR (Kd.int .u8) x.A e.c.d) :: .per (roR (Kd.int .u8) x.A1 e.m.c.d) :: .per (roR (Kd.int .u8) x.A2 e.m.r.d) :: .per (roR kE x.A3 e.m.r.e) :: .per (roR (Kd.int .u8) x.A4 e.m.t.d) :: .per (roR (cellsK kAct.sz) (some ⟨bb, oo, none⟩) css) :: .per (fksR kAct xs css) :: F) m.t.d ∧
          a = [(0, .int .u32 id), (2, .slice (some ⟨bb, oo, none⟩) xs.length c), (8, .pointer (some ⟨p, 0, none⟩)), (10, .pointer (some ⟨wb, 0, none⟩)), (12, .int .i64 i), (14, .bool true), (22, .pointer (some ⟨y, 0, none⟩))] ∧ .own (some ⟨y, 0, none⟩) (cellsR y (msC m A1 a1 A2 a2 A3 a3 A4 a4) 49) :: .own (some ⟨p, 0, none⟩) (cellsR p (clC s D d) 91) :: .own (some ⟨wb, 0, none⟩) (cellsR wb (rclC s) 35) :: .own D (rowR (Kd.int .u8) 5 (.slice D s.c.d.length d) s.c.d) :: .per (roR (Kd.int .u8) x.A e.c.d) :: .per (roR (Kd.int .u8) x.A1 e.m.c.d) :: .per (roR (Kd.int .u8) x.A2 e.m.r.d) :: .per (roR kE x.A3 e.m.r.e) :: .per (roR (Kd.int .u8) x.A4 e.m.t.d) :: .per (roR (cellsK kAct.sz) (some ⟨bb, oo, none⟩) css) :: .per (fksR kAct xs css) :: F = M) ?_ ?_
      · repeat (first | refine Qa ?_ | refine Qb ?_ | refine Qc ?_ | refine Qd ?_ | refine Qe ?_ | refine Qf ?_ | refine Qg ?_ | refine Qh ?_ | refine Qi ?_ | refine Qj ?_ | refine Qk ?_ | refine Ql ?_ | refine Qm ?_ | refine Qn ?_ | refine Qo ?_ | refine Qp ?_ | refine Qq ?_ | fail)
        refine SX.cond rfl (fun k3 => ?_) (fun k3 => ?_)
        · repeat (first | refine Qa ?_ | refine Qb ?_ | refine Qc ?_ | refine Qd ?_ | refine Qe ?_ | refine Qf ?_ | refine Qg ?_ | refine Qh ?_ | refine Qi ?_ | refine Qj ?_ | refine Qk ?_ | refine Ql ?_ | refine Qm ?_ | refine Qn ?_ | refine Qo ?_ | refine Qp ?_ | refine Qq ?_ | fail)
          refine SX.meet ⟨tellM s.id s.last e.st 0 e.fr, none, none, none, none, 0, 0, 0, 0, hew.fr, rfl, Nat.zero_le _, Nat.le_refl _, inferInstance, inferInstance, inferInstance, inferInstance, rfl, rfl⟩ (by repeat (first | exact trivial | refine ⟨rfl, ?_⟩)) (by unfold msC; infer_instance)
        · repeat (first | refine Qa ?_ | refine Qb ?_ | refine Qc ?_ | refine Qd ?_ | refine Qe ?_ | refine Qf ?_ | refine Qg ?_ | refine Qh ?_ | refine Qi ?_ | refine Qj ?_ | refine Qk ?_ | refine Ql ?_ | refine Qm ?_ | refine Qn ?_ | refine Qo ?_ | refine Qp ?_ | refine Qq ?_ | fail)
          refine SX.meet ⟨e.m, x.A1, x.A2, x.A3, x.A4, x.a1, x.a2, x.a3, x.a4, hew.m.r.free, hew.m.r.d, hew.fit, hfit.m3, inferInstance, inferInstance, inferInstance, inferInstance, rfl, rfl⟩ (by repeat (first | exact trivial | refine ⟨rfl, ?_⟩)) (by unfold msC; infer_instance)
      rintro _ _ ⟨m, A1, A2, A3, A4, a1, a2, a3, a4, hf, hmd, hml, hm3, hrA, hrB, hrC, hrD, rfl, rfl⟩
      unfold msC
      repeat (first | refine Qa ?_ | refine Qb ?_ | refine Qc ?_ | refine Qd ?_ | refine Qe ?_ | refine Qf ?_ | refine Qg ?_ | refine Qh ?_ | refine Qi ?_ | refine Qj ?_ | refine Qk ?_ | refine Ql ?_ | refine Qm ?_ | refine Qn ?_ | refine Qo ?_ | refine Qp ?_ | refine Qq ?_ | fail)
      refine SXL.call rfl rfl rfl ?_
      refine (ClHandle_S (b := p) (s := s) (D := D) (d := d) (m := m) (A1 := A1) (a1 := a1) (A2 := A2) (a2 := a2) (A3 := A3) (a3 := a3) (A4 := A4) (a4 := a4) inferInstance inferInstance hd (by have := hI.len; omega) hf (fun hft => callK.ret ?_) (fun hft hst => callK.ret ?_) (fun hft hst hfr => callK.ret ?_) (fun hft hst hfr g B1 b1 hb1 => callK.ret ?_))
      · repeat (first | refine Qa ?_ | refine Qb ?_ | refine Qc ?_ | refine Qd ?_ | refine Qe ?_ | refine Qf ?_ | refine Qg ?_ | refine Qh ?_ | refine Qi ?_ | refine Qj ?_ | refine Qk ?_ | refine Ql ?_ | refine Qm ?_ | refine Qn ?_ | refine Qo ?_ | refine Qp ?_ | refine Qq ?_ | fail)
        refine SXL.alloc rfl rfl (fun z2 => ?_)
        repeat (first | refine Qa ?_ | refine Qb ?_ | refine Qc ?_ | refine Qd ?_ | refine Qe ?_ | refine Qf ?_ | refine Qg ?_ | refine Qh ?_ | refine Qi ?_ | refine Qj ?_ | refine Qk ?_ | refine Ql ?_ | refine Qm ?_ | refine Qn ?_ | refine Qo ?_ | refine Qp ?_ | refine Qq ?_ | fail)
        refine SX.cut (fun a M => ∃ z : Nat, a = [(0, .int .u32 id), (2, .slice (some ⟨bb, oo, none⟩) xs.length c), (8, .pointer (some ⟨p, 0, none⟩)), (10, .pointer (some ⟨wb, 0, none⟩)), (12, .int .i64 i), (14, .bool true), (22, .pointer (some ⟨y, 0, none⟩)), (23, .pointer (some ⟨z2, 0, none⟩)), (24, .bool false), (25, .slice none 0 0), (26, .pointer (some ⟨z, 0, none⟩)), (27, .bool false), (28, .bool false)] ∧ .own (some ⟨z, 0, none⟩) (cellsR z (rclC s) 35) :: .own (some ⟨z2, 0, none⟩) (cellsR z2 (reC Re0 none 0 none 0) 45) :: .own (some ⟨y, 0, none⟩) (cellsR y (msC m A1 a1 A2 a2 A3 a3 A4 a4) 49) :: .own (some ⟨p, 0, none⟩) (cellsR p (clC s D d) 91) :: .own (some ⟨wb, 0, none⟩) (cellsR wb (rclC s) 35) :: .own D (rowR (Kd.int .u8) 5 (.slice D s.c.d.length d) s.c.d) :: .per (roR (Kd.int .u8) x.A e.c.d) :: .per (roR (Kd.int .u8) x.A1 e.m.c.d) :: .per (roR (Kd.int .u8) x.A2 e.m.r.d) :: .per (roR kE x.A3 e.m.r.e) :: .per (roR (Kd.int .u8) x.A4 e.m.t.d) :: .per (roR (cellsK kAct.sz) (some ⟨bb, oo, none⟩) css) :: .per (fksR kAct xs css) :: F = M) ?_ ?_
        · refine SXA.begin (.own (some ⟨y, 0, none⟩) (cellsR y (msC m A1 a1 A2 a2 A3 a3 A4 a4) 49) :: .own (some ⟨p, 0, none⟩) (cellsR p (clC s D d) 91) :: .own (some ⟨wb, 0, none⟩) (cellsR wb (rclC s) 35) :: .own D (rowR (Kd.int .u8) 5 (.slice D s.c.d.length d) s.c.d) :: .per (roR (Kd.int .u8) x.A e.c.d) :: .per (roR (Kd.int .u8) x.A1 e.m.c.d) :: .per (roR (Kd.int .u8) x.A2 e.m.r.d) :: .per (roR kE x.A3 e.m.r.e) :: .per (roR (Kd.int .u8) x.A4 e.m.t.d) :: .per (roR (cellsK kAct.sz) (some ⟨bb, oo, none⟩) css) :: .per (fksR kAct xs css) :: F) [] ?_
          unfold msC
          (first | refine Qr 0 ?_ | refine Qs 0 ?_ | refine Qt 0 ?_ | refine Qu 0 ?_ | fail)
          (first | refine Qr 1 ?_ | refine Qs 1 ?_ | refine Qt 1 ?_ | refine Qu 1 ?_ | fail)
          refine SXA.two 2 8 (by decide +kernel) rfl rfl ?_ ?_
          · skip
            refine SXL.call rfl rfl rfl ?_
            refine (msgOf21_S (m := m) (A := A1) (a1 := a1) (B := A2) (a2 := a2) (C := A3) (a3 := a3) (D := A4) (a4 := a4) inferInstance inferInstance inferInstance inferInstance hml hm3 (fun B5 d5 hd5 => callK.ret ?_))
            refine SXL.nil (SXA.next inferInstance ?_)
            refine SXA.two 3 8 (by decide +kernel) rfl rfl ?_ ?_
            · skip
              refine SXL.call rfl rfl rfl ?_
              refine (RHandle21_S (s := s) (m := m) hf (fun _ => callK.ret ?_) (fun hf2 => Bool.noConfusion (hft.symm.trans ((fits_eq hI).symm.trans hf2))) (fun hf2 => Bool.noConfusion (hft.symm.trans ((fits_eq hI).symm.trans hf2))) (fun hf2 => Bool.noConfusion (hft.symm.trans ((fits_eq hI).symm.trans hf2))))
              refine SXL.nil (SXA.next inferInstance ?_)
              (first | refine Qr 4 ?_ | refine Qs 4 ?_ | refine Qt 4 ?_ | refine Qu 4 ?_ | fail)
              (first | refine Qr 5 ?_ | refine Qs 5 ?_ | refine Qt 5 ?_ | refine Qu 5 ?_ | fail)
              (first | refine Qr 6 ?_ | refine Qs 6 ?_ | refine Qt 6 ?_ | refine Qu 6 ?_ | fail)
              (first | refine Qr 7 ?_ | refine Qs 7 ?_ | refine Qt 7 ?_ | refine Qu 7 ?_ | fail)
              refine Qw 8 ?_
              refine SXL.alloc rfl rfl (fun z => ?_)
              refine SXL.nil (SXA.next inferInstance ?_)
              (first | refine Qr 9 ?_ | refine Qs 9 ?_ | refine Qt 9 ?_ | refine Qu 9 ?_ | fail)
              (first | refine Qr 10 ?_ | refine Qs 10 ?_ | refine Qt 10 ?_ | refine Qu 10 ?_ | fail)
              (first | refine Qr 11 ?_ | refine Qs 11 ?_ | refine Qt 11 ?_ | refine Qu 11 ?_ | fail)
              refine Qv ?_
              refine SX.meet ⟨z, rfl, rfl⟩ (by repeat (first | exact trivial | refine ⟨rfl, ?_⟩)) (by unfold reC; infer_instance)
            · skip
              refine SXL.alloc rfl rfl (fun z => ?_)
              refine SXL.nil (SXA.next inferInstance ?_)
              refine Qw 3 ?_
              refine SXL.call rfl rfl rfl ?_
              refine (RHandle21_S (s := s) (m := m) hf (fun _ => callK.ret ?_) (fun hf2 => Bool.noConfusion (hft.symm.trans ((fits_eq hI).symm.trans hf2))) (fun hf2 => Bool.noConfusion (hft.symm.trans ((fits_eq hI).symm.trans hf2))) (fun hf2 => Bool.noConfusion (hft.symm.trans ((fits_eq hI).symm.trans hf2))))
              refine SXL.nil (SXA.next inferInstance ?_)
              (first | refine Qr 4 ?_ | refine Qs 4 ?_ | refine Qt 4 ?_ | refine Qu 4 ?_ | fail)
              (first | refine Qr 5 ?_ | refine Qs 5 ?_ | refine Qt 5 ?_ | refine Qu 5 ?_ | fail)
              (first | refine Qr 6 ?_ | refine Qs 6 ?_ | refine Qt 6 ?_ | refine Qu 6 ?_ | fail)
              (first | refine Qr 7 ?_ | refine Qs 7 ?_ | refine Qt 7 ?_ | refine Qu 7 ?_ | fail)
              (first | refine Qr 9 ?_ | refine Qs 9 ?_ | refine Qt 9 ?_ | refine Qu 9 ?_ | fail)
              (first | refine Qr 10 ?_ | refine Qs 10 ?_ | refine Qt 10 ?_ | refine Qu 10 ?_ | fail)
              (first | refine Qr 11 ?_ | refine Qs 11 ?_ | refine Qt 11 ?_ | refine Qu 11 ?_ | fail)
              refine Qv ?_
              refine SX.meet ⟨z, rfl, rfl⟩ (by repeat (first | exact trivial | refine ⟨rfl, ?_⟩)) (by unfold reC; infer_instance)
          · skip
            refine SXL.alloc rfl rfl (fun z => ?_)
            refine SXL.nil (SXA.next inferInstance ?_)
            refine Qw 2 ?_
            refine SXL.call rfl rfl rfl ?_
            refine (msgOf21_S (m := m) (A := A1) (a1 := a1) (B := A2) (a2 := a2) (C := A3) (a3 := a3) (D := A4) (a4 := a4) inferInstance inferInstance inferInstance inferInstance hml hm3 (fun B5 d5 hd5 => callK.ret ?_))
            refine SXL.nil (SXA.next inferInstance ?_)
            refine Qw 3 ?_
            refine SXL.call rfl rfl rfl ?_
            refine (RHandle21_S (s := s) (m := m) hf (fun _ => callK.ret ?_) (fun hf2 => Bool.noConfusion (hft.symm.trans ((fits_eq hI).symm.trans hf2))) (fun hf2 => Bool.noConfusion (hft.symm.trans ((fits_eq hI).symm.trans hf2))) (fun hf2 => Bool.noConfusion (hft.symm.trans ((fits_eq hI).symm.trans hf2))))
            refine SXL.nil (SXA.next inferInstance ?_)
            (first | refine Qr 4 ?_ | refine Qs 4 ?_ | refine Qt 4 ?_ | refine Qu 4 ?_ | fail)
            (first | refine Qr 5 ?_ | refine Qs 5 ?_ | refine Qt 5 ?_ | refine Qu 5 ?_ | fail)
            (first | refine Qr 6 ?_ | refine Qs 6 ?_ | refine Qt 6 ?_ | refine Qu 6 ?_ | fail)
            (first | refine Qr 7 ?_ | refine Qs 7 ?_ | refine Qt 7 ?_ | refine Qu 7 ?_ | fail)
            (first | refine Qr 9 ?_ | refine Qs 9 ?_ | refine Qt 9 ?_ | refine Qu 9 ?_ | fail)
            (first | refine Qr 10 ?_ | refine Qs 10 ?_ | refine Qt 10 ?_ | refine Qu 10 ?_ | fail)
            (first | refine Qr 11 ?_ | refine Qs 11 ?_ | refine Qt 11 ?_ | refine Qu 11 ?_ | fail)
            refine Qv ?_
            refine SX.meet ⟨z, rfl, rfl⟩ (by repeat (first | exact trivial | refine ⟨rfl, ?_⟩)) (by unfold reC; infer_instance)
        rintro _ _ ⟨z, rfl, rfl⟩
        repeat (first | refine Qa ?_ | refine Qb ?_ | refine Qc ?_ | refine Qd ?_ | refine Qe ?_ | refine Qf ?_ | refine Qg ?_ | refine Qh ?_ | refine Qi ?_ | refine Qj ?_ | refine Qk ?_ | refine Ql ?_ | refine Qm ?_ | refine Qn ?_ | refine Qo ?_ | refine Qp ?_ | refine Qq ?_ | fail)
        refine SXL.call rfl rfl rfl ?_
        refine (asksNo21_S (s := s) (callK.ret ?_))
        repeat (first | refine Qa ?_ | refine Qb ?_ | refine Qc ?_ | refine Qd ?_ | refine Qe ?_ | refine Qf ?_ | refine Qg ?_ | refine Qh ?_ | refine Qi ?_ | refine Qj ?_ | refine Qk ?_ | refine Ql ?_ | refine Qm ?_ | refine Qn ?_ | refine Qo ?_ | refine Qp ?_ | refine Qq ?_ | fail)
        refine SXA.begin (.own (some ⟨z2, 0, none⟩) (cellsR z2 (reC Re0 none 0 none 0) 45) :: .own (some ⟨y, 0, none⟩) (cellsR y (msC m A1 a1 A2 a2 A3 a3 A4 a4) 49) :: .per (roR (Kd.int .u8) x.A e.c.d) :: .per (roR (Kd.int .u8) x.A1 e.m.c.d) :: .per (roR (Kd.int .u8) x.A2 e.m.r.d) :: .per (roR kE x.A3 e.m.r.e) :: .per (roR (Kd.int .u8) x.A4 e.m.t.d) :: .per (roR (cellsK kAct.sz) (some ⟨bb, oo, none⟩) css) :: .per (fksR kAct xs css) :: F) [] ?_
        (first | refine Qr 0 ?_ | refine Qs 0 ?_ | refine Qt 0 ?_ | refine Qu 0 ?_ | fail)
        (first | refine Qr 1 ?_ | refine Qs 1 ?_ | refine Qt 1 ?_ | refine Qu 1 ?_ | fail)
        (first | refine Qr 2 ?_ | refine Qs 2 ?_ | refine Qt 2 ?_ | refine Qu 2 ?_ | fail)
        (first | refine Qr 3 ?_ | refine Qs 3 ?_ | refine Qt 3 ?_ | refine Qu 3 ?_ | fail)
        (first | refine Qr 4 ?_ | refine Qs 4 ?_ | refine Qt 4 ?_ | refine Qu 4 ?_ | fail)
        (first | refine Qr 5 ?_ | refine Qs 5 ?_ | refine Qt 5 ?_ | refine Qu 5 ?_ | fail)
        (first | refine Qr 6 ?_ | refine Qs 6 ?_ | refine Qt 6 ?_ | refine Qu 6 ?_ | fail)
        (first | refine Qr 7 ?_ | refine Qs 7 ?_ | refine Qt 7 ?_ | refine Qu 7 ?_ | fail)
        (first | refine Qr 8 ?_ | refine Qs 8 ?_ | refine Qt 8 ?_ | refine Qu 8 ?_ | fail)
        (first | refine Qr 9 ?_ | refine Qs 9 ?_ | refine Qt 9 ?_ | refine Qu 9 ?_ | fail)
        (first | refine Qr 10 ?_ | refine Qs 10 ?_ | refine Qt 10 ?_ | refine Qu 10 ?_ | fail)
        (first | refine Qr 11 ?_ | refine Qs 11 ?_ | refine Qt 11 ?_ | refine Qu 11 ?_ | fail)
        (first | refine Qr 12 ?_ | refine Qs 12 ?_ | refine Qt 12 ?_ | refine Qu 12 ?_ | fail)
        (first | refine Qr 13 ?_ | refine Qs 13 ?_ | refine Qt 13 ?_ | refine Qu 13 ?_ | fail)
        (first | refine Qr 14 ?_ | refine Qs 14 ?_ | refine Qt 14 ?_ | refine Qu 14 ?_ | fail)
        (first | refine Qr 15 ?_ | refine Qs 15 ?_ | refine Qt 15 ?_ | refine Qu 15 ?_ | fail)
        (first | refine Qr 16 ?_ | refine Qs 16 ?_ | refine Qt 16 ?_ | refine Qu 16 ?_ | fail)
        (first | refine Qr 17 ?_ | refine Qs 17 ?_ | refine Qt 17 ?_ | refine Qu 17 ?_ | fail)
        (first | refine Qr 18 ?_ | refine Qs 18 ?_ | refine Qt 18 ?_ | refine Qu 18 ?_ | fail)
        refine Qv ?_
        refine SX.same 14 (.bool true) rfl rfl ?_
        repeat (first | refine Qa ?_ | refine Qb ?_ | refine Qc ?_ | refine Qd ?_ | refine Qe ?_ | refine Qf ?_ | refine Qg ?_ | refine Qh ?_ | refine Qi ?_ | refine Qj ?_ | refine Qk ?_ | refine Ql ?_ | refine Qm ?_ | refine Qn ?_ | refine Qo ?_ | refine Qp ?_ | refine Qq ?_ | fail)
        refine SX.meet ⟨s, D, d, hI, hd, rfl, rfl⟩ (by repeat (first | exact trivial | refine ⟨rfl, ?_⟩)) inferInstance
      · repeat (first | refine Qa ?_ | refine Qb ?_ | refine Qc ?_ | refine Qd ?_ | refine Qe ?_ | refine Qf ?_ | refine Qg ?_ | refine Qh ?_ | refine Qi ?_ | refine Qj ?_ | refine Qk ?_ | refine Ql ?_ | refine Qm ?_ | refine Qn ?_ | refine Qo ?_ | refine Qp ?_ | refine Qq ?_ | fail)
        refine SXL.alloc rfl rfl (fun z2 => ?_)
        repeat (first | refine Qa ?_ | refine Qb ?_ | refine Qc ?_ | refine Qd ?_ | refine Qe ?_ | refine Qf ?_ | refine Qg ?_ | refine Qh ?_ | refine Qi ?_ | refine Qj ?_ | refine Qk ?_ | refine Ql ?_ | refine Qm ?_ | refine Qn ?_ | refine Qo ?_ | refine Qp ?_ | refine Qq ?_ | fail)
        refine SX.cut (fun a M => ∃ z : Nat, a = [(0, .int .u32 id), (2, .slice (some ⟨bb, oo, none⟩) xs.length c), (8, .pointer (some ⟨p, 0, none⟩)), (10, .pointer (some ⟨wb, 0, none⟩)), (12, .int .i64 i), (14, .bool true), (22, .pointer (some ⟨y, 0, none⟩)), (23, .pointer (some ⟨z2, 0, none⟩)), (24, .bool true), (25, .slice none 0 0), (26, .pointer (some ⟨z, 0, none⟩)), (27, .bool true), (28, .bool false)] ∧ .own (some ⟨z, 0, none⟩) (cellsR z (rclC (shut s)) 35) :: .own (some ⟨z2, 0, none⟩) (cellsR z2 (reC m.r A2 a2 A3 a3) 45) :: .own (some ⟨y, 0, none⟩) (cellsR y (msC m A1 a1 A2 a2 A3 a3 A4 a4) 49) :: .own (some ⟨p, 0, none⟩) (cellsR p (clC (shut s) D d) 91) :: .own (some ⟨wb, 0, none⟩) (cellsR wb (rclC s) 35) :: .own D (rowR (Kd.int .u8) 5 (.slice D s.c.d.length d) s.c.d) :: .per (roR (Kd.int .u8) x.A e.c.d) :: .per (roR (Kd.int .u8) x.A1 e.m.c.d) :: .per (roR (Kd.int .u8) x.A2 e.m.r.d) :: .per (roR kE x.A3 e.m.r.e) :: .per (roR (Kd.int .u8) x.A4 e.m.t.d) :: .per (roR (cellsK kAct.sz) (some ⟨bb, oo, none⟩) css) :: .per (fksR kAct xs css) :: F = M) ?_ ?_
        · refine SXA.begin (.own (some ⟨y, 0, none⟩) (cellsR y (msC m A1 a1 A2 a2 A3 a3 A4 a4) 49) :: .own (some ⟨p, 0, none⟩) (cellsR p (clC (shut s) D d) 91) :: .own (some ⟨wb, 0, none⟩) (cellsR wb (rclC s) 35) :: .own D (rowR (Kd.int .u8) 5 (.slice D s.c.d.length d) s.c.d) :: .per (roR (Kd.int .u8) x.A e.c.d) :: .per (roR (Kd.int .u8) x.A1 e.m.c.d) :: .per (roR (Kd.int .u8) x.A2 e.m.r.d) :: .per (roR kE x.A3 e.m.r.e) :: .per (roR (Kd.int .u8) x.A4 e.m.t.d) :: .per (roR (cellsK kAct.sz) (some ⟨bb, oo, none⟩) css) :: .per (fksR kAct xs css) :: F) [] ?_
          unfold msC
          (first | refine Qr 0 ?_ | refine Qs 0 ?_ | refine Qt 0 ?_ | refine Qu 0 ?_ | fail)
          (first | refine Qr 1 ?_ | refine Qs 1 ?_ | refine Qt 1 ?_ | refine Qu 1 ?_ | fail)
          refine SXA.two 2 8 (by decide +kernel) rfl rfl ?_ ?_
          · skip
            refine SXL.call rfl rfl rfl ?_
            refine (msgOf21_S (m := m) (A := A1) (a1 := a1) (B := A2) (a2 := a2) (C := A3) (a3 := a3) (D := A4) (a4 := a4) inferInstance inferInstance inferInstance inferInstance hml hm3 (fun B5 d5 hd5 => callK.ret ?_))
            refine SXL.nil (SXA.next inferInstance ?_)
            refine SXA.two 3 8 (by decide +kernel) rfl rfl ?_ ?_
            · skip
              refine SXL.call rfl rfl rfl ?_
              refine (RHandle21_S (s := s) (m := m) hf (fun hf2 => Bool.noConfusion (hft.symm.trans ((fits_eq hI).symm.trans hf2))) (fun _ _ => callK.ret ?_) (fun _ h71 => absurd h71 hst) (fun _ h71 => absurd h71 hst))
              refine SXL.nil (SXA.next inferInstance ?_)
              (first | refine Qr 4 ?_ | refine Qs 4 ?_ | refine Qt 4 ?_ | refine Qu 4 ?_ | fail)
              (first | refine Qr 5 ?_ | refine Qs 5 ?_ | refine Qt 5 ?_ | refine Qu 5 ?_ | fail)
              (first | refine Qr 6 ?_ | refine Qs 6 ?_ | refine Qt 6 ?_ | refine Qu 6 ?_ | fail)
              (first | refine Qr 7 ?_ | refine Qs 7 ?_ | refine Qt 7 ?_ | refine Qu 7 ?_ | fail)
              refine Qw 8 ?_
              refine SXL.alloc rfl rfl (fun z => ?_)
              refine SXL.nil (SXA.next inferInstance ?_)
              (first | refine Qr 9 ?_ | refine Qs 9 ?_ | refine Qt 9 ?_ | refine Qu 9 ?_ | fail)
              (first | refine Qr 10 ?_ | refine Qs 10 ?_ | refine Qt 10 ?_ | refine Qu 10 ?_ | fail)
              (first | refine Qr 11 ?_ | refine Qs 11 ?_ | refine Qt 11 ?_ | refine Qu 11 ?_ | fail)
              refine Qv ?_
              refine SX.meet ⟨z, rfl, rfl⟩ (by repeat (first | exact trivial | refine ⟨rfl, ?_⟩)) (by unfold reC; infer_instance)
            · skip
              refine SXL.alloc rfl rfl (fun z => ?_)
              refine SXL.nil (SXA.next inferInstance ?_)
              refine Qw 3 ?_
              refine SXL.call rfl rfl rfl ?_
              refine (RHandle21_S (s := s) (m := m) hf (fun hf2 => Bool.noConfusion (hft.symm.trans ((fits_eq hI).symm.trans hf2))) (fun _ _ => callK.ret ?_) (fun _ h71 => absurd h71 hst) (fun _ h71 => absurd h71 hst))
              refine SXL.nil (SXA.next inferInstance ?_)
              (first | refine Qr 4 ?_ | refine Qs 4 ?_ | refine Qt 4 ?_ | refine Qu 4 ?_ | fail)
              (first | refine Qr 5 ?_ | refine Qs 5 ?_ | refine Qt 5 ?_ | refine Qu 5 ?_ | fail)
              (first | refine Qr 6 ?_ | refine Qs 6 ?_ | refine Qt 6 ?_ | refine Qu 6 ?_ | fail)
              (first | refine Qr 7 ?_ | refine Qs 7 ?_ | refine Qt 7 ?_ | refine Qu 7 ?_ | fail)
              (first | refine Qr 9 ?_ | refine Qs 9 ?_ | refine Qt 9 ?_ | refine Qu 9 ?_ | fail)
              (first | refine Qr 10 ?_ | refine Qs 10 ?_ | refine Qt 10 ?_ | refine Qu 10 ?_ | fail)
              (first | refine Qr 11 ?_ | refine Qs 11 ?_ | refine Qt 11 ?_ | refine Qu 11 ?_ | fail)
              refine Qv ?_
              refine SX.meet ⟨z, rfl, rfl⟩ (by repeat (first | exact trivial | refine ⟨rfl, ?_⟩)) (by unfold reC; infer_instance)
          · skip
            refine SXL.alloc rfl rfl (fun z => ?_)
            refine SXL.nil (SXA.next inferInstance ?_)
            refine Qw 2 ?_
            refine SXL.call rfl rfl rfl ?_
            refine (msgOf21_S (m := m) (A := A1) (a1 := a1) (B := A2) (a2 := a2) (C := A3) (a3 := a3) (D := A4) (a4 := a4) inferInstance inferInstance inferInstance inferInstance hml hm3 (fun B5 d5 hd5 => callK.ret ?_))
            refine SXL.nil (SXA.next inferInstance ?_)
            refine Qw 3 ?_
            refine SXL.call rfl rfl rfl ?_
            refine (RHandle21_S (s := s) (m := m) hf (fun hf2 => Bool.noConfusion (hft.symm.trans ((fits_eq hI).symm.trans hf2))) (fun _ _ => callK.ret ?_) (fun _ h71 => absurd h71 hst) (fun _ h71 => absurd h71 hst))
            refine SXL.nil (SXA.next inferInstance ?_)
            (first | refine Qr 4 ?_ | refine Qs 4 ?_ | refine Qt 4 ?_ | refine Qu 4 ?_ | fail)
            (first | refine Qr 5 ?_ | refine Qs 5 ?_ | refine Qt 5 ?_ | refine Qu 5 ?_ | fail)
            (first | refine Qr 6 ?_ | refine Qs 6 ?_ | refine Qt 6 ?_ | refine Qu 6 ?_ | fail)
            (first | refine Qr 7 ?_ | refine Qs 7 ?_ | refine Qt 7 ?_ | refine Qu 7 ?_ | fail)
            (first | refine Qr 9 ?_ | refine Qs 9 ?_ | refine Qt 9 ?_ | refine Qu 9 ?_ | fail)
            (first | refine Qr 10 ?_ | refine Qs 10 ?_ | refine Qt 10 ?_ | refine Qu 10 ?_ | fail)
            (first | refine Qr 11 ?_ | refine Qs 11 ?_ | refine Qt 11 ?_ | refine Qu 11 ?_ | fail)
            refine Qv ?_
            refine SX.meet ⟨z, rfl, rfl⟩ (by repeat (first | exact trivial | refine ⟨rfl, ?_⟩)) (by unfold reC; infer_instance)
        rintro _ _ ⟨z, rfl, rfl⟩
        repeat (first | refine Qa ?_ | refine Qb ?_ | refine Qc ?_ | refine Qd ?_ | refine Qe ?_ | refine Qf ?_ | refine Qg ?_ | refine Qh ?_ | refine Qi ?_ | refine Qj ?_ | refine Qk ?_ | refine Ql ?_ | refine Qm ?_ | refine Qn ?_ | refine Qo ?_ | refine Qp ?_ | refine Qq ?_ | fail)
        refine SXL.call rfl rfl rfl ?_
        refine (asksNo21_S (s := (shut s)) (callK.ret ?_))
        repeat (first | refine Qa ?_ | refine Qb ?_ | refine Qc ?_ | refine Qd ?_ | refine Qe ?_ | refine Qf ?_ | refine Qg ?_ | refine Qh ?_ | refine Qi ?_ | refine Qj ?_ | refine Qk ?_ | refine Ql ?_ | refine Qm ?_ | refine Qn ?_ | refine Qo ?_ | refine Qp ?_ | refine Qq ?_ | fail)
        refine SXA.begin (.own (some ⟨z2, 0, none⟩) (cellsR z2 (reC m.r A2 a2 A3 a3) 45) :: .own (some ⟨y, 0, none⟩) (cellsR y (msC m A1 a1 A2 a2 A3 a3 A4 a4) 49) :: .per (roR (Kd.int .u8) x.A e.c.d) :: .per (roR (Kd.int .u8) x.A1 e.m.c.d) :: .per (roR (Kd.int .u8) x.A2 e.m.r.d) :: .per (roR kE x.A3 e.m.r.e) :: .per (roR (Kd.int .u8) x.A4 e.m.t.d) :: .per (roR (cellsK kAct.sz) (some ⟨bb, oo, none⟩) css) :: .per (fksR kAct xs css) :: F) [] ?_
        unfold msC reC
        (first | refine Qr 0 ?_ | refine Qs 0 ?_ | refine Qt 0 ?_ | refine Qu 0 ?_ | fail)
        (first | refine Qr 1 ?_ | refine Qs 1 ?_ | refine Qt 1 ?_ | refine Qu 1 ?_ | fail)
        (first | refine Qr 2 ?_ | refine Qs 2 ?_ | refine Qt 2 ?_ | refine Qu 2 ?_ | fail)
        (first | refine Qr 3 ?_ | refine Qs 3 ?_ | refine Qt 3 ?_ | refine Qu 3 ?_ | fail)
        (first | refine Qr 4 ?_ | refine Qs 4 ?_ | refine Qt 4 ?_ | refine Qu 4 ?_ | fail)
        (first | refine Qr 5 ?_ | refine Qs 5 ?_ | refine Qt 5 ?_ | refine Qu 5 ?_ | fail)
        (first | refine Qr 6 ?_ | refine Qs 6 ?_ | refine Qt 6 ?_ | refine Qu 6 ?_ | fail)
        (first | refine Qr 7 ?_ | refine Qs 7 ?_ | refine Qt 7 ?_ | refine Qu 7 ?_ | fail)
        (first | refine Qr 8 ?_ | refine Qs 8 ?_ | refine Qt 8 ?_ | refine Qu 8 ?_ | fail)
        (first | refine Qr 9 ?_ | refine Qs 9 ?_ | refine Qt 9 ?_ | refine Qu 9 ?_ | fail)
        (first | refine Qr 10 ?_ | refine Qs 10 ?_ | refine Qt 10 ?_ | refine Qu 10 ?_ | fail)
        (first | refine Qr 12 ?_ | refine Qs 12 ?_ | refine Qt 12 ?_ | refine Qu 12 ?_ | fail)
        (first | refine Qr 13 ?_ | refine Qs 13 ?_ | refine Qt 13 ?_ | refine Qu 13 ?_ | fail)
        refine Qw 11 ?_
        refine Qm ?_
        refine SXL.call rfl rfl rfl ?_
        refine (replyOf21_S (s := m.r) (A := A2) (c := a2) (B := A3) (c2 := a3) inferInstance inferInstance hml hm3 (fun B6 d6 hd6 => callK.ret ?_))
        refine SXL.nil (SXA.next inferInstance ?_)
        refine Qw 14 ?_
        refine Qm ?_
        refine SXL.call rfl rfl rfl ?_
        refine (replyOf21_S (s := m.r) (A := A2) (c := a2) (B := A3) (c2 := a3) inferInstance inferInstance hml hm3 (fun B7 d7 hd7 => callK.ret ?_))
        refine SXL.nil (SXA.next inferInstance ?_)
        refine Qw 15 ?_
        refine Qm ?_
        refine SXL.call rfl rfl rfl ?_
        refine (SameRe_S (s := m.r) (u := m.r) (B := B6) (c2 := d6) (B' := B7) (c' := d7) inferInstance inferInstance hd6 hd7 hml (callK.ret ?_))
        refine SXL.nil (SXA.next inferInstance ?_)
        refine SXA.know 220 true rfl ((sameRe_iff hmd hmd).2 rfl) ?_
        (first | refine Qr 16 ?_ | refine Qs 16 ?_ | refine Qt 16 ?_ | refine Qu 16 ?_ | fail)
        (first | refine Qr 17 ?_ | refine Qs 17 ?_ | refine Qt 17 ?_ | refine Qu 17 ?_ | fail)
        (first | refine Qr 18 ?_ | refine Qs 18 ?_ | refine Qt 18 ?_ | refine Qu 18 ?_ | fail)
        refine Qv ?_
        refine SX.same 14 (.bool true) rfl rfl ?_
        repeat (first | refine Qa ?_ | refine Qb ?_ | refine Qc ?_ | refine Qd ?_ | refine Qe ?_ | refine Qf ?_ | refine Qg ?_ | refine Qh ?_ | refine Qi ?_ | refine Qj ?_ | refine Qk ?_ | refine Ql ?_ | refine Qm ?_ | refine Qn ?_ | refine Qo ?_ | refine Qp ?_ | refine Qq ?_ | fail)
        refine SX.meet ⟨(shut s), D, d, hI.shut, hd, rfl, rfl⟩ (by repeat (first | exact trivial | refine ⟨rfl, ?_⟩)) inferInstance
      · repeat (first | refine Qa ?_ | refine Qb ?_ | refine Qc ?_ | refine Qd ?_ | refine Qe ?_ | refine Qf ?_ | refine Qg ?_ | refine Qh ?_ | refine Qi ?_ | refine Qj ?_ | refine Qk ?_ | refine Ql ?_ | refine Qm ?_ | refine Qn ?_ | refine Qo ?_ | refine Qp ?_ | refine Qq ?_ | fail)
        refine SXL.alloc rfl rfl (fun z2 => ?_)
        repeat (first | refine Qa ?_ | refine Qb ?_ | refine Qc ?_ | refine Qd ?_ | refine Qe ?_ | refine Qf ?_ | refine Qg ?_ | refine Qh ?_ | refine Qi ?_ | refine Qj ?_ | refine Qk ?_ | refine Ql ?_ | refine Qm ?_ | refine Qn ?_ | refine Qo ?_ | refine Qp ?_ | refine Qq ?_ | fail)
        refine SX.cut (fun a M => ∃ z : Nat, a = [(0, .int .u32 id), (2, .slice (some ⟨bb, oo, none⟩) xs.length c), (8, .pointer (some ⟨p, 0, none⟩)), (10, .pointer (some ⟨wb, 0, none⟩)), (12, .int .i64 i), (14, .bool true), (22, .pointer (some ⟨y, 0, none⟩)), (23, .pointer (some ⟨z2, 0, none⟩)), (24, .bool false), (25, .slice none 0 0), (26, .pointer (some ⟨z, 0, none⟩)), (27, .bool false), (28, .bool false)] ∧ .own (some ⟨z, 0, none⟩) (cellsR z (rclC s) 35) :: .own (some ⟨z2, 0, none⟩) (cellsR z2 (reC Re0 none 0 none 0) 45) :: .own (some ⟨y, 0, none⟩) (cellsR y (msC m A1 a1 A2 a2 A3 a3 A4 a4) 49) :: .own (some ⟨p, 0, none⟩) (cellsR p (clC s D d) 91) :: .own (some ⟨wb, 0, none⟩) (cellsR wb (rclC s) 35) :: .own D (rowR (Kd.int .u8) 5 (.slice D s.c.d.length d) s.c.d) :: .per (roR (Kd.int .u8) x.A e.c.d) :: .per (roR (Kd.int .u8) x.A1 e.m.c.d) :: .per (roR (Kd.int .u8) x.A2 e.m.r.d) :: .per (roR kE x.A3 e.m.r.e) :: .per (roR (Kd.int .u8) x.A4 e.m.t.d) :: .per (roR (cellsK kAct.sz) (some ⟨bb, oo, none⟩) css) :: .per (fksR kAct xs css) :: F = M) ?_ ?_
        · refine SXA.begin (.own (some ⟨y, 0, none⟩) (cellsR y (msC m A1 a1 A2 a2 A3 a3 A4 a4) 49) :: .own (some ⟨p, 0, none⟩) (cellsR p (clC s D d) 91) :: .own (some ⟨wb, 0, none⟩) (cellsR wb (rclC s) 35) :: .own D (rowR (Kd.int .u8) 5 (.slice D s.c.d.length d) s.c.d) :: .per (roR (Kd.int .u8) x.A e.c.d) :: .per (roR (Kd.int .u8) x.A1 e.m.c.d) :: .per (roR (Kd.int .u8) x.A2 e.m.r.d) :: .per (roR kE x.A3 e.m.r.e) :: .per (roR (Kd.int .u8) x.A4 e.m.t.d) :: .per (roR (cellsK kAct.sz) (some ⟨bb, oo, none⟩) css) :: .per (fksR kAct xs css) :: F) [] ?_
          unfold msC
          (first | refine Qr 0 ?_ | refine Qs 0 ?_ | refine Qt 0 ?_ | refine Qu 0 ?_ | fail)
          (first | refine Qr 1 ?_ | refine Qs 1 ?_ | refine Qt 1 ?_ | refine Qu 1 ?_ | fail)
          refine SXA.two 2 8 (by decide +kernel) rfl rfl ?_ ?_
          · skip
            refine SXL.call rfl rfl rfl ?_
            refine (msgOf21_S (m := m) (A := A1) (a1 := a1) (B := A2) (a2 := a2) (C := A3) (a3 := a3) (D := A4) (a4 := a4) inferInstance inferInstance inferInstance inferInstance hml hm3 (fun B5 d5 hd5 => callK.ret ?_))
            refine SXL.nil (SXA.next inferInstance ?_)
            refine SXA.two 3 8 (by decide +kernel) rfl rfl ?_ ?_
            · skip
              refine SXL.call rfl rfl rfl ?_
              refine (RHandle21_S (s := s) (m := m) hf (fun hf2 => Bool.noConfusion (hft.symm.trans ((fits_eq hI).symm.trans hf2))) (fun _ h71 => absurd hst h71) (fun _ _ _ => callK.ret ?_) (fun _ _ hlt => absurd hfr (by omega)))
              refine SXL.nil (SXA.next inferInstance ?_)
              (first | refine Qr 4 ?_ | refine Qs 4 ?_ | refine Qt 4 ?_ | refine Qu 4 ?_ | fail)
              (first | refine Qr 5 ?_ | refine Qs 5 ?_ | refine Qt 5 ?_ | refine Qu 5 ?_ | fail)
              (first | refine Qr 6 ?_ | refine Qs 6 ?_ | refine Qt 6 ?_ | refine Qu 6 ?_ | fail)
              (first | refine Qr 7 ?_ | refine Qs 7 ?_ | refine Qt 7 ?_ | refine Qu 7 ?_ | fail)
              refine Qw 8 ?_
              refine SXL.alloc rfl rfl (fun z => ?_)
              refine SXL.nil (SXA.next inferInstance ?_)
              (first | refine Qr 9 ?_ | refine Qs 9 ?_ | refine Qt 9 ?_ | refine Qu 9 ?_ | fail)
              (first | refine Qr 10 ?_ | refine Qs 10 ?_ | refine Qt 10 ?_ | refine Qu 10 ?_ | fail)
              (first | refine Qr 11 ?_ | refine Qs 11 ?_ | refine Qt 11 ?_ | refine Qu 11 ?_ | fail)
              refine Qv ?_
              refine SX.meet ⟨z, rfl, rfl⟩ (by repeat (first | exact trivial | refine ⟨rfl, ?_⟩)) (by unfold reC; infer_instance)
            · skip
              refine SXL.alloc rfl rfl (fun z => ?_)
              refine SXL.nil (SXA.next inferInstance ?_)
              refine Qw 3 ?_
              refine SXL.call rfl rfl rfl ?_
              refine (RHandle21_S (s := s) (m := m) hf (fun hf2 => Bool.noConfusion (hft.symm.trans ((fits_eq hI).symm.trans hf2))) (fun _ h71 => absurd hst h71) (fun _ _ _ => callK.ret ?_) (fun _ _ hlt => absurd hfr (by omega)))
              refine SXL.nil (SXA.next inferInstance ?_)
              (first | refine Qr 4 ?_ | refine Qs 4 ?_ | refine Qt 4 ?_ | refine Qu 4 ?_ | fail)
              (first | refine Qr 5 ?_ | refine Qs 5 ?_ | refine Qt 5 ?_ | refine Qu 5 ?_ | fail)
              (first | refine Qr 6 ?_ | refine Qs 6 ?_ | refine Qt 6 ?_ | refine Qu 6 ?_ | fail)
              (first | refine Qr 7 ?_ | refine Qs 7 ?_ | refine Qt 7 ?_ | refine Qu 7 ?_ | fail)
              (first | refine Qr 9 ?_ | refine Qs 9 ?_ | refine Qt 9 ?_ | refine Qu 9 ?_ | fail)
              (first | refine Qr 10 ?_ | refine Qs 10 ?_ | refine Qt 10 ?_ | refine Qu 10 ?_ | fail)
              (first | refine Qr 11 ?_ | refine Qs 11 ?_ | refine Qt 11 ?_ | refine Qu 11 ?_ | fail)
              refine Qv ?_
              refine SX.meet ⟨z, rfl, rfl⟩ (by repeat (first | exact trivial | refine ⟨rfl, ?_⟩)) (by unfold reC; infer_instance)
          · skip
            refine SXL.alloc rfl rfl (fun z => ?_)
            refine SXL.nil (SXA.next inferInstance ?_)
            refine Qw 2 ?_
            refine SXL.call rfl rfl rfl ?_
            refine (msgOf21_S (m := m) (A := A1) (a1 := a1) (B := A2) (a2 := a2) (C := A3) (a3 := a3) (D := A4) (a4 := a4) inferInstance inferInstance inferInstance inferInstance hml hm3 (fun B5 d5 hd5 => callK.ret ?_))
            refine SXL.nil (SXA.next inferInstance ?_)
            refine Qw 3 ?_
            refine SXL.call rfl rfl rfl ?_
            refine (RHandle21_S (s := s) (m := m) hf (fun hf2 => Bool.noConfusion (hft.symm.trans ((fits_eq hI).symm.trans hf2))) (fun _ h71 => absurd hst h71) (fun _ _ _ => callK.ret ?_) (fun _ _ hlt => absurd hfr (by omega)))
            refine SXL.nil (SXA.next inferInstance ?_)
            (first | refine Qr 4 ?_ | refine Qs 4 ?_ | refine Qt 4 ?_ | refine Qu 4 ?_ | fail)
            (first | refine Qr 5 ?_ | refine Qs 5 ?_ | refine Qt 5 ?_ | refine Qu 5 ?_ | fail)
            (first | refine Qr 6 ?_ | refine Qs 6 ?_ | refine Qt 6 ?_ | refine Qu 6 ?_ | fail)
            (first | refine Qr 7 ?_ | refine Qs 7 ?_ | refine Qt 7 ?_ | refine Qu 7 ?_ | fail)
            (first | refine Qr 9 ?_ | refine Qs 9 ?_ | refine Qt 9 ?_ | refine Qu 9 ?_ | fail)
            (first | refine Qr 10 ?_ | refine Qs 10 ?_ | refine Qt 10 ?_ | refine Qu 10 ?_ | fail)
            (first | refine Qr 11 ?_ | refine Qs 11 ?_ | refine Qt 11 ?_ | refine Qu 11 ?_ | fail)
            refine Qv ?_
            refine SX.meet ⟨z, rfl, rfl⟩ (by repeat (first | exact trivial | refine ⟨rfl, ?_⟩)) (by unfold reC; infer_instance)
        rintro _ _ ⟨z, rfl, rfl⟩
        repeat (first | refine Qa ?_ | refine Qb ?_ | refine Qc ?_ | refine Qd ?_ | refine Qe ?_ | refine Qf ?_ | refine Qg ?_ | refine Qh ?_ | refine Qi ?_ | refine Qj ?_ | refine Qk ?_ | refine Ql ?_ | refine Qm ?_ | refine Qn ?_ | refine Qo ?_ | refine Qp ?_ | refine Qq ?_ | fail)
        refine SXL.call rfl rfl rfl ?_
        refine (asksNo21_S (s := s) (callK.ret ?_))
        repeat (first | refine Qa ?_ | refine Qb ?_ | refine Qc ?_ | refine Qd ?_ | refine Qe ?_ | refine Qf ?_ | refine Qg ?_ | refine Qh ?_ | refine Qi ?_ | refine Qj ?_ | refine Qk ?_ | refine Ql ?_ | refine Qm ?_ | refine Qn ?_ | refine Qo ?_ | refine Qp ?_ | refine Qq ?_ | fail)
        refine SXA.begin (.own (some ⟨z2, 0, none⟩) (cellsR z2 (reC Re0 none 0 none 0) 45) :: .own (some ⟨y, 0, none⟩) (cellsR y (msC m A1 a1 A2 a2 A3 a3 A4 a4) 49) :: .per (roR (Kd.int .u8) x.A e.c.d) :: .per (roR (Kd.int .u8) x.A1 e.m.c.d) :: .per (roR (Kd.int .u8) x.A2 e.m.r.d) :: .per (roR kE x.A3 e.m.r.e) :: .per (roR (Kd.int .u8) x.A4 e.m.t.d) :: .per (roR (cellsK kAct.sz) (some ⟨bb, oo, none⟩) css) :: .per (fksR kAct xs css) :: F) [] ?_
        (first | refine Qr 0 ?_ | refine Qs 0 ?_ | refine Qt 0 ?_ | refine Qu 0 ?_ | fail)
        (first | refine Qr 1 ?_ | refine Qs 1 ?_ | refine Qt 1 ?_ | refine Qu 1 ?_ | fail)
        (first | refine Qr 2 ?_ | refine Qs 2 ?_ | refine Qt 2 ?_ | refine Qu 2 ?_ | fail)
        (first | refine Qr 3 ?_ | refine Qs 3 ?_ | refine Qt 3 ?_ | refine Qu 3 ?_ | fail)
        (first | refine Qr 4 ?_ | refine Qs 4 ?_ | refine Qt 4 ?_ | refine Qu 4 ?_ | fail)
        (first | refine Qr 5 ?_ | refine Qs 5 ?_ | refine Qt 5 ?_ | refine Qu 5 ?_ | fail)
        (first | refine Qr 6 ?_ | refine Qs 6 ?_ | refine Qt 6 ?_ | refine Qu 6 ?_ | fail)
        (first | refine Qr 7 ?_ | refine Qs 7 ?_ | refine Qt 7 ?_ | refine Qu 7 ?_ | fail)
        (first | refine Qr 8 ?_ | refine Qs 8 ?_ | refine Qt 8 ?_ | refine Qu 8 ?_ | fail)
        (first | refine Qr 9 ?_ | refine Qs 9 ?_ | refine Qt 9 ?_ | refine Qu 9 ?_ | fail)
        (first | refine Qr 10 ?_ | refine Qs 10 ?_ | refine Qt 10 ?_ | refine Qu 10 ?_ | fail)
        (first | refine Qr 11 ?_ | refine Qs 11 ?_ | refine Qt 11 ?_ | refine Qu 11 ?_ | fail)
        (first | refine Qr 12 ?_ | refine Qs 12 ?_ | refine Qt 12 ?_ | refine Qu 12 ?_ | fail)
        (first | refine Qr 13 ?_ | refine Qs 13 ?_ | refine Qt 13 ?_ | refine Qu 13 ?_ | fail)
        (first | refine Qr 14 ?_ | refine Qs 14 ?_ | refine Qt 14 ?_ | refine Qu 14 ?_ | fail)
        (first | refine Qr 15 ?_ | refine Qs 15 ?_ | refine Qt 15 ?_ | refine Qu 15 ?_ | fail)
        (first | refine Qr 16 ?_ | refine Qs 16 ?_ | refine Qt 16 ?_ | refine Qu 16 ?_ | fail)
        (first | refine Qr 17 ?_ | refine Qs 17 ?_ | refine Qt 17 ?_ | refine Qu 17 ?_ | fail)
        (first | refine Qr 18 ?_ | refine Qs 18 ?_ | refine Qt 18 ?_ | refine Qu 18 ?_ | fail)
        refine Qv ?_
        refine SX.same 14 (.bool true) rfl rfl ?_
        repeat (first | refine Qa ?_ | refine Qb ?_ | refine Qc ?_ | refine Qd ?_ | refine Qe ?_ | refine Qf ?_ | refine Qg ?_ | refine Qh ?_ | refine Qi ?_ | refine Qj ?_ | refine Qk ?_ | refine Ql ?_ | refine Qm ?_ | refine Qn ?_ | refine Qo ?_ | refine Qp ?_ | refine Qq ?_ | fail)
        refine SX.meet ⟨s, D, d, hI, hd, rfl, rfl⟩ (by repeat (first | exact trivial | refine ⟨rfl, ?_⟩)) inferInstance
      · repeat (first | refine Qa ?_ | refine Qb ?_ | refine Qc ?_ | refine Qd ?_ | refine Qe ?_ | refine Qf ?_ | refine Qg ?_ | refine Qh ?_ | refine Qi ?_ | refine Qj ?_ | refine Qk ?_ | refine Ql ?_ | refine Qm ?_ | refine Qn ?_ | refine Qo ?_ | refine Qp ?_ | refine Qq ?_ | fail)
        refine SXL.alloc rfl rfl (fun z2 => ?_)
        repeat (first | refine Qa ?_ | refine Qb ?_ | refine Qc ?_ | refine Qd ?_ | refine Qe ?_ | refine Qf ?_ | refine Qg ?_ | refine Qh ?_ | refine Qi ?_ | refine Qj ?_ | refine Qk ?_ | refine Ql ?_ | refine Qm ?_ | refine Qn ?_ | refine Qo ?_ | refine Qp ?_ | refine Qq ?_ | fail)
        refine SX.cut (fun a M => ∃ z : Nat, a = [(0, .int .u32 id), (2, .slice (some ⟨bb, oo, none⟩) xs.length c), (8, .pointer (some ⟨p, 0, none⟩)), (10, .pointer (some ⟨wb, 0, none⟩)), (12, .int .i64 i), (14, .bool true), (22, .pointer (some ⟨y, 0, none⟩)), (23, .pointer (some ⟨z2, 0, none⟩)), (24, .bool false), (25, .slice (some ⟨g, 0, none⟩) 1 1), (26, .pointer (some ⟨z, 0, none⟩)), (27, .bool false), (28, .bool true)] ∧ .own (some ⟨z, 0, none⟩) (cellsR z (rclC (moved s m.r.free)) 35) :: .own (some ⟨z2, 0, none⟩) (cellsR z2 (reC Re0 none 0 none 0) 45) :: .own (some ⟨y, 0, none⟩) (cellsR y (msC m A1 a1 A2 a2 A3 a3 A4 a4) 49) :: .own (some ⟨g, 0, none⟩) (cellsR g (ouC m.r.free s.c B1 b1) 82) :: .own B1 (rowR (Kd.int .u8) 5 (.slice B1 s.c.d.length b1) s.c.d) :: .own (some ⟨p, 0, none⟩) (cellsR p (clC (moved s m.r.free) D d) 91) :: .own (some ⟨wb, 0, none⟩) (cellsR wb (rclC s) 35) :: .own D (rowR (Kd.int .u8) 5 (.slice D s.c.d.length d) s.c.d) :: .per (roR (Kd.int .u8) x.A e.c.d) :: .per (roR (Kd.int .u8) x.A1 e.m.c.d) :: .per (roR (Kd.int .u8) x.A2 e.m.r.d) :: .per (roR kE x.A3 e.m.r.e) :: .per (roR (Kd.int .u8) x.A4 e.m.t.d) :: .per (roR (cellsK kAct.sz) (some ⟨bb, oo, none⟩) css) :: .per (fksR kAct xs css) :: F = M) ?_ ?_
        · refine SXA.begin (.own (some ⟨y, 0, none⟩) (cellsR y (msC m A1 a1 A2 a2 A3 a3 A4 a4) 49) :: .own (some ⟨g, 0, none⟩) (cellsR g (ouC m.r.free s.c B1 b1) 82) :: .own B1 (rowR (Kd.int .u8) 5 (.slice B1 s.c.d.length b1) s.c.d) :: .own (some ⟨p, 0, none⟩) (cellsR p (clC (moved s m.r.free) D d) 91) :: .own (some ⟨wb, 0, none⟩) (cellsR wb (rclC s) 35) :: .own D (rowR (Kd.int .u8) 5 (.slice D s.c.d.length d) s.c.d) :: .per (roR (Kd.int .u8) x.A e.c.d) :: .per (roR (Kd.int .u8) x.A1 e.m.c.d) :: .per (roR (Kd.int .u8) x.A2 e.m.r.d) :: .per (roR kE x.A3 e.m.r.e) :: .per (roR (Kd.int .u8) x.A4 e.m.t.d) :: .per (roR (cellsK kAct.sz) (some ⟨bb, oo, none⟩) css) :: .per (fksR kAct xs css) :: F) [] ?_
          unfold msC
          (first | refine Qr 0 ?_ | refine Qs 0 ?_ | refine Qt 0 ?_ | refine Qu 0 ?_ | fail)
          (first | refine Qr 1 ?_ | refine Qs 1 ?_ | refine Qt 1 ?_ | refine Qu 1 ?_ | fail)
          refine SXA.two 2 8 (by decide +kernel) rfl rfl ?_ ?_
          · skip
            refine SXL.call rfl rfl rfl ?_
            refine (msgOf21_S (m := m) (A := A1) (a1 := a1) (B := A2) (a2 := a2) (C := A3) (a3 := a3) (D := A4) (a4 := a4) inferInstance inferInstance inferInstance inferInstance hml hm3 (fun B5 d5 hd5 => callK.ret ?_))
            refine SXL.nil (SXA.next inferInstance ?_)
            refine SXA.two 3 8 (by decide +kernel) rfl rfl ?_ ?_
            · skip
              refine SXL.call rfl rfl rfl ?_
              refine (RHandle21_S (s := s) (m := m) hf (fun hf2 => Bool.noConfusion (hft.symm.trans ((fits_eq hI).symm.trans hf2))) (fun _ h71 => absurd hst h71) (fun _ _ hge => absurd hfr (by omega)) (fun _ _ _ => callK.ret ?_))
              refine SXL.nil (SXA.next inferInstance ?_)
              (first | refine Qr 4 ?_ | refine Qs 4 ?_ | refine Qt 4 ?_ | refine Qu 4 ?_ | fail)
              (first | refine Qr 5 ?_ | refine Qs 5 ?_ | refine Qt 5 ?_ | refine Qu 5 ?_ | fail)
              (first | refine Qr 6 ?_ | refine Qs 6 ?_ | refine Qt 6 ?_ | refine Qu 6 ?_ | fail)
              (first | refine Qr 7 ?_ | refine Qs 7 ?_ | refine Qt 7 ?_ | refine Qu 7 ?_ | fail)
              refine Qw 8 ?_
              refine SXL.alloc rfl rfl (fun z => ?_)
              refine SXL.nil (SXA.next inferInstance ?_)
              (first | refine Qr 9 ?_ | refine Qs 9 ?_ | refine Qt 9 ?_ | refine Qu 9 ?_ | fail)
              (first | refine Qr 10 ?_ | refine Qs 10 ?_ | refine Qt 10 ?_ | refine Qu 10 ?_ | fail)
              (first | refine Qr 11 ?_ | refine Qs 11 ?_ | refine Qt 11 ?_ | refine Qu 11 ?_ | fail)
              refine Qv ?_
              refine SX.meet ⟨z, rfl, rfl⟩ (by repeat (first | exact trivial | refine ⟨rfl, ?_⟩)) (by unfold reC; infer_instance)
            · skip
              refine SXL.alloc rfl rfl (fun z => ?_)
              refine SXL.nil (SXA.next inferInstance ?_)
              refine Qw 3 ?_
              refine SXL.call rfl rfl rfl ?_
              refine (RHandle21_S (s := s) (m := m) hf (fun hf2 => Bool.noConfusion (hft.symm.trans ((fits_eq hI).symm.trans hf2))) (fun _ h71 => absurd hst h71) (fun _ _ hge => absurd hfr (by omega)) (fun _ _ _ => callK.ret ?_))
              refine SXL.nil (SXA.next inferInstance ?_)
              (first | refine Qr 4 ?_ | refine Qs 4 ?_ | refine Qt 4 ?_ | refine Qu 4 ?_ | fail)
              (first | refine Qr 5 ?_ | refine Qs 5 ?_ | refine Qt 5 ?_ | refine Qu 5 ?_ | fail)
              (first | refine Qr 6 ?_ | refine Qs 6 ?_ | refine Qt 6 ?_ | refine Qu 6 ?_ | fail)
              (first | refine Qr 7 ?_ | refine Qs 7 ?_ | refine Qt 7 ?_ | refine Qu 7 ?_ | fail)
              (first | refine Qr 9 ?_ | refine Qs 9 ?_ | refine Qt 9 ?_ | refine Qu 9 ?_ | fail)
              (first | refine Qr 10 ?_ | refine Qs 10 ?_ | refine Qt 10 ?_ | refine Qu 10 ?_ | fail)
              (first | refine Qr 11 ?_ | refine Qs 11 ?_ | refine Qt 11 ?_ | refine Qu 11 ?_ | fail)
              refine Qv ?_
              refine SX.meet ⟨z, rfl, rfl⟩ (by repeat (first | exact trivial | refine ⟨rfl, ?_⟩)) (by unfold reC; infer_instance)
          · skip
            refine SXL.alloc rfl rfl (fun z => ?_)
            refine SXL.nil (SXA.next inferInstance ?_)
            refine Qw 2 ?_
            refine SXL.call rfl rfl rfl ?_
            refine (msgOf21_S (m := m) (A := A1) (a1 := a1) (B := A2) (a2 := a2) (C := A3) (a3 := a3) (D := A4) (a4 := a4) inferInstance inferInstance inferInstance inferInstance hml hm3 (fun B5 d5 hd5 => callK.ret ?_))
            refine SXL.nil (SXA.next inferInstance ?_)
            refine Qw 3 ?_
            refine SXL.call rfl rfl rfl ?_
            refine (RHandle21_S (s := s) (m := m) hf (fun hf2 => Bool.noConfusion (hft.symm.trans ((fits_eq hI).symm.trans hf2))) (fun _ h71 => absurd hst h71) (fun _ _ hge => absurd hfr (by omega)) (fun _ _ _ => callK.ret ?_))
            refine SXL.nil (SXA.next inferInstance ?_)
            (first | refine Qr 4 ?_ | refine Qs 4 ?_ | refine Qt 4 ?_ | refine Qu 4 ?_ | fail)
            (first | refine Qr 5 ?_ | refine Qs 5 ?_ | refine Qt 5 ?_ | refine Qu 5 ?_ | fail)
            (first | refine Qr 6 ?_ | refine Qs 6 ?_ | refine Qt 6 ?_ | refine Qu 6 ?_ | fail)
            (first | refine Qr 7 ?_ | refine Qs 7 ?_ | refine Qt 7 ?_ | refine Qu 7 ?_ | fail)
            (first | refine Qr 9 ?_ | refine Qs 9 ?_ | refine Qt 9 ?_ | refine Qu 9 ?_ | fail)
            (first | refine Qr 10 ?_ | refine Qs 10 ?_ | refine Qt 10 ?_ | refine Qu 10 ?_ | fail)
            (first | refine Qr 11 ?_ | refine Qs 11 ?_ | refine Qt 11 ?_ | refine Qu 11 ?_ | fail)
            refine Qv ?_
            refine SX.meet ⟨z, rfl, rfl⟩ (by repeat (first | exact trivial | refine ⟨rfl, ?_⟩)) (by unfold reC; infer_instance)
        rintro _ _ ⟨z, rfl, rfl⟩
        repeat (first | refine Qa ?_ | refine Qb ?_ | refine Qc ?_ | refine Qd ?_ | refine Qe ?_ | refine Qf ?_ | refine Qg ?_ | refine Qh ?_ | refine Qi ?_ | refine Qj ?_ | refine Qk ?_ | refine Ql ?_ | refine Qm ?_ | refine Qn ?_ | refine Qo ?_ | refine Qp ?_ | refine Qq ?_ | fail)
        refine SXL.call rfl rfl rfl ?_
        refine (asks21_S (g := g) (s := moved s m.r.free) (A := B1) (a1 := b1) inferInstance inferInstance (callK.ret ?_))
        repeat (first | refine Qa ?_ | refine Qb ?_ | refine Qc ?_ | refine Qd ?_ | refine Qe ?_ | refine Qf ?_ | refine Qg ?_ | refine Qh ?_ | refine Qi ?_ | refine Qj ?_ | refine Qk ?_ | refine Ql ?_ | refine Qm ?_ | refine Qn ?_ | refine Qo ?_ | refine Qp ?_ | refine Qq ?_ | fail)
        refine SXA.begin (.own (some ⟨z2, 0, none⟩) (cellsR z2 (reC Re0 none 0 none 0) 45) :: .own (some ⟨y, 0, none⟩) (cellsR y (msC m A1 a1 A2 a2 A3 a3 A4 a4) 49) :: .per (roR (Kd.int .u8) x.A e.c.d) :: .per (roR (Kd.int .u8) x.A1 e.m.c.d) :: .per (roR (Kd.int .u8) x.A2 e.m.r.d) :: .per (roR kE x.A3 e.m.r.e) :: .per (roR (Kd.int .u8) x.A4 e.m.t.d) :: .per (roR (cellsK kAct.sz) (some ⟨bb, oo, none⟩) css) :: .per (fksR kAct xs css) :: F) [] ?_
        (first | refine Qr 0 ?_ | refine Qs 0 ?_ | refine Qt 0 ?_ | refine Qu 0 ?_ | fail)
        (first | refine Qr 1 ?_ | refine Qs 1 ?_ | refine Qt 1 ?_ | refine Qu 1 ?_ | fail)
        (first | refine Qr 2 ?_ | refine Qs 2 ?_ | refine Qt 2 ?_ | refine Qu 2 ?_ | fail)
        (first | refine Qr 3 ?_ | refine Qs 3 ?_ | refine Qt 3 ?_ | refine Qu 3 ?_ | fail)
        (first | refine Qr 4 ?_ | refine Qs 4 ?_ | refine Qt 4 ?_ | refine Qu 4 ?_ | fail)
        (first | refine Qr 5 ?_ | refine Qs 5 ?_ | refine Qt 5 ?_ | refine Qu 5 ?_ | fail)
        (first | refine Qr 6 ?_ | refine Qs 6 ?_ | refine Qt 6 ?_ | refine Qu 6 ?_ | fail)
        (first | refine Qr 7 ?_ | refine Qs 7 ?_ | refine Qt 7 ?_ | refine Qu 7 ?_ | fail)
        (first | refine Qr 8 ?_ | refine Qs 8 ?_ | refine Qt 8 ?_ | refine Qu 8 ?_ | fail)
        (first | refine Qr 9 ?_ | refine Qs 9 ?_ | refine Qt 9 ?_ | refine Qu 9 ?_ | fail)
        (first | refine Qr 10 ?_ | refine Qs 10 ?_ | refine Qt 10 ?_ | refine Qu 10 ?_ | fail)
        (first | refine Qr 11 ?_ | refine Qs 11 ?_ | refine Qt 11 ?_ | refine Qu 11 ?_ | fail)
        (first | refine Qr 12 ?_ | refine Qs 12 ?_ | refine Qt 12 ?_ | refine Qu 12 ?_ | fail)
        (first | refine Qr 13 ?_ | refine Qs 13 ?_ | refine Qt 13 ?_ | refine Qu 13 ?_ | fail)
        (first | refine Qr 14 ?_ | refine Qs 14 ?_ | refine Qt 14 ?_ | refine Qu 14 ?_ | fail)
        (first | refine Qr 15 ?_ | refine Qs 15 ?_ | refine Qt 15 ?_ | refine Qu 15 ?_ | fail)
        (first | refine Qr 16 ?_ | refine Qs 16 ?_ | refine Qt 16 ?_ | refine Qu 16 ?_ | fail)
        (first | refine Qr 17 ?_ | refine Qs 17 ?_ | refine Qt 17 ?_ | refine Qu 17 ?_ | fail)
        (first | refine Qr 18 ?_ | refine Qs 18 ?_ | refine Qt 18 ?_ | refine Qu 18 ?_ | fail)
        refine Qv ?_
        refine SX.same 14 (.bool true) rfl rfl ?_
        repeat (first | refine Qa ?_ | refine Qb ?_ | refine Qc ?_ | refine Qd ?_ | refine Qe ?_ | refine Qf ?_ | refine Qg ?_ | refine Qh ?_ | refine Qi ?_ | refine Qj ?_ | refine Qk ?_ | refine Ql ?_ | refine Qm ?_ | refine Qn ?_ | refine Qo ?_ | refine Qp ?_ | refine Qq ?_ | fail)
        refine SX.meet ⟨(moved s m.r.free), D, d, hI.moved, hd, rfl, rfl⟩ (by repeat (first | exact trivial | refine ⟨rfl, ?_⟩)) inferInstance
    · unfold actC
      repeat (first | refine Qa ?_ | refine Qb ?_ | refine Qc ?_ | refine Qd ?_ | refine Qe ?_ | refine Qf ?_ | refine Qg ?_ | refine Qh ?_ | refine Qi ?_ | refine Qj ?_ | refine Qk ?_ | refine Ql ?_ | refine Qm ?_ | refine Qn ?_ | refine Qo ?_ | refine Qp ?_ | refine Qq ?_ | fail)
      refine SXL.call rfl rfl rfl ?_
      refine (Tick_S (b := p) (s := s) (D := D) (d := d) inferInstance inferInstance hd (by have := hI.len; omega) (fun ho => (hI.op ho).1) (fun ho => callK.ret ?_) (fun ho hle => callK.ret ?_) (fun ho hle g B1 b1 hb1 => callK.ret ?_))
      · repeat (first | refine Qa ?_ | refine Qb ?_ | refine Qc ?_ | refine Qd ?_ | refine Qe ?_ | refine Qf ?_ | refine Qg ?_ | refine Qh ?_ | refine Qi ?_ | refine Qj ?_ | refine Qk ?_ | refine Ql ?_ | refine Qm ?_ | refine Qn ?_ | refine Qo ?_ | refine Qp ?_ | refine Qq ?_ | fail)
        refine SXL.call rfl rfl rfl ?_
        refine (RTick21_S (s := s) (fun ho2 => (hI.op ho2).1) (fun _ => callK.ret ?_) (fun ho2 => Bool.noConfusion (ho.symm.trans ho2)) (fun ho2 => Bool.noConfusion (ho.symm.trans ho2)))
        repeat (first | refine Qa ?_ | refine Qb ?_ | refine Qc ?_ | refine Qd ?_ | refine Qe ?_ | refine Qf ?_ | refine Qg ?_ | refine Qh ?_ | refine Qi ?_ | refine Qj ?_ | refine Qk ?_ | refine Ql ?_ | refine Qm ?_ | refine Qn ?_ | refine Qo ?_ | refine Qp ?_ | refine Qq ?_ | fail)
        refine SXL.alloc rfl rfl (fun z => ?_)
        repeat (first | refine Qa ?_ | refine Qb ?_ | refine Qc ?_ | refine Qd ?_ | refine Qe ?_ | refine Qf ?_ | refine Qg ?_ | refine Qh ?_ | refine Qi ?_ | refine Qj ?_ | refine Qk ?_ | refine Ql ?_ | refine Qm ?_ | refine Qn ?_ | refine Qo ?_ | refine Qp ?_ | refine Qq ?_ | fail)
        refine SXL.call rfl rfl rfl ?_
        refine (asksNo21_S (s := s) (callK.ret ?_))
        repeat (first | refine Qa ?_ | refine Qb ?_ | refine Qc ?_ | refine Qd ?_ | refine Qe ?_ | refine Qf ?_ | refine Qg ?_ | refine Qh ?_ | refine Qi ?_ | refine Qj ?_ | refine Qk ?_ | refine Ql ?_ | refine Qm ?_ | refine Qn ?_ | refine Qo ?_ | refine Qp ?_ | refine Qq ?_ | fail)
        refine SX.meet ⟨s, D, d, hI, hd, rfl, rfl⟩ (by repeat (first | exact trivial | refine ⟨rfl, ?_⟩)) inferInstance
      · repeat (first | refine Qa ?_ | refine Qb ?_ | refine Qc ?_ | refine Qd ?_ | refine Qe ?_ | refine Qf ?_ | refine Qg ?_ | refine Qh ?_ | refine Qi ?_ | refine Qj ?_ | refine Qk ?_ | refine Ql ?_ | refine Qm ?_ | refine Qn ?_ | refine Qo ?_ | refine Qp ?_ | refine Qq ?_ | fail)
        refine SXL.call rfl rfl rfl ?_
        refine (RTick21_S (s := s) (fun ho2 => (hI.op ho2).1) (fun ho2 => Bool.noConfusion (ho2.symm.trans ho)) (fun _ _ => callK.ret ?_) (fun _ hl2 => absurd hl2 (by omega)))
        repeat (first | refine Qa ?_ | refine Qb ?_ | refine Qc ?_ | refine Qd ?_ | refine Qe ?_ | refine Qf ?_ | refine Qg ?_ | refine Qh ?_ | refine Qi ?_ | refine Qj ?_ | refine Qk ?_ | refine Ql ?_ | refine Qm ?_ | refine Qn ?_ | refine Qo ?_ | refine Qp ?_ | refine Qq ?_ | fail)
        refine SXL.alloc rfl rfl (fun z => ?_)
        repeat (first | refine Qa ?_ | refine Qb ?_ | refine Qc ?_ | refine Qd ?_ | refine Qe ?_ | refine Qf ?_ | refine Qg ?_ | refine Qh ?_ | refine Qi ?_ | refine Qj ?_ | refine Qk ?_ | refine Ql ?_ | refine Qm ?_ | refine Qn ?_ | refine Qo ?_ | refine Qp ?_ | refine Qq ?_ | fail)
        refine SXL.call rfl rfl rfl ?_
        refine (asksNo21_S (s := waits s) (callK.ret ?_))
        repeat (first | refine Qa ?_ | refine Qb ?_ | refine Qc ?_ | refine Qd ?_ | refine Qe ?_ | refine Qf ?_ | refine Qg ?_ | refine Qh ?_ | refine Qi ?_ | refine Qj ?_ | refine Qk ?_ | refine Ql ?_ | refine Qm ?_ | refine Qn ?_ | refine Qo ?_ | refine Qp ?_ | refine Qq ?_ | fail)
        refine SX.meet ⟨waits s, D, d, hI.waits hle, hd, rfl, rfl⟩ (by repeat (first | exact trivial | refine ⟨rfl, ?_⟩)) inferInstance
      · repeat (first | refine Qa ?_ | refine Qb ?_ | refine Qc ?_ | refine Qd ?_ | refine Qe ?_ | refine Qf ?_ | refine Qg ?_ | refine Qh ?_ | refine Qi ?_ | refine Qj ?_ | refine Qk ?_ | refine Ql ?_ | refine Qm ?_ | refine Qn ?_ | refine Qo ?_ | refine Qp ?_ | refine Qq ?_ | fail)
        refine SXL.call rfl rfl rfl ?_
        refine (RTick21_S (s := s) (fun ho2 => (hI.op ho2).1) (fun ho2 => Bool.noConfusion (ho2.symm.trans ho)) (fun _ hl2 => absurd hl2 (by omega)) (fun _ _ => callK.ret ?_))
        repeat (first | refine Qa ?_ | refine Qb ?_ | refine Qc ?_ | refine Qd ?_ | refine Qe ?_ | refine Qf ?_ | refine Qg ?_ | refine Qh ?_ | refine Qi ?_ | refine Qj ?_ | refine Qk ?_ | refine Ql ?_ | refine Qm ?_ | refine Qn ?_ | refine Qo ?_ | refine Qp ?_ | refine Qq ?_ | fail)
        refine SXL.alloc rfl rfl (fun z => ?_)
        repeat (first | refine Qa ?_ | refine Qb ?_ | refine Qc ?_ | refine Qd ?_ | refine Qe ?_ | refine Qf ?_ | refine Qg ?_ | refine Qh ?_ | refine Qi ?_ | refine Qj ?_ | refine Qk ?_ | refine Ql ?_ | refine Qm ?_ | refine Qn ?_ | refine Qo ?_ | refine Qp ?_ | refine Qq ?_ | fail)
        refine SXL.call rfl rfl rfl ?_
        refine (asks21_S (g := g) (s := again s) (A := B1) (a1 := b1) inferInstance inferInstance (callK.ret ?_))
        repeat (first | refine Qa ?_ | refine Qb ?_ | refine Qc ?_ | refine Qd ?_ | refine Qe ?_ | refine Qf ?_ | refine Qg ?_ | refine Qh ?_ | refine Qi ?_ | refine Qj ?_ | refine Qk ?_ | refine Ql ?_ | refine Qm ?_ | refine Qn ?_ | refine Qo ?_ | refine Qp ?_ | refine Qq ?_ | fail)
        refine SX.meet ⟨again s, D, d, hI.again, hd, rfl, rfl⟩ (by repeat (first | exact trivial | refine ⟨rfl, ?_⟩)) inferInstance
end
end Go.Proofs.Ytgjajalneknagaa.Sx
end
section
/- Chapter 21's law ClientPlays, for every input; conditions: those that each theorem names. -/
namespace Go.Proofs.Ytgjajalneknagaa.Sx
open Go.RowKit Go.Proofs.Ytgjajalneknagaa.Hm Go.Proofs.YtgjajalneknagaaW.PrintWords Go.Proofs.YtgjajalneknagaaW.PrintLast Go.Proofs.YtgjajalneknagaaW.PrintMore
set_option linter.unusedVariables false
set_option linter.unusedSimpArgs false
attribute [local irreducible] SX SXL SXA St callK Post Evals

theorem heapAct : Kd.Heap kAct := by
  unfold kAct
  repeat (first | exact heapE | exact Kd.heap_int _ | exact Kd.heap_string | exact Kd.heap_bool | refine Kd.heap_iso _ ?_ | refine Kd.heap_pair ?_ ?_ | refine Kd.heap_slice _ ?_ | fail)
theorem ClientPlays_any (id pl : Int) (A : Option Addr) (c : Nat) (l : List Act) (W : World) (wi : (Lit.int .u32 id).wf = true) (wp : (Lit.int .i64 pl).wf = true) (r : Kd.C kAct W A l.length l) (hc : l.length ≤ c)
    (w : l.length ≤ maxLen ∧ l.length * (Try.prog).bytesOf 51 ≤ reachBytes ∧ ∀ a ∈ l, okAct a) :
    Calls Try.prog 3 #[.int .u32 id, .int .i64 pl, .slice A l.length c] W fun e w' => e = .returned (.bool true) ∧ Below W.heap.size W w' :=
  Fn.out W [.per (roR kAct A l), .per (oldR W)] (Holds.ofStart (Holds.startRow (Holds.start0 W) (Kd.C_F heapAct r))) inferInstance
    (ClientPlays_S (u32_of_wf _ wi) hc (fun a ha => Act.of_ok (w.2.2 a ha)) ⟨rfl, inferInstance⟩)
end Go.Proofs.Ytgjajalneknagaa.Sx
end
