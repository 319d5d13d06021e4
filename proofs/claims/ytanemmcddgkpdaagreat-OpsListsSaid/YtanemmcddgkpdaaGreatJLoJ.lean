/- Chapter 13: a directory tells its entries in the order in which they came, walked; conditions: those that each theorem names. -/
import Derived.Test.YtanemmcddgkpdaaGreatJFh
import Derived.Test.YtanemmcddgkpdaaGreatJN6
import Derived.Test.YtanemmcddgkpdaaGreatJN7
namespace Go.Proofs.YtanemmcddgkpdaaGreat.Sx
open Go.RowKit Go.Proofs.YtanemmcddgkpdaaGreat.Hm Go.Proofs.YtanemmcddgkpdaaGreatW.PrintWords Go.Proofs.YtanemmcddgkpdaaGreatW.PrintLast Go.Proofs.YtanemmcddgkpdaaGreatW.PrintMore
set_option linter.unusedVariables false
set_option linter.unusedSimpArgs false
attribute [local irreducible] SX SXL SXA St callK Post Evals
attribute [local irreducible] doT putM lastC
theorem infoSt : ((Tryz.prog).info? 9).map (fun i => (i.zero, i.size, i.bytes)) = some (some (.string ⟨#[]⟩), 1, 16) := by kernel_rfl
instance rowSt : RowT Tryz.prog Kd.string 85 9 16 := ⟨Tryz.underlying85, ⟨_, infoSt, rfl⟩, by decide, by decide⟩
theorem enm_t (y : Nat) : strOfNums [101, 97 + (y : Int)] = enm y := by unfold enm; rfl
theorem u32_14 : u32ok 14 := ⟨by decide, by decide⟩
theorem u32_1' : u32ok 1 := ⟨by decide, by decide⟩
theorem rdC_wf {off verf cnt : Int} (h1 : u64ok off) (h2 : u64ok verf) (h3 : u32ok cnt) : (rdC off verf cnt).wf := ⟨u32_0, u32_0, u32_14, u32_0, u32_1', u32_0, u32_0, h1, h2, h3, u32_0, rfl⟩
section
variable {F : List Thing} {K : Ending → List Thing → Prop} {A : Option Addr} {c : Nat} {xs : List Int} {q v : Int}
set_option maxRecDepth 20000 in
set_option maxHeartbeats 8000000 in
theorem OpsLists_S (hr : Ro (Kd.int .u8) A F xs) (hc : xs.length ≤ c) (hxs : bytesB xs = true) (hq0 : 0 ≤ q) (hq1 : q < 256) (hv : u64ok v) (h : K (.returned (.bool true)) F) : Fn (Tryz.prog) 14 [.slice A xs.length c, .int .u8 q, .int .u64 v] F K := by
  obtain ⟨w, hw⟩ : ∃ w : Nat, w = (q % 4).toNat + 1 := ⟨_, rfl⟩
  have hw4 : w ≤ 4 := by omega
  have hqt : IntKind.u32.wrap (IntKind.u32.wrap (q.tmod 4) + 1) = (w : Int) := by rw [Int.tmod_eq_emod_of_nonneg hq0, IntWalk.u32_in (q % 4) (by omega), IntWalk.u32_in _ (by omega)]; omega
  refine Fn.enter Tryz.call14 Tryz.func14 rfl rfl rfl ?_
  repeat (first|refine Qa ?_|refine Qb ?_|refine Qc ?_|refine Qd ?_|refine Qe ?_|refine Qf ?_|refine Qg ?_|refine Qh ?_|refine Qi ?_|refine Qj ?_|refine Qk ?_|refine Ql ?_|refine Qm ?_|refine Qn ?_|refine Qo ?_|refine Qp ?_|refine Qq ?_|fail)
  refine SXL.call rfl rfl rfl ?_
  refine (awake13_S (callK.ret ?_))
  repeat (first|refine Qa ?_|refine Qb ?_|refine Qc ?_|refine Qd ?_|refine Qe ?_|refine Qf ?_|refine Qg ?_|refine Qh ?_|refine Qi ?_|refine Qj ?_|refine Qk ?_|refine Ql ?_|refine Qm ?_|refine Qn ?_|refine Qo ?_|refine Qp ?_|refine Qq ?_|fail)
  refine SX.condp rfl (fun hl => ?_) (fun hl => ?_)
  · repeat (first|refine Qa ?_|refine Qb ?_|refine Qc ?_|refine Qd ?_|refine Qe ?_|refine Qf ?_|refine Qg ?_|refine Qh ?_|refine Qi ?_|refine Qj ?_|refine Qk ?_|refine Ql ?_|refine Qm ?_|refine Qn ?_|refine Qo ?_|refine Qp ?_|refine Qq ?_|fail)
    refine SX.ret (M' := F) rfl (Evals.tmp rfl Evals.nil) ?_ inferInstance
    exact h
  have hl10 : xs.length ≤ 10 := by omega
  repeat (first|refine Qa ?_|refine Qb ?_|refine Qc ?_|refine Qd ?_|refine Qe ?_|refine Qf ?_|refine Qg ?_|refine Qh ?_|refine Qi ?_|refine Qj ?_|refine Qk ?_|refine Ql ?_|refine Qm ?_|refine Qn ?_|refine Qo ?_|refine Qp ?_|refine Qq ?_|fail)
  refine SXL.call rfl rfl rfl ?_
  refine (Format_S (room := 30) (fun b0 cap0 hcap0 => callK.ret ?_))
  have m0 : (formT 30).mid := formT_mid ⟨by decide, by decide⟩
  repeat (first|refine Qa ?_|refine Qb ?_|refine Qc ?_|refine Qd ?_|refine Qe ?_|refine Qf ?_|refine Qg ?_|refine Qh ?_|refine Qi ?_|refine Qj ?_|refine Qk ?_|refine Ql ?_|refine Qm ?_|refine Qn ?_|refine Qo ?_|refine Qp ?_|refine Qq ?_|fail)
  refine SXL.alloc rfl rfl (fun p8 => ?_)
  repeat (first|refine Qa ?_|refine Qb ?_|refine Qc ?_|refine Qd ?_|refine Qe ?_|refine Qf ?_|refine Qg ?_|refine Qh ?_|refine Qi ?_|refine Qj ?_|refine Qk ?_|refine Ql ?_|refine Qm ?_|refine Qn ?_|refine Qo ?_|refine Qp ?_|refine Qq ?_|fail)
  refine SX.loop (fun z a M => ∃ (i b cap m : Nat) (t : Th) (ps : List Pl) (E : List Ent) (A9 : Option Addr) (c9 : Nat), i + z = xs.length ∧ VI 2 m E t ∧ E.length ≤ m ∧ m ≤ i ∧ (E.map Ent.s).length ≤ c9 ∧ 24 ≤ cap ∧ ps.length = 24 ∧ t.mid ∧ a = [(0, .slice A xs.length c), (1, .int .u8 q), (2, .int .u64 v), (8, .pointer (some ⟨p8, 0, none⟩)), (9, .slice A9 (E.map Ent.s).length c9), (10, .int .i64 i)] ∧ (.own A9 (rowR Kd.string 9 (.slice A9 (E.map Ent.s).length c9) (E.map Ent.s)) :: .own (some ⟨p8, 0, none⟩) (cellsR p8 (thC (some ⟨b, 0, none⟩) 24 cap (t).ch (t).room) 27) :: thP b (t).l ps :: .per (datR (t).l ps) :: F) = M)
    xs.length ⟨0, b0, cap0, 0, formT 30, nonesP 24, [], none, 0, by omega, VI.form (by decide), by simp, by simp, by simp, hcap0, rfl, m0, rfl, rfl⟩ (by repeat (first | exact trivial | refine ⟨rfl, ?_⟩)) (by rw [show (formT 30).ch = 1 from rfl, show (formT 30).room = 30 from rfl, List.map_nil]; infer_instance) ?_
  rintro z _ _ ⟨i, b, cap, m, t, ps, E, A9, c9, hz, hI, hEm, hmi, hc9, hcap, hps, hm, rfl, rfl⟩
  have hEl : (E.map Ent.s).length = E.length := List.length_map ..
  repeat (first|refine Qa ?_|refine Qb ?_|refine Qc ?_|refine Qd ?_|refine Qe ?_|refine Qf ?_|refine Qg ?_|refine Qh ?_|refine Qi ?_|refine Qj ?_|refine Qk ?_|refine Ql ?_|refine Qm ?_|refine Qn ?_|refine Qo ?_|refine Qp ?_|refine Qq ?_|fail)
  refine SX.condp rfl (fun hi => ?_) (fun hi => ?_)
  · obtain ⟨x, hx⟩ : ∃ x, xs[i]? = some x := ⟨_, List.getElem?_eq_getElem (by omega)⟩
    obtain ⟨hx0, hx1⟩ := (bytesB_iff xs).1 hxs x (List.mem_of_getElem? hx)
    obtain ⟨y, hy⟩ : ∃ y : Nat, y = (x % 26).toNat := ⟨_, rfl⟩
    have hy26 : y < 26 := by omega
    have hw1 : IntKind.u8.wrap (97 + x.tmod 26) = 97 + (y : Int) := by rw [Int.tmod_eq_emod_of_nonneg hx0, IntWalk.u8_in _ (by omega)]; omega
    repeat (first|refine Qa ?_|refine Qb ?_|refine Qc ?_|refine Qd ?_|refine Qe ?_|refine Qf ?_|refine Qg ?_|refine Qh ?_|refine Qi ?_|refine Qj ?_|refine Qk ?_|refine Ql ?_|refine Qm ?_|refine Qn ?_|refine Qo ?_|refine Qp ?_|refine Qq ?_|fail)
    refine SXL.addr (A := A) (xs := xs) (Kd.int .u8) (by decide) (by omega) (fun bA oA hA => ?_)
    subst hA
    refine SXL.idx rfl rfl rfl rfl rfl (by omega) (by omega) rfl ?_
    repeat (first|refine Qa ?_|refine Qb ?_|refine Qc ?_|refine Qd ?_|refine Qe ?_|refine Qf ?_|refine Qg ?_|refine Qh ?_|refine Qi ?_|refine Qj ?_|refine Qk ?_|refine Ql ?_|refine Qm ?_|refine Qn ?_|refine Qo ?_|refine Qp ?_|refine Qq ?_|fail)
    refine SXL.loadRow (Kd.int .u8) rfl rfl inferInstance (by rw [Int.toNat_natCast]; exact hx) rfl rfl ?_
    repeat (first|refine Qa ?_|refine Qb ?_|refine Qc ?_|refine Qd ?_|refine Qe ?_|refine Qf ?_|refine Qg ?_|refine Qh ?_|refine Qi ?_|refine Qj ?_|refine Qk ?_|refine Ql ?_|refine Qm ?_|refine Qn ?_|refine Qo ?_|refine Qp ?_|refine Qq ?_|fail)
    rw [hw1]
    refine SXL.lit rfl rfl (fun g => ?_)
    refine SXL.litRow (Kd.int .u8) g [101, 97 + (y : Int)] inferInstance rfl (fun _ => rfl) (by simp) ?_
    refine SXL.bytesStr rfl inferInstance rfl Tryz.underlying38 Tryz.underlying5 Tryz.underlying9 rfl ?_
    rw [enm_t]
    repeat (first|refine Qa ?_|refine Qb ?_|refine Qc ?_|refine Qd ?_|refine Qe ?_|refine Qf ?_|refine Qg ?_|refine Qh ?_|refine Qi ?_|refine Qj ?_|refine Qk ?_|refine Ql ?_|refine Qm ?_|refine Qn ?_|refine Qo ?_|refine Qp ?_|refine Qq ?_|fail)
    refine SXL.call rfl rfl rfl ?_
    refine (Do_S (t := t) (ps := ps) (c := ca 7 0 1 (enm y) 0 0 []) (Ac := none) (cc := 0) inferInstance inferInstance hm hps hcap (ca_wf ⟨by decide, by decide⟩ u32_0 ⟨by decide, by decide⟩ u32_0 u64_0 rfl) (Nat.zero_le _) (Nat.le_refl _) inferInstance (fun _ _ => ⟨mkdirE, mkdir_S, fun t r => rfl⟩) (fun t1 r1 b1 cap1 ps1 Ad1 cd1 Ae1 ce1 he1 hcap1 hps1 m1 hd1 hx1 => callK.ret ?_))
    repeat (first|refine Qa ?_|refine Qb ?_|refine Qc ?_|refine Qd ?_|refine Qe ?_|refine Qf ?_|refine Qg ?_|refine Qh ?_|refine Qi ?_|refine Qj ?_|refine Qk ?_|refine Ql ?_|refine Qm ?_|refine Qn ?_|refine Qo ?_|refine Qp ?_|refine Qq ?_|fail)
    refine SXL.alloc rfl rfl (fun p12 => ?_)
    repeat (first|refine Qa ?_|refine Qb ?_|refine Qc ?_|refine Qd ?_|refine Qe ?_|refine Qf ?_|refine Qg ?_|refine Qh ?_|refine Qi ?_|refine Qj ?_|refine Qk ?_|refine Ql ?_|refine Qm ?_|refine Qn ?_|refine Qo ?_|refine Qp ?_|refine Qq ?_|fail)
    refine SXL.alloc rfl rfl (fun p13 => ?_)
    repeat (first|refine Qa ?_|refine Qb ?_|refine Qc ?_|refine Qd ?_|refine Qe ?_|refine Qf ?_|refine Qg ?_|refine Qh ?_|refine Qi ?_|refine Qj ?_|refine Qk ?_|refine Ql ?_|refine Qm ?_|refine Qn ?_|refine Qo ?_|refine Qp ?_|refine Qq ?_|fail)
    rcases hI.mkd hy26 (by omega) hEm he1 with ⟨hs1, e, hes, hI1⟩ | ⟨hs1, rfl⟩
    · unfold reK
      rw [hs1]
      repeat (first|refine Qa ?_|refine Qb ?_|refine Qc ?_|refine Qd ?_|refine Qe ?_|refine Qf ?_|refine Qg ?_|refine Qh ?_|refine Qi ?_|refine Qj ?_|refine Qk ?_|refine Ql ?_|refine Qm ?_|refine Qn ?_|refine Qo ?_|refine Qp ?_|refine Qq ?_|fail)
      refine SXL.lit rfl rfl (fun g2 => ?_)
      refine SXL.litRow Kd.string g2 [enm y] inferInstance rfl (fun _ => rfl) (by simp) ?_
      repeat (first|refine Qa ?_|refine Qb ?_|refine Qc ?_|refine Qd ?_|refine Qe ?_|refine Qf ?_|refine Qg ?_|refine Qh ?_|refine Qi ?_|refine Qj ?_|refine Qk ?_|refine Ql ?_|refine Qm ?_|refine Qn ?_|refine Qo ?_|refine Qp ?_|refine Qq ?_|fail)
      refine SXL.appendW Kd.string rfl rfl inferInstance inferInstance rfl inferInstance (by simp; omega) rfl (fun A9' c9' hc9' => ?_)
      have eE : E.map Ent.s ++ [enm y] = (E ++ [e]).map Ent.s := by rw [List.map_append, List.map_cons, List.map_nil, hes]
      rw [eE] at hc9' ⊢
      repeat (first|refine Qa ?_|refine Qb ?_|refine Qc ?_|refine Qd ?_|refine Qe ?_|refine Qf ?_|refine Qg ?_|refine Qh ?_|refine Qi ?_|refine Qj ?_|refine Qk ?_|refine Ql ?_|refine Qm ?_|refine Qn ?_|refine Qo ?_|refine Qp ?_|refine Qq ?_|fail)
      refine SX.same 10 (.int .i64 ((i + 1 : Nat) : Int)) rfl (by simp (disch := omega) only [IntWalk.i64_in, IntWalk.u8_in, IntWalk.u32_in, IntWalk.u64_in, IntWalk.rem_in, Int.natCast_add, Int.natCast_one]) ?_
      refine SX.again (z - 1) (by omega) ⟨i + 1, b1, cap1, m + 1, t1, ps1, E ++ [e], A9', c9', by omega, hI1, by simp; omega, by omega, hc9', hcap1, hps1, m1, rfl, rfl⟩ (by repeat (first | exact trivial | refine ⟨rfl, ?_⟩)) inferInstance
    · unfold reK
      rw [hs1]
      repeat (first|refine Qa ?_|refine Qb ?_|refine Qc ?_|refine Qd ?_|refine Qe ?_|refine Qf ?_|refine Qg ?_|refine Qh ?_|refine Qi ?_|refine Qj ?_|refine Qk ?_|refine Ql ?_|refine Qm ?_|refine Qn ?_|refine Qo ?_|refine Qp ?_|refine Qq ?_|fail)
      refine SX.same 10 (.int .i64 ((i + 1 : Nat) : Int)) rfl (by simp (disch := omega) only [IntWalk.i64_in, IntWalk.u8_in, IntWalk.u32_in, IntWalk.u64_in, IntWalk.rem_in, Int.natCast_add, Int.natCast_one]) ?_
      refine SX.again (z - 1) (by omega) ⟨i + 1, b1, cap1, m, t1, ps1, E, A9, c9, by omega, hI, hEm, by omega, hc9, hcap1, hps1, m1, rfl, rfl⟩ (by repeat (first | exact trivial | refine ⟨rfl, ?_⟩)) inferInstance
  have hE10 : E.length ≤ 10 := by omega
  have hmay := hI.rows.may
  have hcok : ∀ k : Nat, k ≤ E.length → u64ok (lastC (E.take k)) := fun k hk => by
    cases k with
    | zero => rw [List.take_zero]; unfold lastC; exact u64_0
    | succ k =>
      obtain ⟨y, hy⟩ : ∃ y, E[k]? = some y := ⟨_, List.getElem?_eq_getElem (by omega)⟩
      rw [lastC_take E k y hy]
      obtain ⟨w1, w2, -⟩ := hI.rows.wf y (List.mem_of_getElem? hy)
      exact ⟨w1, w2⟩
  repeat (first|refine Qa ?_|refine Qb ?_|refine Qc ?_|refine Qd ?_|refine Qe ?_|refine Qf ?_|refine Qg ?_|refine Qh ?_|refine Qi ?_|refine Qj ?_|refine Qk ?_|refine Ql ?_|refine Qm ?_|refine Qn ?_|refine Qo ?_|refine Qp ?_|refine Qq ?_|fail)
  clear hz hi
  refine SX.same 14 (.int .u64 (lastC (E.take 0))) rfl (by rw [List.take_zero]; unfold lastC; rfl) ?_
  refine SX.loop (fun z a M => ∃ i n : Nat, i + z = 12 ∧ n = i * w ∧ (i = 0 ∨ n < E.length) ∧ a = [(0, .slice A xs.length c), (1, .int .u8 q), (2, .int .u64 v), (8, .pointer (some ⟨p8, 0, none⟩)), (9, .slice A9 (E.map Ent.s).length c9), (14, .int .u64 (lastC (E.take n))), (15, .int .i64 n), (16, .int .i64 i)] ∧ (.own A9 (rowR Kd.string 9 (.slice A9 (E.map Ent.s).length c9) (E.map Ent.s)) :: .own (some ⟨p8, 0, none⟩) (cellsR p8 (thC (some ⟨b, 0, none⟩) 24 cap (t).ch (t).room) 27) :: thP b (t).l ps :: .per (datR (t).l ps) :: F) = M)
    12 ⟨0, 0, by omega, by omega, Or.inl rfl, rfl, rfl⟩ (by repeat (first | exact trivial | refine ⟨rfl, ?_⟩)) inferInstance ?_
  rintro z _ _ ⟨i, n, hz, hn, hin, rfl, rfl⟩
  have hnE : n ≤ E.length := by
    rcases hin with h0 | h0
    · subst h0; omega
    · omega
  have hi10 : i ≤ 10 := by
    rcases hin with h0 | h0
    · omega
    · have : i * 1 ≤ i * w := Nat.mul_le_mul_left _ (by omega)
      omega
  repeat (first|refine Qa ?_|refine Qb ?_|refine Qc ?_|refine Qd ?_|refine Qe ?_|refine Qf ?_|refine Qg ?_|refine Qh ?_|refine Qi ?_|refine Qj ?_|refine Qk ?_|refine Ql ?_|refine Qm ?_|refine Qn ?_|refine Qo ?_|refine Qp ?_|refine Qq ?_|fail)
  refine SX.condp rfl (fun hi => ?_) (fun hi => ?_)
  rotate_left
  · omega
  repeat (first|refine Qa ?_|refine Qb ?_|refine Qc ?_|refine Qd ?_|refine Qe ?_|refine Qf ?_|refine Qg ?_|refine Qh ?_|refine Qi ?_|refine Qj ?_|refine Qk ?_|refine Ql ?_|refine Qm ?_|refine Qn ?_|refine Qo ?_|refine Qp ?_|refine Qq ?_|fail)
  rw [hqt]
  repeat (first|refine Qa ?_|refine Qb ?_|refine Qc ?_|refine Qd ?_|refine Qe ?_|refine Qf ?_|refine Qg ?_|refine Qh ?_|refine Qi ?_|refine Qj ?_|refine Qk ?_|refine Ql ?_|refine Qm ?_|refine Qn ?_|refine Qo ?_|refine Qp ?_|refine Qq ?_|fail)
  refine SXL.call rfl rfl rfl ?_
  refine (Do_S (t := t) (ps := ps) (c := rdC (lastC (E.take n)) 1 w) (Ac := none) (cc := 0) inferInstance inferInstance hm hps hcap (rdC_wf (hcok n hnE) ⟨by decide, by decide⟩ ⟨by omega, by omega⟩) (Nat.zero_le _) (Nat.le_refl _) inferInstance (fun _ _ => ⟨readdirE, readdir_S, fun t r => rfl⟩) (fun t3 r3 b3 cap3 ps3 Ad3 cd3 Ae3 ce3 he3 hcap3 hps3 m3 hd3 hx3 => callK.ret ?_))
  obtain ⟨e3, hs3, hv3, he3', hf3⟩ := hI.rd (off := lastC (E.take n)) (verf := 1) (cnt := (w : Int)) (by omega) (by omega) (Or.inr rfl) he3
  rw [hI.page hnE (by omega)] at he3' hf3
  clear he3
  obtain ⟨l, hl'⟩ : ∃ l : Nat, l = min w (E.length - n) := ⟨_, rfl⟩
  rw [← hl'] at he3' hf3
  obtain ⟨pg, hpg⟩ : ∃ pg : List Ent, pg = (E.take (n + l)).drop n := ⟨_, rfl⟩
  have hpl : pg.length = l := by rw [hpg, List.length_drop, List.length_take]; omega
  have hpk : ∀ k : Nat, k < l → pg[k]? = E[n + k]? := fun k hk => by rw [hpg, List.getElem?_drop, List.getElem?_take, if_pos (by omega)]
  rw [← hpg] at he3'
  rw [he3'] at hx3 ⊢
  repeat (first|refine Qa ?_|refine Qb ?_|refine Qc ?_|refine Qd ?_|refine Qe ?_|refine Qf ?_|refine Qg ?_|refine Qh ?_|refine Qi ?_|refine Qj ?_|refine Qk ?_|refine Ql ?_|refine Qm ?_|refine Qn ?_|refine Qo ?_|refine Qp ?_|refine Qq ?_|fail)
  refine SXL.alloc rfl rfl (fun p17 => ?_)
  repeat (first|refine Qa ?_|refine Qb ?_|refine Qc ?_|refine Qd ?_|refine Qe ?_|refine Qf ?_|refine Qg ?_|refine Qh ?_|refine Qi ?_|refine Qj ?_|refine Qk ?_|refine Ql ?_|refine Qm ?_|refine Qn ?_|refine Qo ?_|refine Qp ?_|refine Qq ?_|fail)
  refine SXL.alloc rfl rfl (fun p18 => ?_)
  repeat (first|refine Qa ?_|refine Qb ?_|refine Qc ?_|refine Qd ?_|refine Qe ?_|refine Qf ?_|refine Qg ?_|refine Qh ?_|refine Qi ?_|refine Qj ?_|refine Qk ?_|refine Ql ?_|refine Qm ?_|refine Qn ?_|refine Qo ?_|refine Qp ?_|refine Qq ?_|fail)
  unfold reK
  rw [hs3, hv3, hf3, he3']
  repeat (first|refine Qa ?_|refine Qb ?_|refine Qc ?_|refine Qd ?_|refine Qe ?_|refine Qf ?_|refine Qg ?_|refine Qh ?_|refine Qi ?_|refine Qj ?_|refine Qk ?_|refine Ql ?_|refine Qm ?_|refine Qn ?_|refine Qo ?_|refine Qp ?_|refine Qq ?_|fail)
  refine SX.loop (fun z a M => ∃ k : Nat, k + z = l ∧ a = [(0, .slice A xs.length c), (1, .int .u8 q), (2, .int .u64 v), (8, .pointer (some ⟨p8, 0, none⟩)), (9, .slice A9 (E.map Ent.s).length c9), (14, .int .u64 (lastC (E.take (n + k)))), (15, .int .i64 ((n + k : Nat) : Int)), (16, .int .i64 i), (18, .pointer (some ⟨p18, 0, none⟩)), (19, .int .i64 k)] ∧ (.own (some ⟨p18, 0, none⟩) (cellsR p18 (reK { r3 with st := 0, verf := 1, e := pg, eof := decide (n + l = E.length) } Ad3 cd3 Ae3 ce3) 49) :: .per (roR kE Ae3 pg) :: .own A9 (rowR Kd.string 9 (.slice A9 (E.map Ent.s).length c9) (E.map Ent.s)) :: .own (some ⟨p8, 0, none⟩) (cellsR p8 (thC (some ⟨b, 0, none⟩) 24 cap (t).ch (t).room) 27) :: thP b (t).l ps :: .per (datR (t).l ps) :: F) = M)
    l ⟨0, by omega, by rw [Nat.add_zero], rfl⟩ (by repeat (first | exact trivial | refine ⟨rfl, ?_⟩)) inferInstance ?_
  rintro z3 _ _ ⟨k, hz3, rfl, rfl⟩
  unfold reK
  dsimp only
  repeat (first|refine Qa ?_|refine Qb ?_|refine Qc ?_|refine Qd ?_|refine Qe ?_|refine Qf ?_|refine Qg ?_|refine Qh ?_|refine Qi ?_|refine Qj ?_|refine Qk ?_|refine Ql ?_|refine Qm ?_|refine Qn ?_|refine Qo ?_|refine Qp ?_|refine Qq ?_|fail)
  refine SX.condp rfl (fun hk => ?_) (fun hk => ?_)
  · have hkl : k < l := by omega
    obtain ⟨e, he⟩ : ∃ e, pg[k]? = some e := ⟨_, List.getElem?_eq_getElem (by omega)⟩
    have heE : E[n + k]? = some e := by rw [← hpk k hkl]; exact he
    have heS : (E.map Ent.s)[n + k]? = some e.s := by rw [List.getElem?_map, heE]; rfl
    have hlt : lastC (E.take (n + k)) < e.c := addM_last (hmay (n + k) e heE)
    have hnk : n + k < E.length := (List.getElem?_eq_some_iff.1 heE).1
    refine SX.addr (A := Ae3) kE (by decide) (xs := pg) (by omega) (fun b4 o4 e4 => ?_)
    subst e4
    refine SX.addrOwn (A := A9) Kd.string inferInstance (by omega) (fun b9 e9 => ?_)
    subst e9
    repeat (first|refine Qa ?_|refine Qb ?_|refine Qc ?_|refine Qd ?_|refine Qe ?_|refine Qf ?_|refine Qg ?_|refine Qh ?_|refine Qi ?_|refine Qj ?_|refine Qk ?_|refine Ql ?_|refine Qm ?_|refine Qn ?_|refine Qo ?_|refine Qp ?_|refine Qq ?_|fail)
    refine SXA.begin (.own (some ⟨p18, 0, none⟩) (cellsR p18 (reK { r3 with st := 0, verf := 1, e := pg, eof := decide (n + l = E.length) } Ad3 cd3 (some ⟨b4, o4, none⟩) ce3) 49) :: .per (roR kE (some ⟨b4, o4, none⟩) pg) :: .own (some ⟨b9, 0, none⟩) (rowR Kd.string 9 (.slice (some ⟨b9, 0, none⟩) (E.map Ent.s).length c9) (E.map Ent.s)) :: .own (some ⟨p8, 0, none⟩) (cellsR p8 (thC (some ⟨b, 0, none⟩) 24 cap (t).ch (t).room) 27) :: thP b (t).l ps :: .per (datR (t).l ps) :: F) [] ?_
    unfold reK
    dsimp only
    (first|refine Qr 0 ?_|refine Qs 0 ?_|refine Qxa 0 ?_|refine Qya 0 ?_|refine Qt 0 ?_|refine Qu 0 ?_|fail)
    (first|refine Qr 1 ?_|refine Qs 1 ?_|refine Qxa 1 ?_|refine Qya 1 ?_|refine Qt 1 ?_|refine Qu 1 ?_|fail)
    (first|refine Qr 2 ?_|refine Qs 2 ?_|refine Qxa 2 ?_|refine Qya 2 ?_|refine Qt 2 ?_|refine Qu 2 ?_|fail)
    (first|refine Qr 3 ?_|refine Qs 3 ?_|refine Qxa 3 ?_|refine Qya 3 ?_|refine Qt 3 ?_|refine Qu 3 ?_|fail)
    (first|refine Qr 4 ?_|refine Qs 4 ?_|refine Qt 4 ?_|refine Qu 4 ?_|fail)
    refine SXA.know 96 false rfl (decide_eq_false (by rw [hEl]; omega)) ?_
    (first|refine Qr 5 ?_|refine Qs 5 ?_|refine Qxa 5 ?_|refine Qya 5 ?_|refine Qt 5 ?_|refine Qu 5 ?_|fail)
    (first|refine Qr 7 ?_|refine Qs 7 ?_|refine Qxa 7 ?_|refine Qya 7 ?_|refine Qt 7 ?_|refine Qu 7 ?_|fail)
    (first|refine Qr 11 ?_|refine Qs 11 ?_|refine Qxa 11 ?_|refine Qya 11 ?_|refine Qt 11 ?_|refine Qu 11 ?_|fail)
    (first|refine Qr 12 ?_|refine Qs 12 ?_|refine Qxa 12 ?_|refine Qya 12 ?_|refine Qt 12 ?_|refine Qu 12 ?_|fail)
    (first|refine Qr 6 ?_|refine Qs 6 ?_|refine Qxa 6 ?_|refine Qya 6 ?_|refine Qt 6 ?_|refine Qu 6 ?_|fail)
    refine SXA.idx 13 rfl (by decide +kernel) rfl rfl rfl rfl rfl rfl (by omega) (by omega) rfl inferInstance ?_
    refine SXA.idx 8 rfl (by decide +kernel) rfl rfl rfl rfl rfl rfl (by omega) (by omega) rfl inferInstance ?_
    refine SXA.loadRow 14 Kd.string rfl (by decide +kernel) rfl rfl rfl inferInstance (by rw [Int.toNat_natCast]; exact heS) rfl rfl inferInstance ?_
    (first|refine Qr 9 ?_|refine Qs 9 ?_|refine Qxa 9 ?_|refine Qya 9 ?_|refine Qt 9 ?_|refine Qu 9 ?_|fail)
    refine SXA.loadRow1 10 kE rfl (by decide +kernel) rfl rfl rfl inferInstance (by rw [Int.toNat_natCast]; exact he) rfl rfl inferInstance ?_
    (first|refine Qr 15 ?_|refine Qs 15 ?_|refine Qxa 15 ?_|refine Qya 15 ?_|refine Qt 15 ?_|refine Qu 15 ?_|fail)
    (first|refine Qr 16 ?_|refine Qs 16 ?_|refine Qxa 16 ?_|refine Qya 16 ?_|refine Qt 16 ?_|refine Qu 16 ?_|fail)
    (first|refine Qr 17 ?_|refine Qs 17 ?_|refine Qt 17 ?_|refine Qu 17 ?_|fail)
    refine SXA.know 109 false rfl (by simp) ?_
    (first|refine Qr 18 ?_|refine Qs 18 ?_|refine Qxa 18 ?_|refine Qya 18 ?_|refine Qt 18 ?_|refine Qu 18 ?_|fail)
    (first|refine Qr 20 ?_|refine Qs 20 ?_|refine Qxa 20 ?_|refine Qya 20 ?_|refine Qt 20 ?_|refine Qu 20 ?_|fail)
    (first|refine Qr 24 ?_|refine Qs 24 ?_|refine Qxa 24 ?_|refine Qya 24 ?_|refine Qt 24 ?_|refine Qu 24 ?_|fail)
    (first|refine Qr 19 ?_|refine Qs 19 ?_|refine Qxa 19 ?_|refine Qya 19 ?_|refine Qt 19 ?_|refine Qu 19 ?_|fail)
    refine SXA.idx 21 rfl (by decide +kernel) rfl rfl rfl rfl rfl rfl (by omega) (by omega) rfl inferInstance ?_
    (first|refine Qr 22 ?_|refine Qs 22 ?_|refine Qxa 22 ?_|refine Qya 22 ?_|refine Qt 22 ?_|refine Qu 22 ?_|fail)
    refine SXA.loadRow1 23 kE rfl (by decide +kernel) rfl rfl rfl inferInstance (by rw [Int.toNat_natCast]; exact he) rfl rfl inferInstance ?_
    (first|refine Qr 25 ?_|refine Qs 25 ?_|refine Qxa 25 ?_|refine Qya 25 ?_|refine Qt 25 ?_|refine Qu 25 ?_|fail)
    (first|refine Qr 26 ?_|refine Qs 26 ?_|refine Qxa 26 ?_|refine Qya 26 ?_|refine Qt 26 ?_|refine Qu 26 ?_|fail)
    refine Qv ?_
    refine SX.know 118 false rfl (decide_eq_false (by omega)) ?_
    repeat (first|refine Qa ?_|refine Qb ?_|refine Qc ?_|refine Qd ?_|refine Qe ?_|refine Qf ?_|refine Qg ?_|refine Qh ?_|refine Qi ?_|refine Qj ?_|refine Qk ?_|refine Ql ?_|refine Qm ?_|refine Qn ?_|refine Qo ?_|refine Qp ?_|refine Qq ?_|fail)
    refine SXL.idx rfl rfl rfl rfl rfl (by omega) (by omega) rfl ?_
    repeat (first|refine Qa ?_|refine Qb ?_|refine Qc ?_|refine Qd ?_|refine Qe ?_|refine Qf ?_|refine Qg ?_|refine Qh ?_|refine Qi ?_|refine Qj ?_|refine Qk ?_|refine Ql ?_|refine Qm ?_|refine Qn ?_|refine Qo ?_|refine Qp ?_|refine Qq ?_|fail)
    refine SXL.loadRow1 kE rfl rfl inferInstance (by rw [Int.toNat_natCast]; exact he) rfl rfl ?_
    repeat (first|refine Qa ?_|refine Qb ?_|refine Qc ?_|refine Qd ?_|refine Qe ?_|refine Qf ?_|refine Qg ?_|refine Qh ?_|refine Qi ?_|refine Qj ?_|refine Qk ?_|refine Ql ?_|refine Qm ?_|refine Qn ?_|refine Qo ?_|refine Qp ?_|refine Qq ?_|fail)
    refine SX.same 14 (.int .u64 (lastC (E.take (n + (k + 1))))) rfl (by rw [← Nat.add_assoc, lastC_take E (n + k) e heE]) ?_
    refine SX.same 15 (.int .i64 ((n + (k + 1) : Nat) : Int)) rfl (by rw [IntWalk.i64_in _ (by omega)]; congr 1) ?_
    refine SX.same 19 (.int .i64 ((k + 1 : Nat) : Int)) rfl (by simp (disch := omega) only [IntWalk.i64_in, IntWalk.u8_in, IntWalk.u32_in, IntWalk.u64_in, IntWalk.rem_in, Int.natCast_add, Int.natCast_one]) ?_
    refine SX.again (z3 - 1) (by omega) ⟨k + 1, by omega, rfl, rfl⟩ (by repeat (first | exact trivial | refine ⟨rfl, ?_⟩)) inferInstance
  obtain rfl : k = l := by omega
  repeat (first|refine Qa ?_|refine Qb ?_|refine Qc ?_|refine Qd ?_|refine Qe ?_|refine Qf ?_|refine Qg ?_|refine Qh ?_|refine Qi ?_|refine Qj ?_|refine Qk ?_|refine Ql ?_|refine Qm ?_|refine Qn ?_|refine Qo ?_|refine Qp ?_|refine Qq ?_|fail)
  refine SX.condp rfl (fun hf => ?_) (fun hf => ?_)
  rotate_left
  · repeat (first|refine Qa ?_|refine Qb ?_|refine Qc ?_|refine Qd ?_|refine Qe ?_|refine Qf ?_|refine Qg ?_|refine Qh ?_|refine Qi ?_|refine Qj ?_|refine Qk ?_|refine Ql ?_|refine Qm ?_|refine Qn ?_|refine Qo ?_|refine Qp ?_|refine Qq ?_|fail)
    refine SX.same 16 (.int .i64 ((i + 1 : Nat) : Int)) rfl (by simp (disch := omega) only [IntWalk.i64_in, IntWalk.u8_in, IntWalk.u32_in, IntWalk.u64_in, IntWalk.rem_in, Int.natCast_add, Int.natCast_one]) ?_
    refine SX.again (z - 1) (by omega) ⟨i + 1, n + k, by omega, by rw [Nat.succ_mul]; omega, Or.inr (by omega), rfl, rfl⟩ (by repeat (first | exact trivial | refine ⟨rfl, ?_⟩)) inferInstance
  repeat (first|refine Qa ?_|refine Qb ?_|refine Qc ?_|refine Qd ?_|refine Qe ?_|refine Qf ?_|refine Qg ?_|refine Qh ?_|refine Qi ?_|refine Qj ?_|refine Qk ?_|refine Ql ?_|refine Qm ?_|refine Qn ?_|refine Qo ?_|refine Qp ?_|refine Qq ?_|fail)
  by_cases hv1 : v = 1
  · skip
    subst hv1
    refine SXL.call rfl rfl rfl ?_
    refine (Do_S (t := t) (ps := ps) (c := rdC 1 1 1) (Ac := none) (cc := 0) inferInstance inferInstance hm hps hcap (rdC_wf ⟨by decide, by decide⟩ hv u32_1') (Nat.zero_le _) (Nat.le_refl _) inferInstance (fun _ _ => ⟨readdirE, readdir_S, fun t r => rfl⟩) (fun t4 r4 b4 cap4 ps4 Ad4 cd4 Ae4 ce4 he4 hcap4 hps4 m4 hd4 hx4 => callK.ret ?_))
    obtain ⟨-, hs4, -⟩ := hI.rd (by decide) (by decide) (Or.inr rfl) he4
    repeat (first|refine Qa ?_|refine Qb ?_|refine Qc ?_|refine Qd ?_|refine Qe ?_|refine Qf ?_|refine Qg ?_|refine Qh ?_|refine Qi ?_|refine Qj ?_|refine Qk ?_|refine Ql ?_|refine Qm ?_|refine Qn ?_|refine Qo ?_|refine Qp ?_|refine Qq ?_|fail)
    refine SXL.alloc rfl rfl (fun p20 => ?_)
    repeat (first|refine Qa ?_|refine Qb ?_|refine Qc ?_|refine Qd ?_|refine Qe ?_|refine Qf ?_|refine Qg ?_|refine Qh ?_|refine Qi ?_|refine Qj ?_|refine Qk ?_|refine Ql ?_|refine Qm ?_|refine Qn ?_|refine Qo ?_|refine Qp ?_|refine Qq ?_|fail)
    refine SXL.alloc rfl rfl (fun p21 => ?_)
    repeat (first|refine Qa ?_|refine Qb ?_|refine Qc ?_|refine Qd ?_|refine Qe ?_|refine Qf ?_|refine Qg ?_|refine Qh ?_|refine Qi ?_|refine Qj ?_|refine Qk ?_|refine Ql ?_|refine Qm ?_|refine Qn ?_|refine Qo ?_|refine Qp ?_|refine Qq ?_|fail)
    refine SXL.call rfl rfl rfl ?_
    refine (Do_S (t := t) (ps := ps) (c := rdC 0 0 0) (Ac := none) (cc := 0) inferInstance inferInstance hm hps hcap (rdC_wf u64_0 u64_0 u32_0) (Nat.zero_le _) (Nat.le_refl _) inferInstance (fun _ _ => ⟨readdirE, readdir_S, fun t r => rfl⟩) (fun t5 r5 b5 cap5 ps5 Ad5 cd5 Ae5 ce5 he5 hcap5 hps5 m5 hd5 hx5 => callK.ret ?_))
    have hs5 := hI.rd_0 he5
    repeat (first|refine Qa ?_|refine Qb ?_|refine Qc ?_|refine Qd ?_|refine Qe ?_|refine Qf ?_|refine Qg ?_|refine Qh ?_|refine Qi ?_|refine Qj ?_|refine Qk ?_|refine Ql ?_|refine Qm ?_|refine Qn ?_|refine Qo ?_|refine Qp ?_|refine Qq ?_|fail)
    refine SXL.alloc rfl rfl (fun p22 => ?_)
    repeat (first|refine Qa ?_|refine Qb ?_|refine Qc ?_|refine Qd ?_|refine Qe ?_|refine Qf ?_|refine Qg ?_|refine Qh ?_|refine Qi ?_|refine Qj ?_|refine Qk ?_|refine Ql ?_|refine Qm ?_|refine Qn ?_|refine Qo ?_|refine Qp ?_|refine Qq ?_|fail)
    refine SXL.alloc rfl rfl (fun p23 => ?_)
    repeat (first|refine Qa ?_|refine Qb ?_|refine Qc ?_|refine Qd ?_|refine Qe ?_|refine Qf ?_|refine Qg ?_|refine Qh ?_|refine Qi ?_|refine Qj ?_|refine Qk ?_|refine Ql ?_|refine Qm ?_|refine Qn ?_|refine Qo ?_|refine Qp ?_|refine Qq ?_|fail)
    unfold reK
    rw [hs4, hs5]
    repeat (first|refine Qa ?_|refine Qb ?_|refine Qc ?_|refine Qd ?_|refine Qe ?_|refine Qf ?_|refine Qg ?_|refine Qh ?_|refine Qi ?_|refine Qj ?_|refine Qk ?_|refine Ql ?_|refine Qm ?_|refine Qn ?_|refine Qo ?_|refine Qp ?_|refine Qq ?_|fail)
    refine SXL.know 148 true rfl (decide_eq_true (by rw [hEl]; omega)) ?_
    repeat (first|refine Qa ?_|refine Qb ?_|refine Qc ?_|refine Qd ?_|refine Qe ?_|refine Qf ?_|refine Qg ?_|refine Qh ?_|refine Qi ?_|refine Qj ?_|refine Qk ?_|refine Ql ?_|refine Qm ?_|refine Qn ?_|refine Qo ?_|refine Qp ?_|refine Qq ?_|fail)
    refine SX.ret (M' := F) rfl (Evals.tmp rfl Evals.nil) ?_ inferInstance
    exact h
  · skip
    refine SXL.call rfl rfl rfl ?_
    refine (Do_S (t := t) (ps := ps) (c := rdC 1 v 1) (Ac := none) (cc := 0) inferInstance inferInstance hm hps hcap (rdC_wf ⟨by decide, by decide⟩ hv u32_1') (Nat.zero_le _) (Nat.le_refl _) inferInstance (fun _ _ => ⟨readdirE, readdir_S, fun t r => rfl⟩) (fun t4 r4 b4 cap4 ps4 Ad4 cd4 Ae4 ce4 he4 hcap4 hps4 m4 hd4 hx4 => callK.ret ?_))
    have hs4 := hI.rd_no (by decide) (by decide) hv1 he4
    repeat (first|refine Qa ?_|refine Qb ?_|refine Qc ?_|refine Qd ?_|refine Qe ?_|refine Qf ?_|refine Qg ?_|refine Qh ?_|refine Qi ?_|refine Qj ?_|refine Qk ?_|refine Ql ?_|refine Qm ?_|refine Qn ?_|refine Qo ?_|refine Qp ?_|refine Qq ?_|fail)
    refine SXL.alloc rfl rfl (fun p20 => ?_)
    repeat (first|refine Qa ?_|refine Qb ?_|refine Qc ?_|refine Qd ?_|refine Qe ?_|refine Qf ?_|refine Qg ?_|refine Qh ?_|refine Qi ?_|refine Qj ?_|refine Qk ?_|refine Ql ?_|refine Qm ?_|refine Qn ?_|refine Qo ?_|refine Qp ?_|refine Qq ?_|fail)
    refine SXL.alloc rfl rfl (fun p21 => ?_)
    repeat (first|refine Qa ?_|refine Qb ?_|refine Qc ?_|refine Qd ?_|refine Qe ?_|refine Qf ?_|refine Qg ?_|refine Qh ?_|refine Qi ?_|refine Qj ?_|refine Qk ?_|refine Ql ?_|refine Qm ?_|refine Qn ?_|refine Qo ?_|refine Qp ?_|refine Qq ?_|fail)
    refine SXL.call rfl rfl rfl ?_
    refine (Do_S (t := t) (ps := ps) (c := rdC 0 0 0) (Ac := none) (cc := 0) inferInstance inferInstance hm hps hcap (rdC_wf u64_0 u64_0 u32_0) (Nat.zero_le _) (Nat.le_refl _) inferInstance (fun _ _ => ⟨readdirE, readdir_S, fun t r => rfl⟩) (fun t5 r5 b5 cap5 ps5 Ad5 cd5 Ae5 ce5 he5 hcap5 hps5 m5 hd5 hx5 => callK.ret ?_))
    have hs5 := hI.rd_0 he5
    repeat (first|refine Qa ?_|refine Qb ?_|refine Qc ?_|refine Qd ?_|refine Qe ?_|refine Qf ?_|refine Qg ?_|refine Qh ?_|refine Qi ?_|refine Qj ?_|refine Qk ?_|refine Ql ?_|refine Qm ?_|refine Qn ?_|refine Qo ?_|refine Qp ?_|refine Qq ?_|fail)
    refine SXL.alloc rfl rfl (fun p22 => ?_)
    repeat (first|refine Qa ?_|refine Qb ?_|refine Qc ?_|refine Qd ?_|refine Qe ?_|refine Qf ?_|refine Qg ?_|refine Qh ?_|refine Qi ?_|refine Qj ?_|refine Qk ?_|refine Ql ?_|refine Qm ?_|refine Qn ?_|refine Qo ?_|refine Qp ?_|refine Qq ?_|fail)
    refine SXL.alloc rfl rfl (fun p23 => ?_)
    repeat (first|refine Qa ?_|refine Qb ?_|refine Qc ?_|refine Qd ?_|refine Qe ?_|refine Qf ?_|refine Qg ?_|refine Qh ?_|refine Qi ?_|refine Qj ?_|refine Qk ?_|refine Ql ?_|refine Qm ?_|refine Qn ?_|refine Qo ?_|refine Qp ?_|refine Qq ?_|fail)
    unfold reK
    rw [hs4, hs5]
    repeat (first|refine Qa ?_|refine Qb ?_|refine Qc ?_|refine Qd ?_|refine Qe ?_|refine Qf ?_|refine Qg ?_|refine Qh ?_|refine Qi ?_|refine Qj ?_|refine Qk ?_|refine Ql ?_|refine Qm ?_|refine Qn ?_|refine Qo ?_|refine Qp ?_|refine Qq ?_|fail)
    refine SXL.know 148 true rfl (decide_eq_true (by rw [hEl]; omega)) ?_
    repeat (first|refine Qa ?_|refine Qb ?_|refine Qc ?_|refine Qd ?_|refine Qe ?_|refine Qf ?_|refine Qg ?_|refine Qh ?_|refine Qi ?_|refine Qj ?_|refine Qk ?_|refine Ql ?_|refine Qm ?_|refine Qn ?_|refine Qo ?_|refine Qp ?_|refine Qq ?_|fail)
    refine SXL.know 156 true rfl (by simp [hv1]) ?_
    repeat (first|refine Qa ?_|refine Qb ?_|refine Qc ?_|refine Qd ?_|refine Qe ?_|refine Qf ?_|refine Qg ?_|refine Qh ?_|refine Qi ?_|refine Qj ?_|refine Qk ?_|refine Ql ?_|refine Qm ?_|refine Qn ?_|refine Qo ?_|refine Qp ?_|refine Qq ?_|fail)
    refine SXL.know 159 false rfl (by simpa using hv1) ?_
    repeat (first|refine Qa ?_|refine Qb ?_|refine Qc ?_|refine Qd ?_|refine Qe ?_|refine Qf ?_|refine Qg ?_|refine Qh ?_|refine Qi ?_|refine Qj ?_|refine Qk ?_|refine Ql ?_|refine Qm ?_|refine Qn ?_|refine Qo ?_|refine Qp ?_|refine Qq ?_|fail)
    refine SX.ret (M' := F) rfl (Evals.tmp rfl Evals.nil) ?_ inferInstance
    exact h
end
theorem OpsLists_any (As : Option Addr) (cs : Nat) (ls : List Int) (q : Int) (v : Int) (W : World) (rs : Kd.C (Kd.int .u8) W As ls.length ls) (hs : ls.length ≤ cs) (ws : ls.length ≤ maxLen ∧ ∀ x ∈ ls, (Lit.int .u8 x).wf = true) (wq : (Lit.int .u8 q).wf = true) (wv : (Lit.int .u64 v).wf = true) :
    Calls Tryz.prog 14 #[.slice As ls.length cs, .int .u8 q, .int .u64 v] W fun e w' => e = .returned (.bool true) ∧ Below W.heap.size W w' :=
  Fn.out W [.per (roR (Kd.int .u8) As ls), .per (oldR W)] (Holds.ofStart (Holds.startRow (Holds.start0 W) (Kd.C_F (Kd.heap_int _) rs))) inferInstance
    (OpsLists_S Ro.here hs (bytesB_of_wf ls ws.2) (u8_of_wf _ wq).1 (u8_of_wf _ wq).2 (u64_of_wf _ wv) ⟨rfl, inferInstance⟩)
end Go.Proofs.YtanemmcddgkpdaaGreat.Sx
