/- Part Y4 of the lemmas and walks of the Go functions that these statements reach; conditions: those that each theorem names. -/
import Derived.Test.YtpbhanpblmoepaaJX2
import Derived.Test.YtpbhanpblmoepaaJY3
section
/- Go code walked by what is known of slots and memory: shifts by a number that isn't known; conditions: those that each theorem names. -/
namespace Go.Proofs.Ytpbhanpblmoepaa.Sx
open Go.RowKit Go.Proofs.Ytpbhanpblmoepaa.Hm Go.Proofs.YtpbhanpblmoepaaW.PrintWords Go.Proofs.YtpbhanpblmoepaaW.PrintLast Go.Proofs.YtpbhanpblmoepaaW.PrintMore
set_option linter.unusedVariables false
set_option linter.unusedSimpArgs false

section
variable {P : Program} {fn : Func} {K : Ending → List Thing → Prop} {N : Nat} {k k' : List It} {a : Fr} {M M0 R : List Thing} {ops : Array Oper} {rest : List Oper} {T : List (Nat × TI)}
variable {d id : Nat} {op : Op} {ty : TypeId} {pos : String} {af : Array Edge} {ds : List Nat} {fuel : Nat} {l : Array Bool}
theorem SXL.shr {t t' : Nat} {x y : Operand} {ik jk : IntKind} {u v : Int} (hx : evalO a x = some (.int ik u)) (hy : evalO a y = some (.int jk v)) (hv : 0 ≤ v) (hd : Nat.blt d N = true)
    (hK : SXL P fn K N k ops rest ((d, .int ik (shrI ik u v)) :: a) M) : SXL P fn K N k ops (⟨some d, .binOp .shr t x y t', ty, pos, af, none⟩ :: rest) a M :=
  SXL.val hd (fun act w st => by
    have hn : ¬ v < 0 := by omega
    simp [execOp, evalO_ok st.fits hx, evalO_ok st.fits hy, eqGuard, binOp, Op.shift, Sem.run_bind, hn, shrI]) hK
theorem SXL.shl {t t' : Nat} {x y : Operand} {ik jk : IntKind} {u v : Int} (hx : evalO a x = some (.int ik u)) (hy : evalO a y = some (.int jk v)) (hv : 0 ≤ v) (hd : Nat.blt d N = true)
    (hK : SXL P fn K N k ops rest ((d, .int ik (shlI ik u v)) :: a) M) : SXL P fn K N k ops (⟨some d, .binOp .shl t x y t', ty, pos, af, none⟩ :: rest) a M :=
  SXL.val hd (fun act w st => by
    have hn : ¬ v < 0 := by omega
    simp [execOp, evalO_ok st.fits hx, evalO_ok st.fits hy, eqGuard, binOp, Op.shift, Sem.run_bind, hn, shlI]) hK
end
end Go.Proofs.Ytpbhanpblmoepaa.Sx
end
section
/- Chapter 16's laws WireKinds and WireSpoils, walked; conditions: those that each theorem names. -/
namespace Go.Proofs.Ytpbhanpblmoepaa.Sx
open Go.RowKit Go.Proofs.Ytpbhanpblmoepaa.Hm Go.Proofs.YtpbhanpblmoepaaW.PrintWords Go.Proofs.YtpbhanpblmoepaaW.PrintLast Go.Proofs.YtpbhanpblmoepaaW.PrintMore
set_option linter.unusedVariables false
set_option linter.unusedSimpArgs false
attribute [local irreducible] SX SXL SXA St callK Post Evals

def caW : Ca := ⟨0, 0, 1, 0, 0, strOfNums [], 0, 0, strOfNums [], 0, 0, 0, 0, []⟩
def ctW (w : Int) : Ctl := ⟨w, 0, 0, 0, []⟩
def msW (k w : Int) : Msg := ⟨k, caW, Re0, ctW w⟩
theorem msW_wf {k w : Int} (h0 : 0 ≤ k) (h1 : k < 4294967296) (h2 : 0 ≤ w) (h3 : w < 4294967296) : (msW k w).wf := by
  have w0 : u32ok 0 := ⟨by decide, by decide⟩
  have w1 : u32ok 1 := ⟨by decide, by decide⟩
  have v0 : u64ok 0 := ⟨by decide, by decide⟩
  exact ⟨⟨h0, h1⟩, ⟨w0, w0, w1, w0, w0, w0, w0, v0, v0, w0, w0, rfl⟩, Re0_wf, ⟨⟨h2, h3⟩, v0, v0, w0, rfl⟩⟩
theorem bit_at (b i : Nat) (hb : b < 4294967296) (hi : i ≤ 32) : andI .u32 (shrI .u32 (b : Int) (i : Int)) 1 = ((b / 2 ^ i % 2 : Nat) : Int) := by
  have e : shrI .u32 (b : Int) (i : Int) = ((b / 2 ^ i : Nat) : Int) := by
    unfold shrI
    rw [Int.toNat_natCast, show min i IntKind.u32.bits = i from Nat.min_eq_left hi]
    rw [Int.fdiv_eq_ediv_of_nonneg _ (Int.pow_nonneg (by decide)), Int.natCast_ediv, Int.natCast_pow]
    rfl
  have hlt : b / 2 ^ i < 4294967296 := Nat.lt_of_le_of_lt (Nat.div_le_self b _) hb
  rw [e]
  have h1 := u32_and_nat (b / 2 ^ i) 1 hlt (by omega)
  rw [show ((1 : Nat) : Int) = 1 from rfl, Nat.and_one_is_mod] at h1
  exact h1
theorem top_at (j : Nat) (hj : j < 8) : shrI .u8 128 (j : Int) = ((128 / 2 ^ j : Nat) : Int) := by
  have : j = 0 ∨ j = 1 ∨ j = 2 ∨ j = 3 ∨ j = 4 ∨ j = 5 ∨ j = 6 ∨ j = 7 := by omega
  rcases this with rfl | rfl | rfl | rfl | rfl | rfl | rfl | rfl <;> decide
theorem burstN_0 (l : List Int) (k n : Nat) : burstN l k 0 n = l := by
  induction n with
  | zero => rfl
  | succ n ih =>
    unfold burstN
    rw [Nat.zero_div, if_neg (by decide)]
    exact ih
section
variable {F R : List Thing} {K : Ending → List Thing → Prop} {A B C D A' B' C' D' : Option Addr} {a1 a2 a3 a4 b1 b2 b3 b4 : Nat}
set_option maxHeartbeats 1000000 in
set_option maxRecDepth 20000 in
theorem WireSpoils_S {m : Msg} {at' : Int} {bu : Nat} (hrA : Ro (Kd.int .u8) A F m.c.d) (hrB : Ro (Kd.int .u8) B F m.r.d) (hrC : Ro kE C F m.r.e) (hrD : Ro (Kd.int .u8) D F m.t.d) (hA : m.c.d.length ≤ a1) (hB : m.r.d.length ≤ a2) (hC : m.r.e.length ≤ a3) (hD : m.t.d.length ≤ a4) (hw : m.wf) (h0 : 0 ≤ at') (h1 : at' < 65536) (hbu : bu < 4294967296) (h : K (.returned (.bool true)) F) :
    Fn (Try.prog) 4 [.agg (msC m A a1 B a2 C a3 D a4).toArray, .int .u16 at', .int .u32 (bu : Int)] F K := by
  unfold msC
  refine Fn.enter Try.call4 Try.func4 rfl rfl rfl ?_
  repeat (first | refine Qa ?_ | refine Qb ?_ | refine Qc ?_ | refine Qd ?_ | refine Qe ?_ | refine Qf ?_ | refine Qg ?_ | refine Qh ?_ | refine Qi ?_ | refine Qj ?_ | refine Qk ?_ | refine Ql ?_ | refine Qm ?_ | refine Qn ?_ | refine Qo ?_ | refine Qp ?_ | refine Qq ?_ | fail)
  refine SXL.box rfl rfl rfl (fun b => ?_)
  repeat (first | refine Qa ?_ | refine Qb ?_ | refine Qc ?_ | refine Qd ?_ | refine Qe ?_ | refine Qf ?_ | refine Qg ?_ | refine Qh ?_ | refine Qi ?_ | refine Qj ?_ | refine Qk ?_ | refine Ql ?_ | refine Qm ?_ | refine Qn ?_ | refine Qo ?_ | refine Qp ?_ | refine Qq ?_ | fail)
  refine SXL.call rfl rfl rfl ?_
  refine (awake16_S (callK.ret ?_))
  repeat (first | refine Qa ?_ | refine Qb ?_ | refine Qc ?_ | refine Qd ?_ | refine Qe ?_ | refine Qf ?_ | refine Qg ?_ | refine Qh ?_ | refine Qi ?_ | refine Qj ?_ | refine Qk ?_ | refine Ql ?_ | refine Qm ?_ | refine Qn ?_ | refine Qo ?_ | refine Qp ?_ | refine Qq ?_ | fail)
  refine SXL.call rfl rfl rfl ?_
  refine (short_S (m := m) (A := A) (B := B) (C := C) (D := D) (a1 := a1) (a2 := a2) (a3 := a3) (a4 := a4) (callK.ret ?_))
  repeat (first | refine Qa ?_ | refine Qb ?_ | refine Qc ?_ | refine Qd ?_ | refine Qe ?_ | refine Qf ?_ | refine Qg ?_ | refine Qh ?_ | refine Qi ?_ | refine Qj ?_ | refine Qk ?_ | refine Ql ?_ | refine Qm ?_ | refine Qn ?_ | refine Qo ?_ | refine Qp ?_ | refine Qq ?_ | fail)
  refine SXL.call rfl rfl rfl ?_
  refine (WPut_S (m := m) inferInstance inferInstance inferInstance inferInstance hA hB hC hD hw (fun r n hm A1 c1 hc1 => callK.ret ?_))
  repeat (first | refine Qa ?_ | refine Qb ?_ | refine Qc ?_ | refine Qd ?_ | refine Qe ?_ | refine Qf ?_ | refine Qg ?_ | refine Qh ?_ | refine Qi ?_ | refine Qj ?_ | refine Qk ?_ | refine Ql ?_ | refine Qm ?_ | refine Qn ?_ | refine Qo ?_ | refine Qp ?_ | refine Qq ?_ | fail)
  refine SXL.split (s := 27) rfl (fun h27 => ?_) (fun h27 => ?_)
  · repeat (first | refine Qa ?_ | refine Qb ?_ | refine Qc ?_ | refine Qd ?_ | refine Qe ?_ | refine Qf ?_ | refine Qg ?_ | refine Qh ?_ | refine Qi ?_ | refine Qj ?_ | refine Qk ?_ | refine Ql ?_ | refine Qm ?_ | refine Qn ?_ | refine Qo ?_ | refine Qp ?_ | refine Qq ?_ | fail)
    refine SXL.know 38 true rfl (by simpa using h27) ?_
    repeat (first | refine Qa ?_ | refine Qb ?_ | refine Qc ?_ | refine Qd ?_ | refine Qe ?_ | refine Qf ?_ | refine Qg ?_ | refine Qh ?_ | refine Qi ?_ | refine Qj ?_ | refine Qk ?_ | refine Ql ?_ | refine Qm ?_ | refine Qn ?_ | refine Qo ?_ | refine Qp ?_ | refine Qq ?_ | fail)
    refine SX.ret (M' := F) rfl (Evals.tmp rfl Evals.nil) ?_ inferInstance
    exact h
  repeat (first | refine Qa ?_ | refine Qb ?_ | refine Qc ?_ | refine Qd ?_ | refine Qe ?_ | refine Qf ?_ | refine Qg ?_ | refine Qh ?_ | refine Qi ?_ | refine Qj ?_ | refine Qk ?_ | refine Ql ?_ | refine Qm ?_ | refine Qn ?_ | refine Qo ?_ | refine Qp ?_ | refine Qq ?_ | fail)
  refine SXL.split (s := 31) rfl (fun h31 => ?_) (fun h31 => ?_)
  · repeat (first | refine Qa ?_ | refine Qb ?_ | refine Qc ?_ | refine Qd ?_ | refine Qe ?_ | refine Qf ?_ | refine Qg ?_ | refine Qh ?_ | refine Qi ?_ | refine Qj ?_ | refine Qk ?_ | refine Ql ?_ | refine Qm ?_ | refine Qn ?_ | refine Qo ?_ | refine Qp ?_ | refine Qq ?_ | fail)
    refine SXL.know 38 false rfl (by simpa using h27) ?_
    repeat (first | refine Qa ?_ | refine Qb ?_ | refine Qc ?_ | refine Qd ?_ | refine Qe ?_ | refine Qf ?_ | refine Qg ?_ | refine Qh ?_ | refine Qi ?_ | refine Qj ?_ | refine Qk ?_ | refine Ql ?_ | refine Qm ?_ | refine Qn ?_ | refine Qo ?_ | refine Qp ?_ | refine Qq ?_ | fail)
    refine SX.same 6 (.bool true) rfl (by rw [← h31]) ?_
    refine SX.ret (M' := F) rfl (Evals.tmp rfl Evals.nil) ?_ inferInstance
    exact h
  obtain rfl : n = 0 := by simpa using h31
  obtain ⟨hrb, hrl, hrl2, hri⟩ := putMs_bytes hw hm
  repeat (first | refine Qa ?_ | refine Qb ?_ | refine Qc ?_ | refine Qd ?_ | refine Qe ?_ | refine Qf ?_ | refine Qg ?_ | refine Qh ?_ | refine Qi ?_ | refine Qj ?_ | refine Qk ?_ | refine Ql ?_ | refine Qm ?_ | refine Qn ?_ | refine Qo ?_ | refine Qp ?_ | refine Qq ?_ | fail)
  refine SX.know 35 false rfl (by simp; omega) ?_
  repeat (first | refine Qa ?_ | refine Qb ?_ | refine Qc ?_ | refine Qd ?_ | refine Qe ?_ | refine Qf ?_ | refine Qg ?_ | refine Qh ?_ | refine Qi ?_ | refine Qj ?_ | refine Qk ?_ | refine Ql ?_ | refine Qm ?_ | refine Qn ?_ | refine Qo ?_ | refine Qp ?_ | refine Qq ?_ | fail)
  refine SXL.same 47 (.int .i64 ((8 * r.length - 31 : Nat) : Int)) rfl (by rw [IntWalk.i64_in (8 * (r.length : Int)) (by omega), IntWalk.i64_in _ (by omega)]; congr 1; omega) ?_
  refine SXL.rem rfl rfl (by omega) rfl ?_
  obtain ⟨k, hk⟩ : ∃ k : Nat, (k : Int) = at' % ((8 * r.length - 31 : Nat) : Int) := ⟨(at' % ((8 * r.length - 31 : Nat) : Int)).toNat, by have := Int.emod_nonneg at' (b := ((8 * r.length - 31 : Nat) : Int)) (by omega); omega⟩
  have hk2 : k < 8 * r.length - 31 := by have := Int.emod_lt_of_pos at' (b := ((8 * r.length - 31 : Nat) : Int)) (by omega); omega
  refine SXL.same 48 (.int .i64 (k : Int)) rfl (by rw [IntWalk.i64_in at' (by omega), Int.tmod_eq_emod_of_nonneg h0, hk]) ?_
  repeat (first | refine Qa ?_ | refine Qb ?_ | refine Qc ?_ | refine Qd ?_ | refine Qe ?_ | refine Qf ?_ | refine Qg ?_ | refine Qh ?_ | refine Qi ?_ | refine Qj ?_ | refine Qk ?_ | refine Ql ?_ | refine Qm ?_ | refine Qn ?_ | refine Qo ?_ | refine Qp ?_ | refine Qq ?_ | fail)
  refine SX.addrOwn (A := A1) (Kd.int .u8) inferInstance (xs := r) (by omega) (fun b3 e3 => ?_)
  subst e3
  repeat (first | refine Qa ?_ | refine Qb ?_ | refine Qc ?_ | refine Qd ?_ | refine Qe ?_ | refine Qf ?_ | refine Qg ?_ | refine Qh ?_ | refine Qi ?_ | refine Qj ?_ | refine Qk ?_ | refine Ql ?_ | refine Qm ?_ | refine Qn ?_ | refine Qo ?_ | refine Qp ?_ | refine Qq ?_ | fail)
  refine SX.loop (fun z a M => ∃ (i : Nat) (xs : List Int), i + z = 32 ∧ xs = burstN r k bu i ∧ xs.length = r.length ∧ a = [(2, .int .u32 (bu : Int)), (9, .slice (some ⟨b3, 0, none⟩) xs.length c1), (11, .int .i64 (k : Int)), (12, .int .i64 (i : Int))] ∧ .own (some ⟨b3, 0, none⟩) (rowR (Kd.int .u8) 5 (.slice (some ⟨b3, 0, none⟩) xs.length c1) xs) :: F = M) 32 ⟨0, r, by omega, rfl, rfl, rfl, rfl⟩ (by repeat (first | exact trivial | refine ⟨rfl, ?_⟩)) inferInstance ?_
  rintro z _ _ ⟨i, xs, hz, hxs, hxl, rfl, rfl⟩
  repeat (first | refine Qa ?_ | refine Qb ?_ | refine Qc ?_ | refine Qd ?_ | refine Qe ?_ | refine Qf ?_ | refine Qg ?_ | refine Qh ?_ | refine Qi ?_ | refine Qj ?_ | refine Qk ?_ | refine Ql ?_ | refine Qm ?_ | refine Qn ?_ | refine Qo ?_ | refine Qp ?_ | refine Qq ?_ | fail)
  refine SX.condp rfl (fun hi => ?_) (fun hi => ?_)
  · repeat (first | refine Qa ?_ | refine Qb ?_ | refine Qc ?_ | refine Qd ?_ | refine Qe ?_ | refine Qf ?_ | refine Qg ?_ | refine Qh ?_ | refine Qi ?_ | refine Qj ?_ | refine Qk ?_ | refine Ql ?_ | refine Qm ?_ | refine Qn ?_ | refine Qo ?_ | refine Qp ?_ | refine Qq ?_ | fail)
    have hbit := bit_at bu i hbu (by omega)
    have hwr : IntKind.u64.wrap (i : Int) = (i : Int) := IntWalk.u64_in _ (by omega)
    refine SX.know 58 (decide (bu / 2 ^ i % 2 = 1)) rfl (by rw [hwr, hbit, Bool.eq_iff_iff, beq_iff_eq, decide_eq_true_iff]; omega) ?_
    refine SX.condp rfl (fun hb => ?_) (fun hb => ?_)
    · have hj : (k + i) / 8 < xs.length := by omega
      have hj8 : (k + i) % 8 < 8 := by omega
      repeat (first | refine Qa ?_ | refine Qb ?_ | refine Qc ?_ | refine Qd ?_ | refine Qe ?_ | refine Qf ?_ | refine Qg ?_ | refine Qh ?_ | refine Qi ?_ | refine Qj ?_ | refine Qk ?_ | refine Ql ?_ | refine Qm ?_ | refine Qn ?_ | refine Qo ?_ | refine Qp ?_ | refine Qq ?_ | fail)
      refine SXL.same 63 (.int .i64 (((k + i) / 8 : Nat) : Int)) rfl (by rw [IntWalk.i64_in ((k : Int) + (i : Int)) (by omega), Int.tdiv_eq_ediv_of_nonneg (by omega), IntWalk.i64_in (((k : Int) + (i : Int)) / 8) (by omega)]; congr 1) ?_
      refine SXL.idx rfl rfl rfl rfl rfl (by omega) (by omega) rfl ?_
      obtain ⟨v, hv⟩ : ∃ v, xs[(k + i) / 8]? = some v := ⟨_, List.getElem?_eq_getElem hj⟩
      refine SXL.loadRow (Kd.int .u8) rfl rfl inferInstance (by rw [Int.toNat_natCast]; exact hv) rfl rfl ?_
      repeat (first | refine Qa ?_ | refine Qb ?_ | refine Qc ?_ | refine Qd ?_ | refine Qe ?_ | refine Qf ?_ | refine Qg ?_ | refine Qh ?_ | refine Qi ?_ | refine Qj ?_ | refine Qk ?_ | refine Ql ?_ | refine Qm ?_ | refine Qn ?_ | refine Qo ?_ | refine Qp ?_ | refine Qq ?_ | fail)
      refine SXL.same 70 (.int .u64 (((k + i) % 8 : Nat) : Int)) rfl (by rw [IntWalk.i64_in ((k : Int) + (i : Int)) (by omega), Int.tmod_eq_emod_of_nonneg (by omega), IntWalk.u64_in (((k : Int) + (i : Int)) % 8) (by omega)]; congr 1) ?_
      refine SXL.shr rfl rfl (by omega) rfl ?_
      repeat (first | refine Qa ?_ | refine Qb ?_ | refine Qc ?_ | refine Qd ?_ | refine Qe ?_ | refine Qf ?_ | refine Qg ?_ | refine Qh ?_ | refine Qi ?_ | refine Qj ?_ | refine Qk ?_ | refine Ql ?_ | refine Qm ?_ | refine Qn ?_ | refine Qo ?_ | refine Qp ?_ | refine Qq ?_ | fail)
      refine SXL.idx rfl rfl rfl rfl rfl (by omega) (by omega) rfl ?_
      refine SXL.storeElem rfl rfl inferInstance rfl rfl (by show 0 + (((k + i) / 8 : Nat) : Int).toNat * 1 + 0 < xs.length; rw [Int.toNat_natCast]; omega) ?_
      have hset : xs.set (0 + (((k + i) / 8 : Nat) : Int).toNat * 1 + 0) (xorI .u8 v (shrI .u8 128 (((k + i) % 8 : Nat) : Int))) = burstN r k bu (i + 1) := by
        have hvv : rd xs (((k + i) / 8 : Nat) : Int) = v := by rw [rd_at xs _ hj]; exact (List.getElem?_eq_some_iff.1 hv).2
        unfold burstN
        rw [if_pos hb, ← hxs]
        unfold Hm.flip
        rw [hvv, top_at _ hj8, Int.toNat_natCast, show 0 + (k + i) / 8 * 1 + 0 = (k + i) / 8 by omega]
        rfl
      have hsl : (burstN r k bu (i + 1)).length = xs.length := by rw [burstN_length, hxl]
      refine SXL.nil ?_
      repeat (first | refine Qa ?_ | refine Qb ?_ | refine Qc ?_ | refine Qd ?_ | refine Qe ?_ | refine Qf ?_ | refine Qg ?_ | refine Qh ?_ | refine Qi ?_ | refine Qj ?_ | refine Qk ?_ | refine Ql ?_ | refine Qm ?_ | refine Qn ?_ | refine Qo ?_ | refine Qp ?_ | refine Qq ?_ | fail)
      refine SX.same 12 (.int .i64 ((i + 1 : Nat) : Int)) rfl (by simp (disch := omega) only [IntWalk.i64_in, IntWalk.u8_in, IntWalk.u32_in, IntWalk.u64_in, IntWalk.rem_in, Int.natCast_add, Int.natCast_one]) ?_
      refine SX.again (z - 1) (by omega) ⟨i + 1, _, by omega, hset, by rw [List.length_set, hxl], rfl, rfl⟩ (by rw [List.length_set]; repeat (first | exact trivial | refine ⟨rfl, ?_⟩)) (by rw [List.length_set]; infer_instance)
    · repeat (first | refine Qa ?_ | refine Qb ?_ | refine Qc ?_ | refine Qd ?_ | refine Qe ?_ | refine Qf ?_ | refine Qg ?_ | refine Qh ?_ | refine Qi ?_ | refine Qj ?_ | refine Qk ?_ | refine Ql ?_ | refine Qm ?_ | refine Qn ?_ | refine Qo ?_ | refine Qp ?_ | refine Qq ?_ | fail)
      refine SX.same 12 (.int .i64 ((i + 1 : Nat) : Int)) rfl (by simp (disch := omega) only [IntWalk.i64_in, IntWalk.u8_in, IntWalk.u32_in, IntWalk.u64_in, IntWalk.rem_in, Int.natCast_add, Int.natCast_one]) ?_
      refine SX.again (z - 1) (by omega) ⟨i + 1, xs, by omega, by rw [hxs]; exact (if_neg hb).symm, hxl, rfl, rfl⟩ (by repeat (first | exact trivial | refine ⟨rfl, ?_⟩)) inferInstance
  obtain rfl : i = 32 := by omega
  have hxb : bytesB xs = true := by rw [hxs]; exact burstN_bytes r k bu 32 hrb (by omega)
  have hsp := burst_spoils r k bu hrb (by omega) hbu hri
  rw [← hxs] at hsp
  have hgm : getMs xs = if bu = 0 then (normM m, 0) else (Msg0, 14) := by
    by_cases hz0 : bu = 0
    · rw [if_pos hz0]
      have : xs = r := by rw [hxs, hz0, burstN_0]
      rw [this]
      exact getMs_put hw hm
    · rw [if_neg hz0]
      unfold getMs
      rw [if_pos (by rw [hsp]; exact decide_eq_false hz0)]
  repeat (first | refine Qa ?_ | refine Qb ?_ | refine Qc ?_ | refine Qd ?_ | refine Qe ?_ | refine Qf ?_ | refine Qg ?_ | refine Qh ?_ | refine Qi ?_ | refine Qj ?_ | refine Qk ?_ | refine Ql ?_ | refine Qm ?_ | refine Qn ?_ | refine Qo ?_ | refine Qp ?_ | refine Qq ?_ | fail)
  refine SXL.call rfl rfl rfl ?_
  refine (WGet_S (xs := xs) inferInstance (by omega) hxb (by omega) (fun x g hg A2 x2 B2 y2 C2 z2 D2 u2 g1 g2 g3 g4 => callK.ret ?_))
  rw [hgm] at hg
  by_cases hz0 : bu = 0
  · rw [if_pos hz0] at hg
    simp only [Prod.mk.injEq] at hg
    obtain ⟨rfl, rfl⟩ := hg
    subst hz0
    repeat (first | refine Qa ?_ | refine Qb ?_ | refine Qc ?_ | refine Qd ?_ | refine Qe ?_ | refine Qf ?_ | refine Qg ?_ | refine Qh ?_ | refine Qi ?_ | refine Qj ?_ | refine Qk ?_ | refine Ql ?_ | refine Qm ?_ | refine Qn ?_ | refine Qo ?_ | refine Qp ?_ | refine Qq ?_ | fail)
    refine SXL.alloc rfl rfl (fun q => ?_)
    repeat (first | refine Qa ?_ | refine Qb ?_ | refine Qc ?_ | refine Qd ?_ | refine Qe ?_ | refine Qf ?_ | refine Qg ?_ | refine Qh ?_ | refine Qi ?_ | refine Qj ?_ | refine Qk ?_ | refine Ql ?_ | refine Qm ?_ | refine Qn ?_ | refine Qo ?_ | refine Qp ?_ | refine Qq ?_ | fail)
    refine SXL.call rfl rfl rfl ?_
    refine (RFind_S (l := []) (A := none) (c := 0) ⟨#[]⟩ inferInstance (Nat.le_refl _) (callK.ret ?_))
    repeat (first | refine Qa ?_ | refine Qb ?_ | refine Qc ?_ | refine Qd ?_ | refine Qe ?_ | refine Qf ?_ | refine Qg ?_ | refine Qh ?_ | refine Qi ?_ | refine Qj ?_ | refine Qk ?_ | refine Ql ?_ | refine Qm ?_ | refine Qn ?_ | refine Qo ?_ | refine Qp ?_ | refine Qq ?_ | fail)
    refine SX.ret (M' := F) rfl (Evals.tmp rfl Evals.nil) ?_ inferInstance
    exact h
  · rw [if_neg hz0] at hg
    simp only [Prod.mk.injEq] at hg
    obtain ⟨rfl, rfl⟩ := hg
    have hz1 : ((bu : Int) == 0) = false := by rw [beq_eq_false_iff_ne]; omega
    repeat (first | refine Qa ?_ | refine Qb ?_ | refine Qc ?_ | refine Qd ?_ | refine Qe ?_ | refine Qf ?_ | refine Qg ?_ | refine Qh ?_ | refine Qi ?_ | refine Qj ?_ | refine Qk ?_ | refine Ql ?_ | refine Qm ?_ | refine Qn ?_ | refine Qo ?_ | refine Qp ?_ | refine Qq ?_ | fail)
    refine SXL.alloc rfl rfl (fun q => ?_)
    repeat (first | refine Qa ?_ | refine Qb ?_ | refine Qc ?_ | refine Qd ?_ | refine Qe ?_ | refine Qf ?_ | refine Qg ?_ | refine Qh ?_ | refine Qi ?_ | refine Qj ?_ | refine Qk ?_ | refine Ql ?_ | refine Qm ?_ | refine Qn ?_ | refine Qo ?_ | refine Qp ?_ | refine Qq ?_ | fail)
    refine SXL.know 84 true rfl (by rw [hz1]; rfl) ?_
    repeat (first | refine Qa ?_ | refine Qb ?_ | refine Qc ?_ | refine Qd ?_ | refine Qe ?_ | refine Qf ?_ | refine Qg ?_ | refine Qh ?_ | refine Qi ?_ | refine Qj ?_ | refine Qk ?_ | refine Ql ?_ | refine Qm ?_ | refine Qn ?_ | refine Qo ?_ | refine Qp ?_ | refine Qq ?_ | fail)
    refine SXL.know 87 false rfl hz1 ?_
    repeat (first | refine Qa ?_ | refine Qb ?_ | refine Qc ?_ | refine Qd ?_ | refine Qe ?_ | refine Qf ?_ | refine Qg ?_ | refine Qh ?_ | refine Qi ?_ | refine Qj ?_ | refine Qk ?_ | refine Ql ?_ | refine Qm ?_ | refine Qn ?_ | refine Qo ?_ | refine Qp ?_ | refine Qq ?_ | fail)
    refine SXL.call rfl rfl rfl ?_
    refine (RFind_S (l := []) (A := none) (c := 0) ⟨#[]⟩ inferInstance (Nat.le_refl _) (callK.ret ?_))
    repeat (first | refine Qa ?_ | refine Qb ?_ | refine Qc ?_ | refine Qd ?_ | refine Qe ?_ | refine Qf ?_ | refine Qg ?_ | refine Qh ?_ | refine Qi ?_ | refine Qj ?_ | refine Qk ?_ | refine Ql ?_ | refine Qm ?_ | refine Qn ?_ | refine Qo ?_ | refine Qp ?_ | refine Qq ?_ | fail)
    refine SX.ret (M' := F) rfl (Evals.tmp rfl Evals.nil) ?_ inferInstance
    exact h
set_option maxHeartbeats 1000000 in
set_option maxRecDepth 20000 in
theorem WireKinds_S {k w : Int} (h0 : 0 ≤ k) (h1 : k < 4294967296) (h2 : 0 ≤ w) (h3 : w < 4294967296) (h : K (.returned (.bool true)) F) :
    Fn (Try.prog) 5 [.int .u32 k, .int .u32 w] F K := by
  have hw := msW_wf h0 h1 h2 h3
  refine Fn.enter Try.call5 Try.func5 rfl rfl rfl ?_
  repeat (first | refine Qa ?_ | refine Qb ?_ | refine Qc ?_ | refine Qd ?_ | refine Qe ?_ | refine Qf ?_ | refine Qg ?_ | refine Qh ?_ | refine Qi ?_ | refine Qj ?_ | refine Qk ?_ | refine Ql ?_ | refine Qm ?_ | refine Qn ?_ | refine Qo ?_ | refine Qp ?_ | refine Qq ?_ | fail)
  refine SXL.call rfl rfl rfl ?_
  refine (awake16_S (callK.ret ?_))
  repeat (first | refine Qa ?_ | refine Qb ?_ | refine Qc ?_ | refine Qd ?_ | refine Qe ?_ | refine Qf ?_ | refine Qg ?_ | refine Qh ?_ | refine Qi ?_ | refine Qj ?_ | refine Qk ?_ | refine Ql ?_ | refine Qm ?_ | refine Qn ?_ | refine Qo ?_ | refine Qp ?_ | refine Qq ?_ | fail)
  refine SXL.call rfl rfl rfl ?_
  refine (WPut_S (m := msW k w) (A := none) (B := none) (C := none) (D := none) (a1 := 0) (a2 := 0) (a3 := 0) (a4 := 0) inferInstance inferInstance inferInstance inferInstance (Nat.le_refl _) (Nat.le_refl _) (Nat.le_refl _) (Nat.le_refl _) hw (fun r n hm A1 c1 hc1 => callK.ret ?_))
  by_cases k1 : k = 1
  · subst k1
    have hp : putMs (msW 1 w) = (encMs 1 (encCa caW), 0) := by
      have h1 : innM (msW 1 w) = (encCa caW, 0) := by
        show putCa caW = _
        unfold putCa
        rw [if_pos (by decide +kernel)]
      unfold putMs
      rw [h1, if_neg (by simp)]
      rfl
    obtain ⟨hrb, hrl, -, -⟩ := putMs_bytes hw hp
    have hg9 := getMs_put hw hp
    rw [hp] at hm
    simp only [Prod.mk.injEq] at hm
    obtain ⟨rfl, rfl⟩ := hm
    repeat (first | refine Qa ?_ | refine Qb ?_ | refine Qc ?_ | refine Qd ?_ | refine Qe ?_ | refine Qf ?_ | refine Qg ?_ | refine Qh ?_ | refine Qi ?_ | refine Qj ?_ | refine Qk ?_ | refine Ql ?_ | refine Qm ?_ | refine Qn ?_ | refine Qo ?_ | refine Qp ?_ | refine Qq ?_ | fail)
    refine SXL.call rfl rfl rfl ?_
    refine (WGet_S inferInstance hc1 hrb (by omega) (fun x g hg A2 x2 B2 y2 C2 z2 D2 u2 g1 g2 g3 g4 => callK.ret ?_))
    rw [hg9] at hg
    simp only [Prod.mk.injEq] at hg
    obtain ⟨rfl, rfl⟩ := hg
    rw [show normM (msW 1 w) = ⟨1, caW, Re0, Ctl0⟩ from rfl]
    repeat (first | refine Qa ?_ | refine Qb ?_ | refine Qc ?_ | refine Qd ?_ | refine Qe ?_ | refine Qf ?_ | refine Qg ?_ | refine Qh ?_ | refine Qi ?_ | refine Qj ?_ | refine Qk ?_ | refine Ql ?_ | refine Qm ?_ | refine Qn ?_ | refine Qo ?_ | refine Qp ?_ | refine Qq ?_ | fail)
    refine SXL.alloc rfl rfl (fun q => ?_)
    repeat (first | refine Qa ?_ | refine Qb ?_ | refine Qc ?_ | refine Qd ?_ | refine Qe ?_ | refine Qf ?_ | refine Qg ?_ | refine Qh ?_ | refine Qi ?_ | refine Qj ?_ | refine Qk ?_ | refine Ql ?_ | refine Qm ?_ | refine Qn ?_ | refine Qo ?_ | refine Qp ?_ | refine Qq ?_ | fail)
    refine SX.ret (M' := F) rfl (Evals.tmp rfl Evals.nil) ?_ inferInstance
    exact h
  by_cases k2 : k = 2
  · subst k2
    have hp : putMs (msW 2 w) = (encMs 2 (encRe Re0), 0) := by
      have h1 : innM (msW 2 w) = (encRe Re0, 0) := by
        show putRe Re0 = _
        kernel_rfl
      unfold putMs
      rw [h1, if_neg (by simp)]
      rfl
    obtain ⟨hrb, hrl, -, -⟩ := putMs_bytes hw hp
    have hg9 := getMs_put hw hp
    rw [hp] at hm
    simp only [Prod.mk.injEq] at hm
    obtain ⟨rfl, rfl⟩ := hm
    repeat (first | refine Qa ?_ | refine Qb ?_ | refine Qc ?_ | refine Qd ?_ | refine Qe ?_ | refine Qf ?_ | refine Qg ?_ | refine Qh ?_ | refine Qi ?_ | refine Qj ?_ | refine Qk ?_ | refine Ql ?_ | refine Qm ?_ | refine Qn ?_ | refine Qo ?_ | refine Qp ?_ | refine Qq ?_ | fail)
    refine SXL.call rfl rfl rfl ?_
    refine (WGet_S inferInstance hc1 hrb (by omega) (fun x g hg A2 x2 B2 y2 C2 z2 D2 u2 g1 g2 g3 g4 => callK.ret ?_))
    rw [hg9] at hg
    simp only [Prod.mk.injEq] at hg
    obtain ⟨rfl, rfl⟩ := hg
    rw [show normM (msW 2 w) = ⟨2, Ca0, Re0, Ctl0⟩ from rfl]
    repeat (first | refine Qa ?_ | refine Qb ?_ | refine Qc ?_ | refine Qd ?_ | refine Qe ?_ | refine Qf ?_ | refine Qg ?_ | refine Qh ?_ | refine Qi ?_ | refine Qj ?_ | refine Qk ?_ | refine Ql ?_ | refine Qm ?_ | refine Qn ?_ | refine Qo ?_ | refine Qp ?_ | refine Qq ?_ | fail)
    refine SXL.alloc rfl rfl (fun q => ?_)
    repeat (first | refine Qa ?_ | refine Qb ?_ | refine Qc ?_ | refine Qd ?_ | refine Qe ?_ | refine Qf ?_ | refine Qg ?_ | refine Qh ?_ | refine Qi ?_ | refine Qj ?_ | refine Qk ?_ | refine Ql ?_ | refine Qm ?_ | refine Qn ?_ | refine Qo ?_ | refine Qp ?_ | refine Qq ?_ | fail)
    refine SX.ret (M' := F) rfl (Evals.tmp rfl Evals.nil) ?_ inferInstance
    exact h
  by_cases k3 : k = 3
  · subst k3
    have hi : innM (msW 3 w) = putCt (ctW w) := rfl
    have hok : okCt (ctW w) = wordB w := by
      unfold okCt
      show (wordB w && true) = _
      rw [Bool.and_true]
    by_cases hwb : wordB w = true
    · have hp : putMs (msW 3 w) = (encMs 3 (encCt (ctW w)), 0) := by
        unfold putMs
        rw [hi]
        unfold putCt
        rw [hok, if_pos hwb, if_neg (by simp)]
        rfl
      unfold wordB at hwb
      simp only [Bool.and_eq_true, decide_eq_true_eq] at hwb
      obtain ⟨hrb, hrl, -, -⟩ := putMs_bytes hw hp
      have hg9 := getMs_put hw hp
      rw [hp] at hm
      simp only [Prod.mk.injEq] at hm
      obtain ⟨rfl, rfl⟩ := hm
      repeat (first | refine Qa ?_ | refine Qb ?_ | refine Qc ?_ | refine Qd ?_ | refine Qe ?_ | refine Qf ?_ | refine Qg ?_ | refine Qh ?_ | refine Qi ?_ | refine Qj ?_ | refine Qk ?_ | refine Ql ?_ | refine Qm ?_ | refine Qn ?_ | refine Qo ?_ | refine Qp ?_ | refine Qq ?_ | fail)
      refine SXL.know 36 true rfl (by simp; omega) ?_
      repeat (first | refine Qa ?_ | refine Qb ?_ | refine Qc ?_ | refine Qd ?_ | refine Qe ?_ | refine Qf ?_ | refine Qg ?_ | refine Qh ?_ | refine Qi ?_ | refine Qj ?_ | refine Qk ?_ | refine Ql ?_ | refine Qm ?_ | refine Qn ?_ | refine Qo ?_ | refine Qp ?_ | refine Qq ?_ | fail)
      refine SX.know 42 false rfl (by simp; omega) ?_
      repeat (first | refine Qa ?_ | refine Qb ?_ | refine Qc ?_ | refine Qd ?_ | refine Qe ?_ | refine Qf ?_ | refine Qg ?_ | refine Qh ?_ | refine Qi ?_ | refine Qj ?_ | refine Qk ?_ | refine Ql ?_ | refine Qm ?_ | refine Qn ?_ | refine Qo ?_ | refine Qp ?_ | refine Qq ?_ | fail)
      refine SXL.call rfl rfl rfl ?_
      refine (WGet_S inferInstance hc1 hrb (by omega) (fun x g hg A2 x2 B2 y2 C2 z2 D2 u2 g1 g2 g3 g4 => callK.ret ?_))
      rw [hg9] at hg
      simp only [Prod.mk.injEq] at hg
      obtain ⟨rfl, rfl⟩ := hg
      rw [show normM (msW 3 w) = ⟨3, Ca0, Re0, ctW w⟩ from rfl]
      repeat (first | refine Qa ?_ | refine Qb ?_ | refine Qc ?_ | refine Qd ?_ | refine Qe ?_ | refine Qf ?_ | refine Qg ?_ | refine Qh ?_ | refine Qi ?_ | refine Qj ?_ | refine Qk ?_ | refine Ql ?_ | refine Qm ?_ | refine Qn ?_ | refine Qo ?_ | refine Qp ?_ | refine Qq ?_ | fail)
      refine SXL.alloc rfl rfl (fun q => ?_)
      repeat (first | refine Qa ?_ | refine Qb ?_ | refine Qc ?_ | refine Qd ?_ | refine Qe ?_ | refine Qf ?_ | refine Qg ?_ | refine Qh ?_ | refine Qi ?_ | refine Qj ?_ | refine Qk ?_ | refine Ql ?_ | refine Qm ?_ | refine Qn ?_ | refine Qo ?_ | refine Qp ?_ | refine Qq ?_ | fail)
      refine SXL.know 67 true rfl rfl ?_
      repeat (first | refine Qa ?_ | refine Qb ?_ | refine Qc ?_ | refine Qd ?_ | refine Qe ?_ | refine Qf ?_ | refine Qg ?_ | refine Qh ?_ | refine Qi ?_ | refine Qj ?_ | refine Qk ?_ | refine Ql ?_ | refine Qm ?_ | refine Qn ?_ | refine Qo ?_ | refine Qp ?_ | refine Qq ?_ | fail)
      refine SXL.know 78 true rfl (by show (w == w) = true; simp) ?_
      repeat (first | refine Qa ?_ | refine Qb ?_ | refine Qc ?_ | refine Qd ?_ | refine Qe ?_ | refine Qf ?_ | refine Qg ?_ | refine Qh ?_ | refine Qi ?_ | refine Qj ?_ | refine Qk ?_ | refine Ql ?_ | refine Qm ?_ | refine Qn ?_ | refine Qo ?_ | refine Qp ?_ | refine Qq ?_ | fail)
      refine SX.ret (M' := F) rfl (Evals.tmp rfl Evals.nil) ?_ inferInstance
      exact h
    · have hp : putMs (msW 3 w) = ([], 1) := by
        unfold putMs
        rw [hi]
        unfold putCt
        rw [hok, if_neg hwb, if_pos (by simp)]
      rw [hp] at hm
      simp only [Prod.mk.injEq] at hm
      obtain ⟨rfl, rfl⟩ := hm
      have hwb' : wordB w = false := by simpa using hwb
      unfold wordB at hwb'
      simp only [Bool.and_eq_false_iff, decide_eq_false_iff_not] at hwb'
      repeat (first | refine Qa ?_ | refine Qb ?_ | refine Qc ?_ | refine Qd ?_ | refine Qe ?_ | refine Qf ?_ | refine Qg ?_ | refine Qh ?_ | refine Qi ?_ | refine Qj ?_ | refine Qk ?_ | refine Ql ?_ | refine Qm ?_ | refine Qn ?_ | refine Qo ?_ | refine Qp ?_ | refine Qq ?_ | fail)
      refine SXL.split (s := 36) rfl (fun h34 => ?_) (fun h34 => ?_)
      · have h34' := of_decide_eq_true h34
        repeat (first | refine Qa ?_ | refine Qb ?_ | refine Qc ?_ | refine Qd ?_ | refine Qe ?_ | refine Qf ?_ | refine Qg ?_ | refine Qh ?_ | refine Qi ?_ | refine Qj ?_ | refine Qk ?_ | refine Ql ?_ | refine Qm ?_ | refine Qn ?_ | refine Qo ?_ | refine Qp ?_ | refine Qq ?_ | fail)
        refine SX.know 42 true rfl (by simp; omega) ?_
        repeat (first | refine Qa ?_ | refine Qb ?_ | refine Qc ?_ | refine Qd ?_ | refine Qe ?_ | refine Qf ?_ | refine Qg ?_ | refine Qh ?_ | refine Qi ?_ | refine Qj ?_ | refine Qk ?_ | refine Ql ?_ | refine Qm ?_ | refine Qn ?_ | refine Qo ?_ | refine Qp ?_ | refine Qq ?_ | fail)
        refine SX.ret (M' := F) rfl (Evals.tmp rfl Evals.nil) ?_ inferInstance
        exact h
      · repeat (first | refine Qa ?_ | refine Qb ?_ | refine Qc ?_ | refine Qd ?_ | refine Qe ?_ | refine Qf ?_ | refine Qg ?_ | refine Qh ?_ | refine Qi ?_ | refine Qj ?_ | refine Qk ?_ | refine Ql ?_ | refine Qm ?_ | refine Qn ?_ | refine Qo ?_ | refine Qp ?_ | refine Qq ?_ | fail)
        refine SX.ret (M' := F) rfl (Evals.tmp rfl Evals.nil) ?_ inferInstance
        exact h
  have hp : putMs (msW k w) = ([], 1) := by
    have h1 : innM (msW k w) = ([], 1) := by
      show (if k = 1 then _ else if k = 2 then _ else if k = 3 then _ else _) = _
      rw [if_neg k1, if_neg k2, if_neg k3]
    unfold putMs
    rw [h1, if_pos (by simp)]
  rw [hp] at hm
  simp only [Prod.mk.injEq] at hm
  obtain ⟨rfl, rfl⟩ := hm
  repeat (first | refine Qa ?_ | refine Qb ?_ | refine Qc ?_ | refine Qd ?_ | refine Qe ?_ | refine Qf ?_ | refine Qg ?_ | refine Qh ?_ | refine Qi ?_ | refine Qj ?_ | refine Qk ?_ | refine Ql ?_ | refine Qm ?_ | refine Qn ?_ | refine Qo ?_ | refine Qp ?_ | refine Qq ?_ | fail)
  refine SXL.know 25 false rfl (by simp [k1]) ?_
  repeat (first | refine Qa ?_ | refine Qb ?_ | refine Qc ?_ | refine Qd ?_ | refine Qe ?_ | refine Qf ?_ | refine Qg ?_ | refine Qh ?_ | refine Qi ?_ | refine Qj ?_ | refine Qk ?_ | refine Ql ?_ | refine Qm ?_ | refine Qn ?_ | refine Qo ?_ | refine Qp ?_ | refine Qq ?_ | fail)
  refine SXL.know 29 false rfl (by simp [k2]) ?_
  repeat (first | refine Qa ?_ | refine Qb ?_ | refine Qc ?_ | refine Qd ?_ | refine Qe ?_ | refine Qf ?_ | refine Qg ?_ | refine Qh ?_ | refine Qi ?_ | refine Qj ?_ | refine Qk ?_ | refine Ql ?_ | refine Qm ?_ | refine Qn ?_ | refine Qo ?_ | refine Qp ?_ | refine Qq ?_ | fail)
  refine SXL.know 32 false rfl (by simp [k3]) ?_
  repeat (first | refine Qa ?_ | refine Qb ?_ | refine Qc ?_ | refine Qd ?_ | refine Qe ?_ | refine Qf ?_ | refine Qg ?_ | refine Qh ?_ | refine Qi ?_ | refine Qj ?_ | refine Qk ?_ | refine Ql ?_ | refine Qm ?_ | refine Qn ?_ | refine Qo ?_ | refine Qp ?_ | refine Qq ?_ | fail)
  refine SX.ret (M' := F) rfl (Evals.tmp rfl Evals.nil) ?_ inferInstance
  exact h
end
end Go.Proofs.Ytpbhanpblmoepaa.Sx
end
section
/- Chapter 16's laws WireSpoils, WireKinds, for every input; conditions: those that each theorem names. -/
namespace Go.Proofs.Ytpbhanpblmoepaa.Sx
open Go.RowKit Go.Proofs.Ytpbhanpblmoepaa.Hm Go.Proofs.YtpbhanpblmoepaaW.PrintWords Go.Proofs.YtpbhanpblmoepaaW.PrintLast Go.Proofs.YtpbhanpblmoepaaW.PrintMore
set_option linter.unusedVariables false
set_option linter.unusedSimpArgs false
attribute [local irreducible] SX SXL SXA St callK Post Evals

theorem WireSpoils_any (mk : Int) (mc0 : Int) (mc1 : Int) (mc2 : Int) (mc3 : Int) (mc4 : Int) (mc5 : ByteArray) (mc6 : Int) (mc7 : Int) (mc8 : ByteArray) (mc9 : Int) (mca : Int) (mcb : Int) (mcd : Int) (Amce : Option Addr) (cmce : Nat) (lmce : List Int) (mr0 : Int) (mr1 : Int) (mr2 : Int) (mr3 : Int) (mr4 : Int) (mr5 : Int) (mr6 : Int) (mr7 : Int) (mr8 : Int) (mr9 : Int) (Amra : Option Addr) (cmra : Nat) (lmra : List Int) (Amrb : Option Addr) (cmrb : Nat) (lmrb : List Ent) (mrd : Bool) (mre : Int) (mrf : Int) (mt0 : Int) (mt1 : Int) (mt2 : Int) (mt3 : Int) (Amt4 : Option Addr) (cmt4 : Nat) (lmt4 : List Int) (a : Int) (b : Int) (W : World) (wmk : (Lit.int .u32 mk).wf = true) (wmc0 : (Lit.int .u32 mc0).wf = true) (wmc1 : (Lit.int .u32 mc1).wf = true) (wmc2 : (Lit.int .u32 mc2).wf = true) (wmc3 : (Lit.int .u32 mc3).wf = true) (wmc4 : (Lit.int .u32 mc4).wf = true) (wmc5 : mc5.size ≤ maxLen) (wmc6 : (Lit.int .u32 mc6).wf = true) (wmc7 : (Lit.int .u32 mc7).wf = true) (wmc8 : mc8.size ≤ maxLen) (wmc9 : (Lit.int .u64 mc9).wf = true) (wmca : (Lit.int .u64 mca).wf = true) (wmcb : (Lit.int .u32 mcb).wf = true) (wmcd : (Lit.int .u32 mcd).wf = true) (rmce : Kd.C (Kd.int .u8) W Amce lmce.length lmce) (hmce : lmce.length ≤ cmce) (wmce : lmce.length ≤ maxLen ∧ ∀ x ∈ lmce, (Lit.int .u8 x).wf = true) (wmr0 : (Lit.int .u32 mr0).wf = true) (wmr1 : (Lit.int .u32 mr1).wf = true) (wmr2 : (Lit.int .i64 mr2).wf = true) (wmr3 : (Lit.int .u32 mr3).wf = true) (wmr4 : (Lit.int .u32 mr4).wf = true) (wmr5 : (Lit.int .u32 mr5).wf = true) (wmr6 : (Lit.int .u32 mr6).wf = true) (wmr7 : (Lit.int .u32 mr7).wf = true) (wmr8 : (Lit.int .u32 mr8).wf = true) (wmr9 : (Lit.int .u64 mr9).wf = true) (rmra : Kd.C (Kd.int .u8) W Amra lmra.length lmra) (hmra : lmra.length ≤ cmra) (wmra : lmra.length ≤ maxLen ∧ ∀ x ∈ lmra, (Lit.int .u8 x).wf = true) (rmrb : kE.C W Amrb lmrb.length lmrb) (hmrb : lmrb.length ≤ cmrb) (wmrb : lmrb.length ≤ maxLen ∧ ∀ e ∈ lmrb, (Lit.int .u64 e.c).wf = true ∧ ((Lit.int .u32 e.i).wf = true ∧ (Lit.int .u32 e.g).wf = true) ∧ e.s.size ≤ maxLen) (wmre : (Lit.int .u64 mre).wf = true) (wmrf : (Lit.int .u32 mrf).wf = true) (wmt0 : (Lit.int .u32 mt0).wf = true) (wmt1 : (Lit.int .u64 mt1).wf = true) (wmt2 : (Lit.int .u64 mt2).wf = true) (wmt3 : (Lit.int .u32 mt3).wf = true) (rmt4 : Kd.C (Kd.int .u8) W Amt4 lmt4.length lmt4) (hmt4 : lmt4.length ≤ cmt4) (wmt4 : lmt4.length ≤ maxLen ∧ ∀ x ∈ lmt4, (Lit.int .u8 x).wf = true) (wa : (Lit.int .u16 a).wf = true) (wb : (Lit.int .u32 b).wf = true) :
    Calls Try.prog 4 #[.agg #[.int .u32 mk, .int .u32 mc0, .int .u32 mc1, .int .u32 mc2, .int .u32 mc3, .int .u32 mc4, .string mc5, .int .u32 mc6, .int .u32 mc7, .string mc8, .int .u64 mc9, .int .u64 mca, .int .u32 mcb, .int .u32 mcd, .slice Amce lmce.length cmce, .int .u32 mr0, .int .u32 mr1, .int .i64 mr2, .int .u32 mr3, .int .u32 mr4, .int .u32 mr5, .int .u32 mr6, .int .u32 mr7, .int .u32 mr8, .int .u64 mr9, .slice Amra lmra.length cmra, .slice Amrb lmrb.length cmrb, .bool mrd, .int .u64 mre, .int .u32 mrf, .int .u32 mt0, .int .u64 mt1, .int .u64 mt2, .int .u32 mt3, .slice Amt4 lmt4.length cmt4], .int .u16 a, .int .u32 b] W fun e w' => e = .returned (.bool true) ∧ Below W.heap.size W w' := by
  obtain ⟨n, rfl⟩ := Int.eq_ofNat_of_zero_le (u32_of_wf _ wb).1
  exact Fn.out W [.per (roR (Kd.int .u8) Amce lmce), .per (roR (Kd.int .u8) Amra lmra), .per (roR kE Amrb lmrb), .per (roR (Kd.int .u8) Amt4 lmt4), .per (oldR W)] (Holds.ofStart (Holds.startRow (Holds.startRow (Holds.startRow (Holds.startRow (Holds.start0 W) (Kd.C_F (Kd.heap_int _) rmt4)) (Kd.C_F heapE rmrb)) (Kd.C_F (Kd.heap_int _) rmra)) (Kd.C_F (Kd.heap_int _) rmce))) inferInstance
    (WireSpoils_S (m := (⟨mk, (⟨mc0, mc1, mc2, mc3, mc4, mc5, mc6, mc7, mc8, mc9, mca, mcb, mcd, lmce⟩ : Ca), (⟨mr0, mr1, mr2, mr3, mr4, mr5, mr6, mr7, mr8, mr9, lmra, lmrb, mrd, mre, mrf⟩ : Re), (⟨mt0, mt1, mt2, mt3, lmt4⟩ : Ctl)⟩ : Msg)) Ro.here (Ro.there (a := Ro.here)) (Ro.there (a := (Ro.there (a := Ro.here)))) (Ro.there (a := (Ro.there (a := (Ro.there (a := Ro.here)))))) hmce hmra hmrb hmt4 (⟨u32_of_wf _ wmk, ⟨u32_of_wf _ wmc0, u32_of_wf _ wmc1, u32_of_wf _ wmc2, u32_of_wf _ wmc3, u32_of_wf _ wmc4, u32_of_wf _ wmc6, u32_of_wf _ wmc7, u64_of_wf _ wmc9, u64_of_wf _ wmca, u32_of_wf _ wmcb, u32_of_wf _ wmcd, bytesB_of_wf lmce wmce.2⟩, ⟨u32_of_wf _ wmr0, u32_of_wf _ wmr1, u32_of_wf _ wmr3, u32_of_wf _ wmr4, u32_of_wf _ wmr5, u32_of_wf _ wmr6, u32_of_wf _ wmr7, u32_of_wf _ wmr8, u64_of_wf _ wmr9, u64_of_wf _ wmre, u32_of_wf _ wmrf, bytesB_of_wf lmra wmra.2, fun e he => wf_of_ok (wmrb.2 e he)⟩, ⟨u32_of_wf _ wmt0, u64_of_wf _ wmt1, u64_of_wf _ wmt2, u32_of_wf _ wmt3, bytesB_of_wf lmt4 wmt4.2⟩⟩ : Msg.wf _) (u16_of_wf _ wa).1 (u16_of_wf _ wa).2 (by have := (u32_of_wf _ wb); omega) ⟨rfl, inferInstance⟩)
theorem WireKinds_any (k : Int) (w : Int) (W : World) (wk : (Lit.int .u32 k).wf = true) (ww : (Lit.int .u32 w).wf = true) :
    Calls Try.prog 5 #[.int .u32 k, .int .u32 w] W fun e w' => e = .returned (.bool true) ∧ Below W.heap.size W w' :=
  Fn.out W [.per (oldR W)] (Holds.ofStart (Holds.start0 W)) inferInstance
    (WireKinds_S (u32_of_wf _ wk).1 (u32_of_wf _ wk).2 (u32_of_wf _ ww).1 (u32_of_wf _ ww).2 ⟨rfl, inferInstance⟩)
end Go.Proofs.Ytpbhanpblmoepaa.Sx
end
