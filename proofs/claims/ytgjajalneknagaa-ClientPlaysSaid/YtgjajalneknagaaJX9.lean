/- Part X9 of the lemmas and walks of the Go functions that these statements reach; conditions: those that each theorem names. -/
import Derived.Test.YtgjajalneknagaaJV5
import Derived.Test.YtgjajalneknagaaJX2
import Derived.Test.YtgjajalneknagaaJX7
import Derived.Test.YtgjajalneknagaaJX4
import Derived.Test.YtgjajalneknagaaJX8
section
/- The Go package crc and its reference, walked; conditions: those that each theorem names. -/
namespace Go.Proofs.Ytgjajalneknagaa.Sx
open Go.RowKit Go.Proofs.Ytgjajalneknagaa.Hm Go.Proofs.YtgjajalneknagaaW.PrintWords Go.Proofs.YtgjajalneknagaaW.PrintLast Go.Proofs.YtgjajalneknagaaW.PrintMore
set_option linter.unusedVariables false
set_option linter.unusedSimpArgs false
attribute [local irreducible] SX SXL SXA St callK Post Evals

theorem shr_24 (x : Int) : shrI .u32 x 24 = x / 16777216 := by
  unfold shrI
  show x.fdiv 16777216 = _
  exact Int.fdiv_eq_ediv_of_nonneg x (by decide)
theorem shr_16 (x : Int) : shrI .u32 x 16 = x / 65536 := by
  unfold shrI
  show x.fdiv 65536 = _
  exact Int.fdiv_eq_ediv_of_nonneg x (by decide)
theorem shr_8 (x : Int) : shrI .u32 x 8 = x / 256 := by
  unfold shrI
  show x.fdiv 256 = _
  exact Int.fdiv_eq_ediv_of_nonneg x (by decide)
theorem u32_mod (x : Int) : IntKind.u32.wrap x = x % 4294967296 := by
  simp [IntKind.wrap, IntKind.signed, IntKind.bits]
theorem xor_I (x y : Int) : xorI .u32 x y = Go.bits .xor .u32 x y := by
  rfl
theorem u8_mod (x : Int) (h0 : 0 ≤ x) : IntKind.u8.wrap x = x % 256 := by
  simp [IntKind.wrap, IntKind.signed, IntKind.bits]
section
variable {F R : List Thing} {K : Ending → List Thing → Prop} {A B : Option Addr} {c c2 : Nat} {xs : List Int}
theorem More_S {a : Int} (hr : Ro (Kd.int .u8) A F xs) (hc : xs.length ≤ c) (hb : bytesB xs = true) (h0 : 0 ≤ a) (h1 : a < 4294967296) (h : K (.returned (.int .u32 (crcM a xs))) F) : Fn (Try.prog) 63 [.int .u32 a, .slice A xs.length c] F K :=
  Fn.ofVal _ Try.call63 (fun w hM => more_any a A c xs w (hM.ro hr) hc h0 h1 ((bytesB_iff xs).1 hb)) h
theorem Of_S (hr : Ro (Kd.int .u8) A F xs) (hc : xs.length ≤ c) (hb : bytesB xs = true) (h : K (.returned (.int .u32 (crcM 0 xs))) F) : Fn (Try.prog) 56 [.slice A xs.length c] F K := by
  refine Fn.enter Try.call56 Try.func56 rfl rfl rfl ?_
  repeat (first | refine Qa ?_ | refine Qb ?_ | refine Qc ?_ | refine Qd ?_ | refine Qe ?_ | refine Qf ?_ | refine Qg ?_ | refine Qh ?_ | refine Qi ?_ | refine Qj ?_ | refine Qk ?_ | refine Ql ?_ | refine Qm ?_ | refine Qn ?_ | refine Qo ?_ | refine Qp ?_ | refine Qq ?_ | fail)
  refine SXL.call rfl rfl rfl ?_
  refine (More_S hr hc hb (by decide) (by decide) (callK.ret ?_))
  repeat (first | refine Qa ?_ | refine Qb ?_ | refine Qc ?_ | refine Qd ?_ | refine Qe ?_ | refine Qf ?_ | refine Qg ?_ | refine Qh ?_ | refine Qi ?_ | refine Qj ?_ | refine Qk ?_ | refine Ql ?_ | refine Qm ?_ | refine Qn ?_ | refine Qo ?_ | refine Qp ?_ | refine Qq ?_ | fail)
  refine SX.ret (M' := F) rfl (Evals.tmp rfl Evals.nil) ?_ inferInstance
  exact h
theorem Sealed_S (hr : Ro (Kd.int .u8) A F xs) (hc : xs.length ≤ c) (hb : bytesB xs = true) (hl : xs.length ≤ 140737488355000) (h : ∀ A' c', (sealM xs).length ≤ c' → K (.returned (.slice A' (sealM xs).length c')) (.own A' (rowR (Kd.int .u8) 5 (.slice A' (sealM xs).length c') (sealM xs)) :: F)) : Fn (Try.prog) 42 [.slice A xs.length c] F K := by
  have hx := crcM_range 0 xs (by omega) (by omega) ((bytesB_iff xs).1 hb)
  unfold sealM at h
  obtain ⟨x, hX⟩ : ∃ x, crcM 0 xs = x := ⟨_, rfl⟩
  rw [hX] at hx h
  refine Fn.enter Try.call42 Try.func42 rfl rfl rfl ?_
  repeat (first | refine Qa ?_ | refine Qb ?_ | refine Qc ?_ | refine Qd ?_ | refine Qe ?_ | refine Qf ?_ | refine Qg ?_ | refine Qh ?_ | refine Qi ?_ | refine Qj ?_ | refine Qk ?_ | refine Ql ?_ | refine Qm ?_ | refine Qn ?_ | refine Qo ?_ | refine Qp ?_ | refine Qq ?_ | fail)
  refine SXL.call rfl rfl rfl ?_
  refine (Of_S hr hc hb (callK.ret ?_))
  rw [hX]
  repeat (first | refine Qa ?_ | refine Qb ?_ | refine Qc ?_ | refine Qd ?_ | refine Qe ?_ | refine Qf ?_ | refine Qg ?_ | refine Qh ?_ | refine Qi ?_ | refine Qj ?_ | refine Qk ?_ | refine Ql ?_ | refine Qm ?_ | refine Qn ?_ | refine Qo ?_ | refine Qp ?_ | refine Qq ?_ | fail)
  refine SXL.call rfl rfl rfl ?_
  refine (BClone_S hr hc (by omega) (fun A1 c1 hc1 => callK.ret ?_))
  repeat (first | refine Qa ?_ | refine Qb ?_ | refine Qc ?_ | refine Qd ?_ | refine Qe ?_ | refine Qf ?_ | refine Qg ?_ | refine Qh ?_ | refine Qi ?_ | refine Qj ?_ | refine Qk ?_ | refine Ql ?_ | refine Qm ?_ | refine Qn ?_ | refine Qo ?_ | refine Qp ?_ | refine Qq ?_ | fail)
  refine SXL.same 10 (.int .u8 (x / 16777216 % 256)) rfl (by rw [shr_24, u8_mod _ (by omega)]) ?_
  refine SXL.same 13 (.int .u8 (x / 65536 % 256)) rfl (by rw [shr_16, u8_mod _ (by omega)]) ?_
  refine SXL.same 16 (.int .u8 (x / 256 % 256)) rfl (by rw [shr_8, u8_mod _ (by omega)]) ?_
  refine SXL.same 18 (.int .u8 (x % 256)) rfl (by rw [u8_mod _ hx.1]) ?_
  refine SXL.lit rfl rfl (fun g => ?_)
  refine SXL.litRow (Kd.int .u8) g (be32 x) inferInstance rfl (fun _ => rfl) (by simp [be32]) ?_
  refine SXL.append (ys := be32 x) (Kd.int .u8) rfl rfl inferInstance inferInstance rfl inferInstance (by simp [be32]; omega) rfl (fun A4 c4 hc4 => ?_)
  repeat (first | refine Qa ?_ | refine Qb ?_ | refine Qc ?_ | refine Qd ?_ | refine Qe ?_ | refine Qf ?_ | refine Qg ?_ | refine Qh ?_ | refine Qi ?_ | refine Qj ?_ | refine Qk ?_ | refine Ql ?_ | refine Qm ?_ | refine Qn ?_ | refine Qo ?_ | refine Qp ?_ | refine Qq ?_ | fail)
  refine SX.ret (M' := (.own A4 (rowR (Kd.int .u8) 5 (.slice A4 (xs ++ be32 x).length c4) (xs ++ be32 x)) :: F)) rfl (Evals.tmp rfl Evals.nil) ?_ inferInstance
  exact h A4 c4 hc4
set_option maxHeartbeats 1000000 in
theorem RMore_S (x0 : Int) (s : ByteArray) (hs : s.size ≤ 1000000) (h0 : 0 ≤ x0) (h1 : x0 < 4294967296) (h : K (.returned (.int .u32 (crcM x0 (bytesOf s)))) F) : Fn (Try.prog) 68 [.int .u32 x0, .string s] F K := by
  have hbl := bytesOf_length s
  have hbr := (bytesB_iff (bytesOf s)).1 (bytesOf_range s)
  refine Fn.enter Try.call68 Try.func68 rfl rfl rfl ?_
  repeat (first | refine Qa ?_ | refine Qb ?_ | refine Qc ?_ | refine Qd ?_ | refine Qe ?_ | refine Qf ?_ | refine Qg ?_ | refine Qh ?_ | refine Qi ?_ | refine Qj ?_ | refine Qk ?_ | refine Ql ?_ | refine Qm ?_ | refine Qn ?_ | refine Qo ?_ | refine Qp ?_ | refine Qq ?_ | fail)
  refine SX.loop (fun z a M => ∃ i : Nat, i + z = s.size ∧ a = [(1, .string s), (5, .int .u32 (crcRaw (4294967295 - x0) ((bytesOf s).take i))), (6, .int .i64 i)] ∧ F = M) s.size ⟨0, by omega, rfl, rfl⟩ ⟨rfl, by show some (Value.int .u32 (IntKind.u32.wrap (4294967295 - x0))) = some (Value.int .u32 (4294967295 - x0)); rw [IntWalk.u32_in _ (by omega)], rfl, trivial⟩ inferInstance ?_
  rintro z _ _ ⟨i, hz, rfl, rfl⟩
  have hxr := crcRaw_range ((bytesOf s).take i) (4294967295 - x0) (by omega) (by omega) (fun c hc => hbr c (List.mem_of_mem_take hc))
  obtain ⟨x, hX⟩ : ∃ x, crcRaw (4294967295 - x0) ((bytesOf s).take i) = x := ⟨_, rfl⟩
  rw [hX] at hxr ⊢
  repeat (first | refine Qa ?_ | refine Qb ?_ | refine Qc ?_ | refine Qd ?_ | refine Qe ?_ | refine Qf ?_ | refine Qg ?_ | refine Qh ?_ | refine Qi ?_ | refine Qj ?_ | refine Qk ?_ | refine Ql ?_ | refine Qm ?_ | refine Qn ?_ | refine Qo ?_ | refine Qp ?_ | refine Qq ?_ | fail)
  refine SX.condp rfl (fun hi => ?_) (fun hi => ?_)
  · obtain ⟨cc, hcc⟩ : ∃ cc, rd (bytesOf s) (i : Int) = cc := ⟨_, rfl⟩
    have hcr := rd_range (bytesOf s) (bytesOf_range s) i (by omega)
    rw [hcc] at hcr
    have hbt : bt s (i : Int) = cc := by rw [← hcc]; exact bt_rd s i
    have hst := crcRaw_take (4294967295 - x0) (bytesOf s) i (by omega)
    rw [hX, hcc] at hst
    repeat (first | refine Qa ?_ | refine Qb ?_ | refine Qc ?_ | refine Qd ?_ | refine Qe ?_ | refine Qf ?_ | refine Qg ?_ | refine Qh ?_ | refine Qi ?_ | refine Qj ?_ | refine Qk ?_ | refine Ql ?_ | refine Qm ?_ | refine Qn ?_ | refine Qo ?_ | refine Qp ?_ | refine Qq ?_ | fail)
    refine SXL.index rfl rfl rfl rfl (by omega) (by omega) rfl ?_
    rw [hbt]
    repeat (first | refine Qa ?_ | refine Qb ?_ | refine Qc ?_ | refine Qd ?_ | refine Qe ?_ | refine Qf ?_ | refine Qg ?_ | refine Qh ?_ | refine Qi ?_ | refine Qj ?_ | refine Qk ?_ | refine Ql ?_ | refine Qm ?_ | refine Qn ?_ | refine Qo ?_ | refine Qp ?_ | refine Qq ?_ | fail)
    have hy : 0 ≤ Go.bits .xor .u32 x (cc % 4294967296 * 16777216 % 4294967296) ∧ Go.bits .xor .u32 x (cc % 4294967296 * 16777216 % 4294967296) < 4294967296 := by
      rw [u32_xor _ _ hxr.1 hxr.2 (by omega) (by omega)]
      have h := Nat.xor_lt_two_pow (n := 32) (x := x.toNat) (y := (cc % 4294967296 * 16777216 % 4294967296).toNat) (by omega) (by omega)
      omega
    refine SX.same 5 (.int .u32 (tn 0 (Go.bits .xor .u32 x (cc % 4294967296 * 16777216 % 4294967296)))) rfl (by rw [u32_mod, u32_mod, xor_I]; rfl) ?_
    have h8 := step8 x cc hxr.1 hxr.2 hcr.1 hcr.2
    generalize Go.bits .xor .u32 x (cc % 4294967296 * 16777216 % 4294967296) = y at hy h8 ⊢
    refine SX.loop (fun z' a M => ∃ k : Nat, k + z' = 8 ∧ a = [(1, .string s), (5, .int .u32 (tn k y)), (6, .int .i64 i), (7, .int .i64 k)] ∧ F = M) 8 ⟨0, rfl, rfl, rfl⟩ (by repeat (first | exact trivial | refine ⟨rfl, ?_⟩)) inferInstance ?_
    rintro z' _ _ ⟨k, hk, rfl, rfl⟩
    have hkr := tn_range k y hy.1 hy.2
    repeat (first | refine Qa ?_ | refine Qb ?_ | refine Qc ?_ | refine Qd ?_ | refine Qe ?_ | refine Qf ?_ | refine Qg ?_ | refine Qh ?_ | refine Qi ?_ | refine Qj ?_ | refine Qk ?_ | refine Ql ?_ | refine Qm ?_ | refine Qn ?_ | refine Qo ?_ | refine Qp ?_ | refine Qq ?_ | fail)
    refine SX.condp rfl (fun hk8 => ?_) (fun hk8 => ?_)
    · repeat (first | refine Qa ?_ | refine Qb ?_ | refine Qc ?_ | refine Qd ?_ | refine Qe ?_ | refine Qf ?_ | refine Qg ?_ | refine Qh ?_ | refine Qi ?_ | refine Qj ?_ | refine Qk ?_ | refine Ql ?_ | refine Qm ?_ | refine Qn ?_ | refine Qo ?_ | refine Qp ?_ | refine Qq ?_ | fail)
      refine SX.condp rfl (fun htop => ?_) (fun htop => ?_)
      · repeat (first | refine Qa ?_ | refine Qb ?_ | refine Qc ?_ | refine Qd ?_ | refine Qe ?_ | refine Qf ?_ | refine Qg ?_ | refine Qh ?_ | refine Qi ?_ | refine Qj ?_ | refine Qk ?_ | refine Ql ?_ | refine Qm ?_ | refine Qn ?_ | refine Qo ?_ | refine Qp ?_ | refine Qq ?_ | fail)
        refine SX.same 5 (.int .u32 (tn (k + 1) y)) rfl (by
          show _ = Value.int .u32 (t1 (tn k y))
          unfold t1
          rw [if_pos htop, xor_I, u32_mod]) ?_
        refine SX.same 7 (.int .i64 ((k + 1 : Nat) : Int)) rfl (by simp (disch := omega) only [IntWalk.i64_in, IntWalk.u8_in, IntWalk.u32_in, IntWalk.u64_in, IntWalk.rem_in, Int.natCast_add, Int.natCast_one]) ?_
        refine SX.again (z' - 1) (by omega) ⟨k + 1, by omega, rfl, rfl⟩ (by repeat (first | exact trivial | refine ⟨rfl, ?_⟩)) inferInstance
      · repeat (first | refine Qa ?_ | refine Qb ?_ | refine Qc ?_ | refine Qd ?_ | refine Qe ?_ | refine Qf ?_ | refine Qg ?_ | refine Qh ?_ | refine Qi ?_ | refine Qj ?_ | refine Qk ?_ | refine Ql ?_ | refine Qm ?_ | refine Qn ?_ | refine Qo ?_ | refine Qp ?_ | refine Qq ?_ | fail)
        refine SX.same 5 (.int .u32 (tn (k + 1) y)) rfl (by
          show _ = Value.int .u32 (t1 (tn k y))
          unfold t1
          rw [if_neg htop, u32_mod]) ?_
        refine SX.same 7 (.int .i64 ((k + 1 : Nat) : Int)) rfl (by simp (disch := omega) only [IntWalk.i64_in, IntWalk.u8_in, IntWalk.u32_in, IntWalk.u64_in, IntWalk.rem_in, Int.natCast_add, Int.natCast_one]) ?_
        refine SX.again (z' - 1) (by omega) ⟨k + 1, by omega, rfl, rfl⟩ (by repeat (first | exact trivial | refine ⟨rfl, ?_⟩)) inferInstance
    · obtain rfl : k = 8 := by omega
      rw [h8]
      repeat (first | refine Qa ?_ | refine Qb ?_ | refine Qc ?_ | refine Qd ?_ | refine Qe ?_ | refine Qf ?_ | refine Qg ?_ | refine Qh ?_ | refine Qi ?_ | refine Qj ?_ | refine Qk ?_ | refine Ql ?_ | refine Qm ?_ | refine Qn ?_ | refine Qo ?_ | refine Qp ?_ | refine Qq ?_ | fail)
      refine SX.same 5 (.int .u32 (crcRaw (4294967295 - x0) ((bytesOf s).take (i + 1)))) rfl (by rw [hst]) ?_
      refine SX.same 6 (.int .i64 ((i + 1 : Nat) : Int)) rfl (by simp (disch := omega) only [IntWalk.i64_in, IntWalk.u8_in, IntWalk.u32_in, IntWalk.u64_in, IntWalk.rem_in, Int.natCast_add, Int.natCast_one]) ?_
      refine SX.again (z - 1) (by omega) ⟨i + 1, by omega, rfl, rfl⟩ (by repeat (first | exact trivial | refine ⟨rfl, ?_⟩)) inferInstance
  · obtain rfl : i = s.size := by omega
    rw [List.take_of_length_le (by omega)] at hX
    unfold crcM at h
    rw [hX] at h
    repeat (first | refine Qa ?_ | refine Qb ?_ | refine Qc ?_ | refine Qd ?_ | refine Qe ?_ | refine Qf ?_ | refine Qg ?_ | refine Qh ?_ | refine Qi ?_ | refine Qj ?_ | refine Qk ?_ | refine Ql ?_ | refine Qm ?_ | refine Qn ?_ | refine Qo ?_ | refine Qp ?_ | refine Qq ?_ | fail)
    refine SX.same 4 (.int .u32 (4294967295 - x)) rfl (by rw [IntWalk.u32_in _ (by omega)]) ?_
    refine SX.ret (M' := F) rfl (Evals.tmp rfl Evals.nil) ?_ inferInstance
    exact h
theorem ROf_S (s : ByteArray) (hs : s.size ≤ 1000000) (h : K (.returned (.int .u32 (crcM 0 (bytesOf s)))) F) : Fn (Try.prog) 60 [.string s] F K := by
  refine Fn.enter Try.call60 Try.func60 rfl rfl rfl ?_
  repeat (first | refine Qa ?_ | refine Qb ?_ | refine Qc ?_ | refine Qd ?_ | refine Qe ?_ | refine Qf ?_ | refine Qg ?_ | refine Qh ?_ | refine Qi ?_ | refine Qj ?_ | refine Qk ?_ | refine Ql ?_ | refine Qm ?_ | refine Qn ?_ | refine Qo ?_ | refine Qp ?_ | refine Qq ?_ | fail)
  refine SXL.call rfl rfl rfl ?_
  refine (RMore_S 0 s hs (by decide) (by decide) (callK.ret ?_))
  repeat (first | refine Qa ?_ | refine Qb ?_ | refine Qc ?_ | refine Qd ?_ | refine Qe ?_ | refine Qf ?_ | refine Qg ?_ | refine Qh ?_ | refine Qi ?_ | refine Qj ?_ | refine Qk ?_ | refine Ql ?_ | refine Qm ?_ | refine Qn ?_ | refine Qo ?_ | refine Qp ?_ | refine Qq ?_ | fail)
  refine SX.ret (M' := F) rfl (Evals.tmp rfl Evals.nil) ?_ inferInstance
  exact h
theorem strN_app (a b : List Int) : strOfNums (a ++ b) = strOfNums a ++ strOfNums b := by
  apply ByteArray.ext
  rw [ByteArray.data_append]
  unfold strOfNums
  simp
theorem RSealed_S (s : ByteArray) (hs : s.size ≤ 1000000) (h : K (.returned (.string (strOfNums (sealM (bytesOf s))))) F) : Fn (Try.prog) 45 [.string s] F K := by
  have hx := crcM_range 0 (bytesOf s) (by omega) (by omega) ((bytesB_iff _).1 (bytesOf_range s))
  refine Fn.enter Try.call45 Try.func45 rfl rfl rfl ?_
  repeat (first | refine Qa ?_ | refine Qb ?_ | refine Qc ?_ | refine Qd ?_ | refine Qe ?_ | refine Qf ?_ | refine Qg ?_ | refine Qh ?_ | refine Qi ?_ | refine Qj ?_ | refine Qk ?_ | refine Ql ?_ | refine Qm ?_ | refine Qn ?_ | refine Qo ?_ | refine Qp ?_ | refine Qq ?_ | fail)
  refine SXL.call rfl rfl rfl ?_
  refine (ROf_S s hs (callK.ret ?_))
  repeat (first | refine Qa ?_ | refine Qb ?_ | refine Qc ?_ | refine Qd ?_ | refine Qe ?_ | refine Qf ?_ | refine Qg ?_ | refine Qh ?_ | refine Qi ?_ | refine Qj ?_ | refine Qk ?_ | refine Ql ?_ | refine Qm ?_ | refine Qn ?_ | refine Qo ?_ | refine Qp ?_ | refine Qq ?_ | fail)
  refine SXL.call rfl rfl rfl ?_
  refine (SU32_S (crcM 0 (bytesOf s)) hx.1 hx.2 (callK.ret ?_))
  repeat (first | refine Qa ?_ | refine Qb ?_ | refine Qc ?_ | refine Qd ?_ | refine Qe ?_ | refine Qf ?_ | refine Qg ?_ | refine Qh ?_ | refine Qi ?_ | refine Qj ?_ | refine Qk ?_ | refine Ql ?_ | refine Qm ?_ | refine Qn ?_ | refine Qo ?_ | refine Qp ?_ | refine Qq ?_ | fail)
  refine SXL.cat rfl rfl (by rw [size_strOfNums]; simp [be32]; omega) rfl ?_
  repeat (first | refine Qa ?_ | refine Qb ?_ | refine Qc ?_ | refine Qd ?_ | refine Qe ?_ | refine Qf ?_ | refine Qg ?_ | refine Qh ?_ | refine Qi ?_ | refine Qj ?_ | refine Qk ?_ | refine Ql ?_ | refine Qm ?_ | refine Qn ?_ | refine Qo ?_ | refine Qp ?_ | refine Qq ?_ | fail)
  refine SX.same 2 (.string (strOfNums (sealM (bytesOf s)))) rfl (by unfold sealM; rw [strN_app, strOfNums_bytesOf]) ?_
  refine SX.ret (M' := F) rfl (Evals.tmp rfl Evals.nil) ?_ inferInstance
  exact h
end
end Go.Proofs.Ytgjajalneknagaa.Sx
end
section
/- The Go package wire, walked: words, and messages put; conditions: those that each theorem names. -/
namespace Go.Proofs.Ytgjajalneknagaa.Sx
open Go.RowKit Go.Proofs.Ytgjajalneknagaa.Hm Go.Proofs.YtgjajalneknagaaW.PrintWords Go.Proofs.YtgjajalneknagaaW.PrintLast Go.Proofs.YtgjajalneknagaaW.PrintMore
set_option linter.unusedVariables false
set_option linter.unusedSimpArgs false
attribute [local irreducible] SX SXL SXA St callK Post Evals

section
variable {F R : List Thing} {K : Ending → List Thing → Prop} {A B C D : Option Addr} {c : Nat}
set_option maxRecDepth 20000 in
theorem putCtl_S {s : Ctl} (hr : Ro (Kd.int .u8) A F s.d) (hc : s.d.length ≤ c) (hw : s.wf) (h : ∀ r n, putCt s = (r, n) → ∀ A' c', r.length ≤ c' → K (.returned (.tuple #[.slice A' r.length c', .int .i64 n])) (.own A' (rowR (Kd.int .u8) 5 (.slice A' r.length c') r) :: F)) :
    Fn (Try.prog) 38 [.agg (ctC s A c).toArray] F K := by
  unfold putCt at h
  unfold ctC
  refine Fn.enter Try.call38 Try.func38 rfl rfl rfl ?_
  repeat (first | refine Qa ?_ | refine Qb ?_ | refine Qc ?_ | refine Qd ?_ | refine Qe ?_ | refine Qf ?_ | refine Qg ?_ | refine Qh ?_ | refine Qi ?_ | refine Qj ?_ | refine Qk ?_ | refine Ql ?_ | refine Qm ?_ | refine Qn ?_ | refine Qo ?_ | refine Qp ?_ | refine Qq ?_ | fail)
  refine SXL.box rfl rfl rfl (fun b => ?_)
  repeat (first | refine Qa ?_ | refine Qb ?_ | refine Qc ?_ | refine Qd ?_ | refine Qe ?_ | refine Qf ?_ | refine Qg ?_ | refine Qh ?_ | refine Qi ?_ | refine Qj ?_ | refine Qk ?_ | refine Ql ?_ | refine Qm ?_ | refine Qn ?_ | refine Qo ?_ | refine Qp ?_ | refine Qq ?_ | fail)
  refine SXL.split (s := 8) rfl (fun k8 => ?_) (fun k8 => ?_)
  · have := of_decide_eq_true k8
    rw [if_neg (by unfold okCt wordB; simp; omega)] at h
    repeat (first | refine Qa ?_ | refine Qb ?_ | refine Qc ?_ | refine Qd ?_ | refine Qe ?_ | refine Qf ?_ | refine Qg ?_ | refine Qh ?_ | refine Qi ?_ | refine Qj ?_ | refine Qk ?_ | refine Ql ?_ | refine Qm ?_ | refine Qn ?_ | refine Qo ?_ | refine Qp ?_ | refine Qq ?_ | fail)
    refine SX.ret (M' := (.own none (rowR (Kd.int .u8) 5 (.slice none ([] : List Int).length 0) []) :: F)) rfl (Evals.tmp rfl (Evals.tmp rfl Evals.nil)) ?_ inferInstance
    exact h _ _ rfl none 0 (Nat.le_refl _)
  have j8 := of_decide_eq_false k8
  repeat (first | refine Qa ?_ | refine Qb ?_ | refine Qc ?_ | refine Qd ?_ | refine Qe ?_ | refine Qf ?_ | refine Qg ?_ | refine Qh ?_ | refine Qi ?_ | refine Qj ?_ | refine Qk ?_ | refine Ql ?_ | refine Qm ?_ | refine Qn ?_ | refine Qo ?_ | refine Qp ?_ | refine Qq ?_ | fail)
  refine SXL.split (s := 13) rfl (fun k13 => ?_) (fun k13 => ?_)
  · have := of_decide_eq_true k13
    rw [if_neg (by unfold okCt wordB; simp; omega)] at h
    repeat (first | refine Qa ?_ | refine Qb ?_ | refine Qc ?_ | refine Qd ?_ | refine Qe ?_ | refine Qf ?_ | refine Qg ?_ | refine Qh ?_ | refine Qi ?_ | refine Qj ?_ | refine Qk ?_ | refine Ql ?_ | refine Qm ?_ | refine Qn ?_ | refine Qo ?_ | refine Qp ?_ | refine Qq ?_ | fail)
    refine SX.ret (M' := (.own none (rowR (Kd.int .u8) 5 (.slice none ([] : List Int).length 0) []) :: F)) rfl (Evals.tmp rfl (Evals.tmp rfl Evals.nil)) ?_ inferInstance
    exact h _ _ rfl none 0 (Nat.le_refl _)
  have j13 := of_decide_eq_false k13
  repeat (first | refine Qa ?_ | refine Qb ?_ | refine Qc ?_ | refine Qd ?_ | refine Qe ?_ | refine Qf ?_ | refine Qg ?_ | refine Qh ?_ | refine Qi ?_ | refine Qj ?_ | refine Qk ?_ | refine Ql ?_ | refine Qm ?_ | refine Qn ?_ | refine Qo ?_ | refine Qp ?_ | refine Qq ?_ | fail)
  refine SX.condp rfl (fun k3 => ?_) (fun k3 => ?_)
  · rw [if_neg (by unfold okCt wordB; simp; omega)] at h
    repeat (first | refine Qa ?_ | refine Qb ?_ | refine Qc ?_ | refine Qd ?_ | refine Qe ?_ | refine Qf ?_ | refine Qg ?_ | refine Qh ?_ | refine Qi ?_ | refine Qj ?_ | refine Qk ?_ | refine Ql ?_ | refine Qm ?_ | refine Qn ?_ | refine Qo ?_ | refine Qp ?_ | refine Qq ?_ | fail)
    refine SX.ret (M' := (.own none (rowR (Kd.int .u8) 5 (.slice none ([] : List Int).length 0) []) :: F)) rfl (Evals.tmp rfl (Evals.tmp rfl Evals.nil)) ?_ inferInstance
    exact h _ _ rfl none 0 (Nat.le_refl _)
  rw [if_pos (by unfold okCt wordB; simp only [Bool.and_eq_true, decide_eq_true_eq]; omega)] at h
  have hop : (opq s.d).length ≤ 1032 := by have := opq_len' s.d; omega
  repeat (first | refine Qa ?_ | refine Qb ?_ | refine Qc ?_ | refine Qd ?_ | refine Qe ?_ | refine Qf ?_ | refine Qg ?_ | refine Qh ?_ | refine Qi ?_ | refine Qj ?_ | refine Qk ?_ | refine Ql ?_ | refine Qm ?_ | refine Qn ?_ | refine Qo ?_ | refine Qp ?_ | refine Qq ?_ | fail)
  refine SXL.call rfl rfl rfl ?_
  refine (NewWriter_S (fun p => callK.ret ?_))
  repeat (first | refine Qa ?_ | refine Qb ?_ | refine Qc ?_ | refine Qd ?_ | refine Qe ?_ | refine Qf ?_ | refine Qg ?_ | refine Qh ?_ | refine Qi ?_ | refine Qj ?_ | refine Qk ?_ | refine Ql ?_ | refine Qm ?_ | refine Qn ?_ | refine Qo ?_ | refine Qp ?_ | refine Qq ?_ | fail)
  refine SXL.call rfl rfl rfl ?_
  refine (WU32_S inferInstance hw.k.1 hw.k.2 (by simp only [List.length_append, List.length_nil, be32_len', be64_len']; omega) (callK.ret ?_))
  repeat (first | refine Qa ?_ | refine Qb ?_ | refine Qc ?_ | refine Qd ?_ | refine Qe ?_ | refine Qf ?_ | refine Qg ?_ | refine Qh ?_ | refine Qi ?_ | refine Qj ?_ | refine Qk ?_ | refine Ql ?_ | refine Qm ?_ | refine Qn ?_ | refine Qo ?_ | refine Qp ?_ | refine Qq ?_ | fail)
  refine SXL.call rfl rfl rfl ?_
  refine (WU64_S inferInstance hw.ep.1 hw.ep.2 (by simp only [List.length_append, List.length_nil, be32_len', be64_len']; omega) (callK.ret ?_))
  repeat (first | refine Qa ?_ | refine Qb ?_ | refine Qc ?_ | refine Qd ?_ | refine Qe ?_ | refine Qf ?_ | refine Qg ?_ | refine Qh ?_ | refine Qi ?_ | refine Qj ?_ | refine Qk ?_ | refine Ql ?_ | refine Qm ?_ | refine Qn ?_ | refine Qo ?_ | refine Qp ?_ | refine Qq ?_ | fail)
  refine SXL.call rfl rfl rfl ?_
  refine (WU64_S inferInstance hw.sq.1 hw.sq.2 (by simp only [List.length_append, List.length_nil, be32_len', be64_len']; omega) (callK.ret ?_))
  repeat (first | refine Qa ?_ | refine Qb ?_ | refine Qc ?_ | refine Qd ?_ | refine Qe ?_ | refine Qf ?_ | refine Qg ?_ | refine Qh ?_ | refine Qi ?_ | refine Qj ?_ | refine Qk ?_ | refine Ql ?_ | refine Qm ?_ | refine Qn ?_ | refine Qo ?_ | refine Qp ?_ | refine Qq ?_ | fail)
  refine SXL.call rfl rfl rfl ?_
  refine (WU32_S inferInstance hw.pl.1 hw.pl.2 (by simp only [List.length_append, List.length_nil, be32_len', be64_len']; omega) (callK.ret ?_))
  repeat (first | refine Qa ?_ | refine Qb ?_ | refine Qc ?_ | refine Qd ?_ | refine Qe ?_ | refine Qf ?_ | refine Qg ?_ | refine Qh ?_ | refine Qi ?_ | refine Qj ?_ | refine Qk ?_ | refine Ql ?_ | refine Qm ?_ | refine Qn ?_ | refine Qo ?_ | refine Qp ?_ | refine Qq ?_ | fail)
  refine SXL.call rfl rfl rfl ?_
  refine (WOpaque_S (l := s.d) inferInstance inferInstance hc hw.d (by simp only [List.length_append, List.length_nil, be32_len', be64_len']; omega) (by omega) (callK.ret ?_))
  repeat (first | refine Qa ?_ | refine Qb ?_ | refine Qc ?_ | refine Qd ?_ | refine Qe ?_ | refine Qf ?_ | refine Qg ?_ | refine Qh ?_ | refine Qi ?_ | refine Qj ?_ | refine Qk ?_ | refine Ql ?_ | refine Qm ?_ | refine Qn ?_ | refine Qo ?_ | refine Qp ?_ | refine Qq ?_ | fail)
  rw [show [] ++ be32 s.k ++ be64 s.ep ++ be64 s.sq ++ be32 s.pl ++ opq s.d = encCt s by simp [encCt, ctF, ctV, encFs, encF]]
  refine SXL.call rfl rfl rfl ?_
  refine (WOut_S inferInstance (by unfold encCt ctF ctV; simp only [encFs, encF, List.length_append, List.length_nil, be32_len', be64_len']; omega) (fun A1 c1 hc1 => callK.ret ?_))
  repeat (first | refine Qa ?_ | refine Qb ?_ | refine Qc ?_ | refine Qd ?_ | refine Qe ?_ | refine Qf ?_ | refine Qg ?_ | refine Qh ?_ | refine Qi ?_ | refine Qj ?_ | refine Qk ?_ | refine Ql ?_ | refine Qm ?_ | refine Qn ?_ | refine Qo ?_ | refine Qp ?_ | refine Qq ?_ | fail)
  refine SX.ret (M' := (.own A1 (rowR (Kd.int .u8) 5 (.slice A1 (encCt s).length c1) (encCt s)) :: F)) rfl (Evals.tmp rfl (Evals.tmp rfl Evals.nil)) ?_ inferInstance
  exact h _ _ rfl A1 c1 hc1
theorem Put1_S {b a1 a2 a3 a4 : Nat} {m : Msg} (hat : At (some ⟨b, 0, none⟩) F (cellsR b (msC m A a1 B a2 C a3 D a4) 49) R) (hrA : Ro (Kd.int .u8) A F m.c.d) (hrB : Ro (Kd.int .u8) B F m.r.d) (hrC : Ro kE C F m.r.e) (hrD : Ro (Kd.int .u8) D F m.t.d) (hA : m.c.d.length ≤ a1) (hB : m.r.d.length ≤ a2) (hC : m.r.e.length ≤ a3) (hD : m.t.d.length ≤ a4) (hw : m.wf)
    (h : ∀ r n, putCa m.c = (r, n) → ∀ A' c', r.length ≤ c' → K (.returned (.tuple #[.slice A' r.length c', .int .i64 n])) (.own A' (rowR (Kd.int .u8) 5 (.slice A' r.length c') r) :: F)) : Fn (Try.prog) 33 [.pointer (some ⟨b, 0, none⟩)] F K := by
  unfold msC at hat
  refine Fn.enter Try.call33 Try.func33 rfl rfl rfl ?_
  repeat (first | refine Qa ?_ | refine Qb ?_ | refine Qc ?_ | refine Qd ?_ | refine Qe ?_ | refine Qf ?_ | refine Qg ?_ | refine Qh ?_ | refine Qi ?_ | refine Qj ?_ | refine Qk ?_ | refine Ql ?_ | refine Qm ?_ | refine Qn ?_ | refine Qo ?_ | refine Qp ?_ | refine Qq ?_ | fail)
  refine SXL.call rfl rfl rfl ?_
  refine (PutCall_S (s := m.c) hrA hA hw.c (fun r n hm A1 c1 hc1 => callK.ret ?_))
  repeat (first | refine Qa ?_ | refine Qb ?_ | refine Qc ?_ | refine Qd ?_ | refine Qe ?_ | refine Qf ?_ | refine Qg ?_ | refine Qh ?_ | refine Qi ?_ | refine Qj ?_ | refine Qk ?_ | refine Ql ?_ | refine Qm ?_ | refine Qn ?_ | refine Qo ?_ | refine Qp ?_ | refine Qq ?_ | fail)
  refine SX.ret (M' := (.own A1 (rowR (Kd.int .u8) 5 (.slice A1 r.length c1) r) :: F)) rfl (Evals.tmp rfl (Evals.tmp rfl Evals.nil)) ?_ inferInstance
  exact h r n hm A1 c1 hc1
theorem Put2_S {b a1 a2 a3 a4 : Nat} {m : Msg} (hat : At (some ⟨b, 0, none⟩) F (cellsR b (msC m A a1 B a2 C a3 D a4) 49) R) (hrA : Ro (Kd.int .u8) A F m.c.d) (hrB : Ro (Kd.int .u8) B F m.r.d) (hrC : Ro kE C F m.r.e) (hrD : Ro (Kd.int .u8) D F m.t.d) (hA : m.c.d.length ≤ a1) (hB : m.r.d.length ≤ a2) (hC : m.r.e.length ≤ a3) (hD : m.t.d.length ≤ a4) (hw : m.wf)
    (h : ∀ r n, putRe m.r = (r, n) → ∀ A' c', r.length ≤ c' → K (.returned (.tuple #[.slice A' r.length c', .int .i64 n])) (.own A' (rowR (Kd.int .u8) 5 (.slice A' r.length c') r) :: F)) : Fn (Try.prog) 35 [.pointer (some ⟨b, 0, none⟩)] F K := by
  unfold msC at hat
  refine Fn.enter Try.call35 Try.func35 rfl rfl rfl ?_
  repeat (first | refine Qa ?_ | refine Qb ?_ | refine Qc ?_ | refine Qd ?_ | refine Qe ?_ | refine Qf ?_ | refine Qg ?_ | refine Qh ?_ | refine Qi ?_ | refine Qj ?_ | refine Qk ?_ | refine Ql ?_ | refine Qm ?_ | refine Qn ?_ | refine Qo ?_ | refine Qp ?_ | refine Qq ?_ | fail)
  refine SXL.call rfl rfl rfl ?_
  refine (PutReply_S (s := m.r) hrB hrC hB hC hw.r (fun r n hm A1 c1 hc1 => callK.ret ?_))
  repeat (first | refine Qa ?_ | refine Qb ?_ | refine Qc ?_ | refine Qd ?_ | refine Qe ?_ | refine Qf ?_ | refine Qg ?_ | refine Qh ?_ | refine Qi ?_ | refine Qj ?_ | refine Qk ?_ | refine Ql ?_ | refine Qm ?_ | refine Qn ?_ | refine Qo ?_ | refine Qp ?_ | refine Qq ?_ | fail)
  refine SX.ret (M' := (.own A1 (rowR (Kd.int .u8) 5 (.slice A1 r.length c1) r) :: F)) rfl (Evals.tmp rfl (Evals.tmp rfl Evals.nil)) ?_ inferInstance
  exact h r n hm A1 c1 hc1
theorem Put3_S {b a1 a2 a3 a4 : Nat} {m : Msg} (hat : At (some ⟨b, 0, none⟩) F (cellsR b (msC m A a1 B a2 C a3 D a4) 49) R) (hrA : Ro (Kd.int .u8) A F m.c.d) (hrB : Ro (Kd.int .u8) B F m.r.d) (hrC : Ro kE C F m.r.e) (hrD : Ro (Kd.int .u8) D F m.t.d) (hA : m.c.d.length ≤ a1) (hB : m.r.d.length ≤ a2) (hC : m.r.e.length ≤ a3) (hD : m.t.d.length ≤ a4) (hw : m.wf)
    (h : ∀ r n, putCt m.t = (r, n) → ∀ A' c', r.length ≤ c' → K (.returned (.tuple #[.slice A' r.length c', .int .i64 n])) (.own A' (rowR (Kd.int .u8) 5 (.slice A' r.length c') r) :: F)) : Fn (Try.prog) 37 [.pointer (some ⟨b, 0, none⟩)] F K := by
  unfold msC at hat
  refine Fn.enter Try.call37 Try.func37 rfl rfl rfl ?_
  repeat (first | refine Qa ?_ | refine Qb ?_ | refine Qc ?_ | refine Qd ?_ | refine Qe ?_ | refine Qf ?_ | refine Qg ?_ | refine Qh ?_ | refine Qi ?_ | refine Qj ?_ | refine Qk ?_ | refine Ql ?_ | refine Qm ?_ | refine Qn ?_ | refine Qo ?_ | refine Qp ?_ | refine Qq ?_ | fail)
  refine SXL.call rfl rfl rfl ?_
  refine (putCtl_S (s := m.t) hrD hD hw.t (fun r n hm A1 c1 hc1 => callK.ret ?_))
  repeat (first | refine Qa ?_ | refine Qb ?_ | refine Qc ?_ | refine Qd ?_ | refine Qe ?_ | refine Qf ?_ | refine Qg ?_ | refine Qh ?_ | refine Qi ?_ | refine Qj ?_ | refine Qk ?_ | refine Ql ?_ | refine Qm ?_ | refine Qn ?_ | refine Qo ?_ | refine Qp ?_ | refine Qq ?_ | fail)
  refine SX.ret (M' := (.own A1 (rowR (Kd.int .u8) 5 (.slice A1 r.length c1) r) :: F)) rfl (Evals.tmp rfl (Evals.tmp rfl Evals.nil)) ?_ inferInstance
  exact h r n hm A1 c1 hc1
set_option maxHeartbeats 1000000 in
set_option maxRecDepth 20000 in
theorem WPut_S {a1 a2 a3 a4 : Nat} {m : Msg} (hrA : Ro (Kd.int .u8) A F m.c.d) (hrB : Ro (Kd.int .u8) B F m.r.d) (hrC : Ro kE C F m.r.e) (hrD : Ro (Kd.int .u8) D F m.t.d) (hA : m.c.d.length ≤ a1) (hB : m.r.d.length ≤ a2) (hC : m.r.e.length ≤ a3) (hD : m.t.d.length ≤ a4) (hw : m.wf)
    (h : ∀ r n, putMs m = (r, n) → ∀ A' c', r.length ≤ c' → K (.returned (.tuple #[.slice A' r.length c', .int .i64 n])) (.own A' (rowR (Kd.int .u8) 5 (.slice A' r.length c') r) :: F)) : Fn (Try.prog) 26 [.agg (msC m A a1 B a2 C a3 D a4).toArray] F K := by
  unfold msC
  refine Fn.enter Try.call26 Try.func26 rfl rfl rfl ?_
  repeat (first | refine Qa ?_ | refine Qb ?_ | refine Qc ?_ | refine Qd ?_ | refine Qe ?_ | refine Qf ?_ | refine Qg ?_ | refine Qh ?_ | refine Qi ?_ | refine Qj ?_ | refine Qk ?_ | refine Ql ?_ | refine Qm ?_ | refine Qn ?_ | refine Qo ?_ | refine Qp ?_ | refine Qq ?_ | fail)
  refine SXL.box rfl rfl rfl (fun b => ?_)
  repeat (first | refine Qa ?_ | refine Qb ?_ | refine Qc ?_ | refine Qd ?_ | refine Qe ?_ | refine Qf ?_ | refine Qg ?_ | refine Qh ?_ | refine Qi ?_ | refine Qj ?_ | refine Qk ?_ | refine Ql ?_ | refine Qm ?_ | refine Qn ?_ | refine Qo ?_ | refine Qp ?_ | refine Qq ?_ | fail)
  refine SXL.mkMap rfl (fun g => ?_)
  repeat (first | refine Qa ?_ | refine Qb ?_ | refine Qc ?_ | refine Qd ?_ | refine Qe ?_ | refine Qf ?_ | refine Qg ?_ | refine Qh ?_ | refine Qi ?_ | refine Qj ?_ | refine Qk ?_ | refine Ql ?_ | refine Qm ?_ | refine Qn ?_ | refine Qo ?_ | refine Qp ?_ | refine Qq ?_ | fail)
  refine SXL.insert rfl rfl rfl inferInstance Try.underlying107 Try.underlying22 rfl ?_
  repeat (first | refine Qa ?_ | refine Qb ?_ | refine Qc ?_ | refine Qd ?_ | refine Qe ?_ | refine Qf ?_ | refine Qg ?_ | refine Qh ?_ | refine Qi ?_ | refine Qj ?_ | refine Qk ?_ | refine Ql ?_ | refine Qm ?_ | refine Qn ?_ | refine Qo ?_ | refine Qp ?_ | refine Qq ?_ | fail)
  refine SXL.insert rfl rfl rfl inferInstance Try.underlying107 Try.underlying22 rfl ?_
  repeat (first | refine Qa ?_ | refine Qb ?_ | refine Qc ?_ | refine Qd ?_ | refine Qe ?_ | refine Qf ?_ | refine Qg ?_ | refine Qh ?_ | refine Qi ?_ | refine Qj ?_ | refine Qk ?_ | refine Ql ?_ | refine Qm ?_ | refine Qn ?_ | refine Qo ?_ | refine Qp ?_ | refine Qq ?_ | fail)
  refine SXL.insert rfl rfl rfl inferInstance Try.underlying107 Try.underlying22 rfl ?_
  repeat (first | refine Qa ?_ | refine Qb ?_ | refine Qc ?_ | refine Qd ?_ | refine Qe ?_ | refine Qf ?_ | refine Qg ?_ | refine Qh ?_ | refine Qi ?_ | refine Qj ?_ | refine Qk ?_ | refine Ql ?_ | refine Qm ?_ | refine Qn ?_ | refine Qo ?_ | refine Qp ?_ | refine Qq ?_ | fail)
  by_cases k1 : m.k = 1
  · refine SXL.lookup (r := some (0, .func (.func 33) #[] #[.pointer (some ⟨b, 0, none⟩)])) (bb := true) (vv := .func (.func 33) #[] #[.pointer (some ⟨b, 0, none⟩)]) rfl rfl inferInstance Try.underlying107 Try.underlying22 rfl rfl rfl (by rw [k1]; rfl) rfl ?_
    repeat (first | refine Qa ?_ | refine Qb ?_ | refine Qc ?_ | refine Qd ?_ | refine Qe ?_ | refine Qf ?_ | refine Qg ?_ | refine Qh ?_ | refine Qi ?_ | refine Qj ?_ | refine Qk ?_ | refine Ql ?_ | refine Qm ?_ | refine Qn ?_ | refine Qo ?_ | refine Qp ?_ | refine Qq ?_ | fail)
    refine SXL.callAny (d := some 26) rfl rfl rfl rfl ?_
    refine (Put1_S (m := m) (A := A) (B := B) (C := C) (D := D) (a1 := a1) (a2 := a2) (a3 := a3) (a4 := a4) inferInstance inferInstance inferInstance inferInstance inferInstance hA hB hC hD hw (fun r n hm A1 c1 hc1 => callK.ret ?_))
    have hi : innM m = (r, n) := by unfold innM; rw [if_pos k1, hm]
    have hin := innM_ok hw hi
    unfold putMs at h
    rw [hi] at h
    repeat (first | refine Qa ?_ | refine Qb ?_ | refine Qc ?_ | refine Qd ?_ | refine Qe ?_ | refine Qf ?_ | refine Qg ?_ | refine Qh ?_ | refine Qi ?_ | refine Qj ?_ | refine Qk ?_ | refine Ql ?_ | refine Qm ?_ | refine Qn ?_ | refine Qo ?_ | refine Qp ?_ | refine Qq ?_ | fail)
    refine SX.cond rfl (fun hn => ?_) (fun hn => ?_)
    · have hn' : n ≠ 0 := by simpa using hn
      rw [if_pos hn'] at h
      repeat (first | refine Qa ?_ | refine Qb ?_ | refine Qc ?_ | refine Qd ?_ | refine Qe ?_ | refine Qf ?_ | refine Qg ?_ | refine Qh ?_ | refine Qi ?_ | refine Qj ?_ | refine Qk ?_ | refine Ql ?_ | refine Qm ?_ | refine Qn ?_ | refine Qo ?_ | refine Qp ?_ | refine Qq ?_ | fail)
      refine SX.ret (M' := (.own none (rowR (Kd.int .u8) 5 (.slice none ([] : List Int).length 0) []) :: F)) rfl (Evals.tmp rfl (Evals.tmp rfl Evals.nil)) ?_ inferInstance
      exact h _ _ rfl none 0 (Nat.le_refl _)
    obtain rfl : n = 0 := by simpa using hn
    rw [if_neg (by simp)] at h
    obtain ⟨hrb, hrl⟩ := hin rfl
    have hop : (opq r).length ≤ 10008 := by have := opq_len' r; omega
    repeat (first | refine Qa ?_ | refine Qb ?_ | refine Qc ?_ | refine Qd ?_ | refine Qe ?_ | refine Qf ?_ | refine Qg ?_ | refine Qh ?_ | refine Qi ?_ | refine Qj ?_ | refine Qk ?_ | refine Ql ?_ | refine Qm ?_ | refine Qn ?_ | refine Qo ?_ | refine Qp ?_ | refine Qq ?_ | fail)
    refine SXL.call rfl rfl rfl ?_
    refine (NewWriter_S (fun p => callK.ret ?_))
    repeat (first | refine Qa ?_ | refine Qb ?_ | refine Qc ?_ | refine Qd ?_ | refine Qe ?_ | refine Qf ?_ | refine Qg ?_ | refine Qh ?_ | refine Qi ?_ | refine Qj ?_ | refine Qk ?_ | refine Ql ?_ | refine Qm ?_ | refine Qn ?_ | refine Qo ?_ | refine Qp ?_ | refine Qq ?_ | fail)
    refine SXL.call rfl rfl rfl ?_
    refine (WU32_S inferInstance hw.k.1 hw.k.2 (by simp only [List.length_append, List.length_nil, be32_len', be64_len']; omega) (callK.ret ?_))
    repeat (first | refine Qa ?_ | refine Qb ?_ | refine Qc ?_ | refine Qd ?_ | refine Qe ?_ | refine Qf ?_ | refine Qg ?_ | refine Qh ?_ | refine Qi ?_ | refine Qj ?_ | refine Qk ?_ | refine Ql ?_ | refine Qm ?_ | refine Qn ?_ | refine Qo ?_ | refine Qp ?_ | refine Qq ?_ | fail)
    refine SXL.call rfl rfl rfl ?_
    refine (WOpaque_S (l := r) inferInstance inferInstance hc1 hrb (by simp only [List.length_append, List.length_nil, be32_len', be64_len']; omega) (by omega) (callK.ret ?_))
    repeat (first | refine Qa ?_ | refine Qb ?_ | refine Qc ?_ | refine Qd ?_ | refine Qe ?_ | refine Qf ?_ | refine Qg ?_ | refine Qh ?_ | refine Qi ?_ | refine Qj ?_ | refine Qk ?_ | refine Ql ?_ | refine Qm ?_ | refine Qn ?_ | refine Qo ?_ | refine Qp ?_ | refine Qq ?_ | fail)
    rw [show [] ++ be32 m.k ++ opq r = be32 m.k ++ opq r by simp]
    refine SXL.call rfl rfl rfl ?_
    refine (WOut_S inferInstance (by simp only [List.length_append, be32_len']; omega) (fun A2 c2 hc2 => callK.ret ?_))
    repeat (first | refine Qa ?_ | refine Qb ?_ | refine Qc ?_ | refine Qd ?_ | refine Qe ?_ | refine Qf ?_ | refine Qg ?_ | refine Qh ?_ | refine Qi ?_ | refine Qj ?_ | refine Qk ?_ | refine Ql ?_ | refine Qm ?_ | refine Qn ?_ | refine Qo ?_ | refine Qp ?_ | refine Qq ?_ | fail)
    refine SXL.call rfl rfl rfl ?_
    refine (Sealed_S (xs := be32 m.k ++ opq r) inferInstance hc2 (by rw [bytesB_append, bytesB_be32 _ hw.k.1 hw.k.2, bytesB_opq (by omega) hrb]; rfl) (by simp only [List.length_append, be32_len']; omega) (fun A3 c3 hc3 => callK.ret ?_))
    repeat (first | refine Qa ?_ | refine Qb ?_ | refine Qc ?_ | refine Qd ?_ | refine Qe ?_ | refine Qf ?_ | refine Qg ?_ | refine Qh ?_ | refine Qi ?_ | refine Qj ?_ | refine Qk ?_ | refine Ql ?_ | refine Qm ?_ | refine Qn ?_ | refine Qo ?_ | refine Qp ?_ | refine Qq ?_ | fail)
    refine SX.ret (M' := (.own A3 (rowR (Kd.int .u8) 5 (.slice A3 (sealM (be32 m.k ++ opq r)).length c3) (sealM (be32 m.k ++ opq r))) :: F)) rfl (Evals.tmp rfl (Evals.tmp rfl Evals.nil)) ?_ inferInstance
    exact h _ _ rfl A3 c3 hc3
  by_cases k2 : m.k = 2
  · refine SXL.lookup (r := some (1, .func (.func 35) #[] #[.pointer (some ⟨b, 0, none⟩)])) (bb := true) (vv := .func (.func 35) #[] #[.pointer (some ⟨b, 0, none⟩)]) rfl rfl inferInstance Try.underlying107 Try.underlying22 rfl rfl rfl (by rw [k2]; rfl) rfl ?_
    repeat (first | refine Qa ?_ | refine Qb ?_ | refine Qc ?_ | refine Qd ?_ | refine Qe ?_ | refine Qf ?_ | refine Qg ?_ | refine Qh ?_ | refine Qi ?_ | refine Qj ?_ | refine Qk ?_ | refine Ql ?_ | refine Qm ?_ | refine Qn ?_ | refine Qo ?_ | refine Qp ?_ | refine Qq ?_ | fail)
    refine SXL.callAny (d := some 26) rfl rfl rfl rfl ?_
    refine (Put2_S (m := m) (A := A) (B := B) (C := C) (D := D) (a1 := a1) (a2 := a2) (a3 := a3) (a4 := a4) inferInstance inferInstance inferInstance inferInstance inferInstance hA hB hC hD hw (fun r n hm A1 c1 hc1 => callK.ret ?_))
    have hi : innM m = (r, n) := by unfold innM; rw [if_neg k1, if_pos k2, hm]
    have hin := innM_ok hw hi
    unfold putMs at h
    rw [hi] at h
    repeat (first | refine Qa ?_ | refine Qb ?_ | refine Qc ?_ | refine Qd ?_ | refine Qe ?_ | refine Qf ?_ | refine Qg ?_ | refine Qh ?_ | refine Qi ?_ | refine Qj ?_ | refine Qk ?_ | refine Ql ?_ | refine Qm ?_ | refine Qn ?_ | refine Qo ?_ | refine Qp ?_ | refine Qq ?_ | fail)
    refine SX.cond rfl (fun hn => ?_) (fun hn => ?_)
    · have hn' : n ≠ 0 := by simpa using hn
      rw [if_pos hn'] at h
      repeat (first | refine Qa ?_ | refine Qb ?_ | refine Qc ?_ | refine Qd ?_ | refine Qe ?_ | refine Qf ?_ | refine Qg ?_ | refine Qh ?_ | refine Qi ?_ | refine Qj ?_ | refine Qk ?_ | refine Ql ?_ | refine Qm ?_ | refine Qn ?_ | refine Qo ?_ | refine Qp ?_ | refine Qq ?_ | fail)
      refine SX.ret (M' := (.own none (rowR (Kd.int .u8) 5 (.slice none ([] : List Int).length 0) []) :: F)) rfl (Evals.tmp rfl (Evals.tmp rfl Evals.nil)) ?_ inferInstance
      exact h _ _ rfl none 0 (Nat.le_refl _)
    obtain rfl : n = 0 := by simpa using hn
    rw [if_neg (by simp)] at h
    obtain ⟨hrb, hrl⟩ := hin rfl
    have hop : (opq r).length ≤ 10008 := by have := opq_len' r; omega
    repeat (first | refine Qa ?_ | refine Qb ?_ | refine Qc ?_ | refine Qd ?_ | refine Qe ?_ | refine Qf ?_ | refine Qg ?_ | refine Qh ?_ | refine Qi ?_ | refine Qj ?_ | refine Qk ?_ | refine Ql ?_ | refine Qm ?_ | refine Qn ?_ | refine Qo ?_ | refine Qp ?_ | refine Qq ?_ | fail)
    refine SXL.call rfl rfl rfl ?_
    refine (NewWriter_S (fun p => callK.ret ?_))
    repeat (first | refine Qa ?_ | refine Qb ?_ | refine Qc ?_ | refine Qd ?_ | refine Qe ?_ | refine Qf ?_ | refine Qg ?_ | refine Qh ?_ | refine Qi ?_ | refine Qj ?_ | refine Qk ?_ | refine Ql ?_ | refine Qm ?_ | refine Qn ?_ | refine Qo ?_ | refine Qp ?_ | refine Qq ?_ | fail)
    refine SXL.call rfl rfl rfl ?_
    refine (WU32_S inferInstance hw.k.1 hw.k.2 (by simp only [List.length_append, List.length_nil, be32_len', be64_len']; omega) (callK.ret ?_))
    repeat (first | refine Qa ?_ | refine Qb ?_ | refine Qc ?_ | refine Qd ?_ | refine Qe ?_ | refine Qf ?_ | refine Qg ?_ | refine Qh ?_ | refine Qi ?_ | refine Qj ?_ | refine Qk ?_ | refine Ql ?_ | refine Qm ?_ | refine Qn ?_ | refine Qo ?_ | refine Qp ?_ | refine Qq ?_ | fail)
    refine SXL.call rfl rfl rfl ?_
    refine (WOpaque_S (l := r) inferInstance inferInstance hc1 hrb (by simp only [List.length_append, List.length_nil, be32_len', be64_len']; omega) (by omega) (callK.ret ?_))
    repeat (first | refine Qa ?_ | refine Qb ?_ | refine Qc ?_ | refine Qd ?_ | refine Qe ?_ | refine Qf ?_ | refine Qg ?_ | refine Qh ?_ | refine Qi ?_ | refine Qj ?_ | refine Qk ?_ | refine Ql ?_ | refine Qm ?_ | refine Qn ?_ | refine Qo ?_ | refine Qp ?_ | refine Qq ?_ | fail)
    rw [show [] ++ be32 m.k ++ opq r = be32 m.k ++ opq r by simp]
    refine SXL.call rfl rfl rfl ?_
    refine (WOut_S inferInstance (by simp only [List.length_append, be32_len']; omega) (fun A2 c2 hc2 => callK.ret ?_))
    repeat (first | refine Qa ?_ | refine Qb ?_ | refine Qc ?_ | refine Qd ?_ | refine Qe ?_ | refine Qf ?_ | refine Qg ?_ | refine Qh ?_ | refine Qi ?_ | refine Qj ?_ | refine Qk ?_ | refine Ql ?_ | refine Qm ?_ | refine Qn ?_ | refine Qo ?_ | refine Qp ?_ | refine Qq ?_ | fail)
    refine SXL.call rfl rfl rfl ?_
    refine (Sealed_S (xs := be32 m.k ++ opq r) inferInstance hc2 (by rw [bytesB_append, bytesB_be32 _ hw.k.1 hw.k.2, bytesB_opq (by omega) hrb]; rfl) (by simp only [List.length_append, be32_len']; omega) (fun A3 c3 hc3 => callK.ret ?_))
    repeat (first | refine Qa ?_ | refine Qb ?_ | refine Qc ?_ | refine Qd ?_ | refine Qe ?_ | refine Qf ?_ | refine Qg ?_ | refine Qh ?_ | refine Qi ?_ | refine Qj ?_ | refine Qk ?_ | refine Ql ?_ | refine Qm ?_ | refine Qn ?_ | refine Qo ?_ | refine Qp ?_ | refine Qq ?_ | fail)
    refine SX.ret (M' := (.own A3 (rowR (Kd.int .u8) 5 (.slice A3 (sealM (be32 m.k ++ opq r)).length c3) (sealM (be32 m.k ++ opq r))) :: F)) rfl (Evals.tmp rfl (Evals.tmp rfl Evals.nil)) ?_ inferInstance
    exact h _ _ rfl A3 c3 hc3
  by_cases k3 : m.k = 3
  · refine SXL.lookup (r := some (2, .func (.func 37) #[] #[.pointer (some ⟨b, 0, none⟩)])) (bb := true) (vv := .func (.func 37) #[] #[.pointer (some ⟨b, 0, none⟩)]) rfl rfl inferInstance Try.underlying107 Try.underlying22 rfl rfl rfl (by rw [k3]; rfl) rfl ?_
    repeat (first | refine Qa ?_ | refine Qb ?_ | refine Qc ?_ | refine Qd ?_ | refine Qe ?_ | refine Qf ?_ | refine Qg ?_ | refine Qh ?_ | refine Qi ?_ | refine Qj ?_ | refine Qk ?_ | refine Ql ?_ | refine Qm ?_ | refine Qn ?_ | refine Qo ?_ | refine Qp ?_ | refine Qq ?_ | fail)
    refine SXL.callAny (d := some 26) rfl rfl rfl rfl ?_
    refine (Put3_S (m := m) (A := A) (B := B) (C := C) (D := D) (a1 := a1) (a2 := a2) (a3 := a3) (a4 := a4) inferInstance inferInstance inferInstance inferInstance inferInstance hA hB hC hD hw (fun r n hm A1 c1 hc1 => callK.ret ?_))
    have hi : innM m = (r, n) := by unfold innM; rw [if_neg k1, if_neg k2, if_pos k3, hm]
    have hin := innM_ok hw hi
    unfold putMs at h
    rw [hi] at h
    repeat (first | refine Qa ?_ | refine Qb ?_ | refine Qc ?_ | refine Qd ?_ | refine Qe ?_ | refine Qf ?_ | refine Qg ?_ | refine Qh ?_ | refine Qi ?_ | refine Qj ?_ | refine Qk ?_ | refine Ql ?_ | refine Qm ?_ | refine Qn ?_ | refine Qo ?_ | refine Qp ?_ | refine Qq ?_ | fail)
    refine SX.cond rfl (fun hn => ?_) (fun hn => ?_)
    · have hn' : n ≠ 0 := by simpa using hn
      rw [if_pos hn'] at h
      repeat (first | refine Qa ?_ | refine Qb ?_ | refine Qc ?_ | refine Qd ?_ | refine Qe ?_ | refine Qf ?_ | refine Qg ?_ | refine Qh ?_ | refine Qi ?_ | refine Qj ?_ | refine Qk ?_ | refine Ql ?_ | refine Qm ?_ | refine Qn ?_ | refine Qo ?_ | refine Qp ?_ | refine Qq ?_ | fail)
      refine SX.ret (M' := (.own none (rowR (Kd.int .u8) 5 (.slice none ([] : List Int).length 0) []) :: F)) rfl (Evals.tmp rfl (Evals.tmp rfl Evals.nil)) ?_ inferInstance
      exact h _ _ rfl none 0 (Nat.le_refl _)
    obtain rfl : n = 0 := by simpa using hn
    rw [if_neg (by simp)] at h
    obtain ⟨hrb, hrl⟩ := hin rfl
    have hop : (opq r).length ≤ 10008 := by have := opq_len' r; omega
    repeat (first | refine Qa ?_ | refine Qb ?_ | refine Qc ?_ | refine Qd ?_ | refine Qe ?_ | refine Qf ?_ | refine Qg ?_ | refine Qh ?_ | refine Qi ?_ | refine Qj ?_ | refine Qk ?_ | refine Ql ?_ | refine Qm ?_ | refine Qn ?_ | refine Qo ?_ | refine Qp ?_ | refine Qq ?_ | fail)
    refine SXL.call rfl rfl rfl ?_
    refine (NewWriter_S (fun p => callK.ret ?_))
    repeat (first | refine Qa ?_ | refine Qb ?_ | refine Qc ?_ | refine Qd ?_ | refine Qe ?_ | refine Qf ?_ | refine Qg ?_ | refine Qh ?_ | refine Qi ?_ | refine Qj ?_ | refine Qk ?_ | refine Ql ?_ | refine Qm ?_ | refine Qn ?_ | refine Qo ?_ | refine Qp ?_ | refine Qq ?_ | fail)
    refine SXL.call rfl rfl rfl ?_
    refine (WU32_S inferInstance hw.k.1 hw.k.2 (by simp only [List.length_append, List.length_nil, be32_len', be64_len']; omega) (callK.ret ?_))
    repeat (first | refine Qa ?_ | refine Qb ?_ | refine Qc ?_ | refine Qd ?_ | refine Qe ?_ | refine Qf ?_ | refine Qg ?_ | refine Qh ?_ | refine Qi ?_ | refine Qj ?_ | refine Qk ?_ | refine Ql ?_ | refine Qm ?_ | refine Qn ?_ | refine Qo ?_ | refine Qp ?_ | refine Qq ?_ | fail)
    refine SXL.call rfl rfl rfl ?_
    refine (WOpaque_S (l := r) inferInstance inferInstance hc1 hrb (by simp only [List.length_append, List.length_nil, be32_len', be64_len']; omega) (by omega) (callK.ret ?_))
    repeat (first | refine Qa ?_ | refine Qb ?_ | refine Qc ?_ | refine Qd ?_ | refine Qe ?_ | refine Qf ?_ | refine Qg ?_ | refine Qh ?_ | refine Qi ?_ | refine Qj ?_ | refine Qk ?_ | refine Ql ?_ | refine Qm ?_ | refine Qn ?_ | refine Qo ?_ | refine Qp ?_ | refine Qq ?_ | fail)
    rw [show [] ++ be32 m.k ++ opq r = be32 m.k ++ opq r by simp]
    refine SXL.call rfl rfl rfl ?_
    refine (WOut_S inferInstance (by simp only [List.length_append, be32_len']; omega) (fun A2 c2 hc2 => callK.ret ?_))
    repeat (first | refine Qa ?_ | refine Qb ?_ | refine Qc ?_ | refine Qd ?_ | refine Qe ?_ | refine Qf ?_ | refine Qg ?_ | refine Qh ?_ | refine Qi ?_ | refine Qj ?_ | refine Qk ?_ | refine Ql ?_ | refine Qm ?_ | refine Qn ?_ | refine Qo ?_ | refine Qp ?_ | refine Qq ?_ | fail)
    refine SXL.call rfl rfl rfl ?_
    refine (Sealed_S (xs := be32 m.k ++ opq r) inferInstance hc2 (by rw [bytesB_append, bytesB_be32 _ hw.k.1 hw.k.2, bytesB_opq (by omega) hrb]; rfl) (by simp only [List.length_append, be32_len']; omega) (fun A3 c3 hc3 => callK.ret ?_))
    repeat (first | refine Qa ?_ | refine Qb ?_ | refine Qc ?_ | refine Qd ?_ | refine Qe ?_ | refine Qf ?_ | refine Qg ?_ | refine Qh ?_ | refine Qi ?_ | refine Qj ?_ | refine Qk ?_ | refine Ql ?_ | refine Qm ?_ | refine Qn ?_ | refine Qo ?_ | refine Qp ?_ | refine Qq ?_ | fail)
    refine SX.ret (M' := (.own A3 (rowR (Kd.int .u8) 5 (.slice A3 (sealM (be32 m.k ++ opq r)).length c3) (sealM (be32 m.k ++ opq r))) :: F)) rfl (Evals.tmp rfl (Evals.tmp rfl Evals.nil)) ?_ inferInstance
    exact h _ _ rfl A3 c3 hc3
  refine SXL.lookup (r := none) (bb := false) rfl rfl inferInstance Try.underlying107 Try.underlying22 rfl rfl rfl (by
    simp only [Instr.findNow, Instr.sameNow, List.nil_append, List.cons_append, if_true]
    simp only [beq_eq_false_iff_ne.2 k1, beq_eq_false_iff_ne.2 k2, beq_eq_false_iff_ne.2 k3]) rfl ?_
  have hi : innM m = ([], 1) := by unfold innM; rw [if_neg k1, if_neg k2, if_neg k3]
  unfold putMs at h
  rw [hi, if_pos (by decide)] at h
  repeat (first | refine Qa ?_ | refine Qb ?_ | refine Qc ?_ | refine Qd ?_ | refine Qe ?_ | refine Qf ?_ | refine Qg ?_ | refine Qh ?_ | refine Qi ?_ | refine Qj ?_ | refine Qk ?_ | refine Ql ?_ | refine Qm ?_ | refine Qn ?_ | refine Qo ?_ | refine Qp ?_ | refine Qq ?_ | fail)
  refine SX.ret (M' := (.own none (rowR (Kd.int .u8) 5 (.slice none ([] : List Int).length 0) []) :: F)) rfl (Evals.tmp rfl (Evals.tmp rfl Evals.nil)) ?_ inferInstance
  exact h _ _ rfl none 0 (Nat.le_refl _)
end
end Go.Proofs.Ytgjajalneknagaa.Sx
end
