/- The reference of call, walked: what is got; conditions: those that each theorem names. -/
import Derived.Test.YtpbhanpblmoepaaGreatJX5
namespace Go.Proofs.YtpbhanpblmoepaaGreat.Sx
open Go.RowKit Go.Proofs.YtpbhanpblmoepaaGreat.Hm Go.Proofs.YtpbhanpblmoepaaGreatW.PrintWords Go.Proofs.YtpbhanpblmoepaaGreatW.PrintLast Go.Proofs.YtpbhanpblmoepaaGreatW.PrintMore
set_option linter.unusedVariables false
set_option linter.unusedSimpArgs false
attribute [local irreducible] SX SXL SXA St callK Post Evals

theorem rdM_pos {xs ys : List Int} {e e2 z : Int} {n : Nat} (h : rdM xs e n = (z, ys, e2)) (hz : z ≠ 0) : e2 = 0 := by
  unfold rdM takeM at h
  simp only [Prod.mk.injEq] at h
  obtain ⟨h1, -, h3⟩ := h
  by_cases he : e ≠ 0
  · rw [if_pos he] at h1
    exact absurd h1.symm hz
  · rw [if_neg he] at h1 h3
    by_cases hl : xs.length < n
    · rw [if_pos hl] at h1
      exact absurd h1.symm hz
    · rw [if_neg hl] at h3
      exact h3.symm
section
variable {F R : List Thing} {K : Ending → List Thing → Prop} {A B : Option Addr} {c c2 : Nat}
theorem RReadBool_S (x : ByteArray) (e : Int) (hx : x.size ≤ 4000000000) (h : ∀ z ys e2, boM (bytesOf x) e = (z, ys, e2) → K (.returned (.tuple #[.agg #[.string (strOfNums ys), .int .i64 e2], .bool (z == 1)])) F) : Fn (Tryz.prog) 65 [.agg #[.string x, .int .i64 e]] F K := by
  unfold boM at h
  refine Fn.enter Tryz.call65 Tryz.func65 rfl rfl rfl ?_
  repeat (first | refine Qa ?_ | refine Qb ?_ | refine Qc ?_ | refine Qd ?_ | refine Qe ?_ | refine Qf ?_ | refine Qg ?_ | refine Qh ?_ | refine Qi ?_ | refine Qj ?_ | refine Qk ?_ | refine Ql ?_ | refine Qm ?_ | refine Qn ?_ | refine Qo ?_ | refine Qp ?_ | refine Qq ?_ | fail)
  refine SXL.box rfl rfl rfl (fun b => ?_)
  repeat (first | refine Qa ?_ | refine Qb ?_ | refine Qc ?_ | refine Qd ?_ | refine Qe ?_ | refine Qf ?_ | refine Qg ?_ | refine Qh ?_ | refine Qi ?_ | refine Qj ?_ | refine Qk ?_ | refine Ql ?_ | refine Qm ?_ | refine Qn ?_ | refine Qo ?_ | refine Qp ?_ | refine Qq ?_ | fail)
  refine SXL.alloc rfl rfl (fun q => ?_)
  repeat (first | refine Qa ?_ | refine Qb ?_ | refine Qc ?_ | refine Qd ?_ | refine Qe ?_ | refine Qf ?_ | refine Qg ?_ | refine Qh ?_ | refine Qi ?_ | refine Qj ?_ | refine Qk ?_ | refine Ql ?_ | refine Qm ?_ | refine Qn ?_ | refine Qo ?_ | refine Qp ?_ | refine Qq ?_ | fail)
  refine SXL.call rfl rfl rfl ?_
  refine (Read32_S x e hx (fun z ys e2 hz => callK.ret ?_))
  rw [hz] at h
  dsimp only at h
  repeat (first | refine Qa ?_ | refine Qb ?_ | refine Qc ?_ | refine Qd ?_ | refine Qe ?_ | refine Qf ?_ | refine Qg ?_ | refine Qh ?_ | refine Qi ?_ | refine Qj ?_ | refine Qk ?_ | refine Ql ?_ | refine Qm ?_ | refine Qn ?_ | refine Qo ?_ | refine Qp ?_ | refine Qq ?_ | fail)
  refine SX.condp rfl (fun h1 => ?_) (fun h1 => ?_)
  · have he2 := rdM_pos hz (by omega)
    subst he2
    rw [if_pos h1] at h
    repeat (first | refine Qa ?_ | refine Qb ?_ | refine Qc ?_ | refine Qd ?_ | refine Qe ?_ | refine Qf ?_ | refine Qg ?_ | refine Qh ?_ | refine Qi ?_ | refine Qj ?_ | refine Qk ?_ | refine Ql ?_ | refine Qm ?_ | refine Qn ?_ | refine Qo ?_ | refine Qp ?_ | refine Qq ?_ | fail)
    refine SX.ret (M' := F) rfl (Evals.cell rfl inferInstance rfl (Evals.tmp rfl Evals.nil)) ?_ inferInstance
    exact h _ _ _ rfl
  · rw [if_neg h1] at h
    repeat (first | refine Qa ?_ | refine Qb ?_ | refine Qc ?_ | refine Qd ?_ | refine Qe ?_ | refine Qf ?_ | refine Qg ?_ | refine Qh ?_ | refine Qi ?_ | refine Qj ?_ | refine Qk ?_ | refine Ql ?_ | refine Qm ?_ | refine Qn ?_ | refine Qo ?_ | refine Qp ?_ | refine Qq ?_ | fail)
    refine SX.ret (M' := F) rfl (Evals.cell rfl inferInstance rfl (Evals.tmp rfl Evals.nil)) ?_ inferInstance
    exact h _ _ _ rfl
theorem REnd01_S (y : List Int) (e : Int) (h : K (.returned (.int .i64 (endM y e))) F) : Fn (Tryz.prog) 27 [.agg #[.string (strOfNums y), .int .i64 e]] F K := by
  refine Fn.enter Tryz.call27 Tryz.func27 rfl rfl rfl ?_
  repeat (first | refine Qa ?_ | refine Qb ?_ | refine Qc ?_ | refine Qd ?_ | refine Qe ?_ | refine Qf ?_ | refine Qg ?_ | refine Qh ?_ | refine Qi ?_ | refine Qj ?_ | refine Qk ?_ | refine Ql ?_ | refine Qm ?_ | refine Qn ?_ | refine Qo ?_ | refine Qp ?_ | refine Qq ?_ | fail)
  refine SXL.box rfl rfl rfl (fun b => ?_)
  repeat (first | refine Qa ?_ | refine Qb ?_ | refine Qc ?_ | refine Qd ?_ | refine Qe ?_ | refine Qf ?_ | refine Qg ?_ | refine Qh ?_ | refine Qi ?_ | refine Qj ?_ | refine Qk ?_ | refine Ql ?_ | refine Qm ?_ | refine Qn ?_ | refine Qo ?_ | refine Qp ?_ | refine Qq ?_ | fail)
  refine SXL.split (s := 6) rfl (fun h6 => ?_) (fun h6 => ?_)
  · obtain rfl : e = 0 := by simpa using h6
    repeat (first | refine Qa ?_ | refine Qb ?_ | refine Qc ?_ | refine Qd ?_ | refine Qe ?_ | refine Qf ?_ | refine Qg ?_ | refine Qh ?_ | refine Qi ?_ | refine Qj ?_ | refine Qk ?_ | refine Ql ?_ | refine Qm ?_ | refine Qn ?_ | refine Qo ?_ | refine Qp ?_ | refine Qq ?_ | fail)
    refine SX.cond rfl (fun hy => ?_) (fun hy => ?_)
    · rw [str_empty, size_strOfNums] at hy
      have hy' : y.length ≠ 0 := by simpa using hy
      unfold endM at h
      rw [if_neg (by simp), if_pos (by omega)] at h
      repeat (first | refine Qa ?_ | refine Qb ?_ | refine Qc ?_ | refine Qd ?_ | refine Qe ?_ | refine Qf ?_ | refine Qg ?_ | refine Qh ?_ | refine Qi ?_ | refine Qj ?_ | refine Qk ?_ | refine Ql ?_ | refine Qm ?_ | refine Qn ?_ | refine Qo ?_ | refine Qp ?_ | refine Qq ?_ | fail)
      refine SX.ret (M' := F) rfl (Evals.tmp rfl Evals.nil) ?_ inferInstance
      exact h
    · rw [str_empty, size_strOfNums] at hy
      have hy' : y.length = 0 := by simpa using hy
      unfold endM at h
      rw [if_neg (by simp), if_neg (by omega)] at h
      repeat (first | refine Qa ?_ | refine Qb ?_ | refine Qc ?_ | refine Qd ?_ | refine Qe ?_ | refine Qf ?_ | refine Qg ?_ | refine Qh ?_ | refine Qi ?_ | refine Qj ?_ | refine Qk ?_ | refine Ql ?_ | refine Qm ?_ | refine Qn ?_ | refine Qo ?_ | refine Qp ?_ | refine Qq ?_ | fail)
      refine SX.ret (M' := F) rfl (Evals.tmp rfl Evals.nil) ?_ inferInstance
      exact h
  · have he : e ≠ 0 := by simpa using h6
    unfold endM at h
    rw [if_pos he] at h
    repeat (first | refine Qa ?_ | refine Qb ?_ | refine Qc ?_ | refine Qd ?_ | refine Qe ?_ | refine Qf ?_ | refine Qg ?_ | refine Qh ?_ | refine Qi ?_ | refine Qj ?_ | refine Qk ?_ | refine Ql ?_ | refine Qm ?_ | refine Qn ?_ | refine Qo ?_ | refine Qp ?_ | refine Qq ?_ | fail)
    refine SX.ret (M' := F) rfl (Evals.tmp rfl Evals.nil) ?_ inferInstance
    exact h
set_option maxHeartbeats 1000000 in
set_option maxRecDepth 20000 in
theorem RGetCall_S (x : ByteArray) (hx : x.size ≤ 4000000) (h : ∀ r n, getCa (bytesOf x) = (r, n) → K (.returned (.tuple #[.agg (raC r).toArray, .int .i64 n])) F) : Fn (Tryz.prog) 28 [.string x] F K := by
  have hxl := bytesOf_length x
  unfold getCa getFs at h
  refine Fn.enter Tryz.call28 Tryz.func28 rfl rfl rfl ?_
  repeat (first | refine Qa ?_ | refine Qb ?_ | refine Qc ?_ | refine Qd ?_ | refine Qe ?_ | refine Qf ?_ | refine Qg ?_ | refine Qh ?_ | refine Qi ?_ | refine Qj ?_ | refine Qk ?_ | refine Ql ?_ | refine Qm ?_ | refine Qn ?_ | refine Qo ?_ | refine Qp ?_ | refine Qq ?_ | fail)
  refine SXL.alloc rfl rfl (fun q => ?_)
  repeat (first | refine Qa ?_ | refine Qb ?_ | refine Qc ?_ | refine Qd ?_ | refine Qe ?_ | refine Qf ?_ | refine Qg ?_ | refine Qh ?_ | refine Qi ?_ | refine Qj ?_ | refine Qk ?_ | refine Ql ?_ | refine Qm ?_ | refine Qn ?_ | refine Qo ?_ | refine Qp ?_ | refine Qq ?_ | fail)
  refine SXL.alloc rfl rfl (fun b => ?_)
  repeat (first | refine Qa ?_ | refine Qb ?_ | refine Qc ?_ | refine Qd ?_ | refine Qe ?_ | refine Qf ?_ | refine Qg ?_ | refine Qh ?_ | refine Qi ?_ | refine Qj ?_ | refine Qk ?_ | refine Ql ?_ | refine Qm ?_ | refine Qn ?_ | refine Qo ?_ | refine Qp ?_ | refine Qq ?_ | fail)
  refine SXL.call rfl rfl rfl ?_
  refine (Read32_S x 0 (by omega) (fun x1 y1 e1 h1 => callK.ret ?_))
  have b1 := rdM_rest (bytesOf x) 0 4 (bytesOf_range x)
  have l1 := rdM_le (bytesOf x) 0 4
  rw [h1] at b1 l1
  dsimp only at b1 l1
  repeat (first | refine Qa ?_ | refine Qb ?_ | refine Qc ?_ | refine Qd ?_ | refine Qe ?_ | refine Qf ?_ | refine Qg ?_ | refine Qh ?_ | refine Qi ?_ | refine Qj ?_ | refine Qk ?_ | refine Ql ?_ | refine Qm ?_ | refine Qn ?_ | refine Qo ?_ | refine Qp ?_ | refine Qq ?_ | fail)
  refine SXL.alloc rfl rfl (fun p => ?_)
  repeat (first | refine Qa ?_ | refine Qb ?_ | refine Qc ?_ | refine Qd ?_ | refine Qe ?_ | refine Qf ?_ | refine Qg ?_ | refine Qh ?_ | refine Qi ?_ | refine Qj ?_ | refine Qk ?_ | refine Ql ?_ | refine Qm ?_ | refine Qn ?_ | refine Qo ?_ | refine Qp ?_ | refine Qq ?_ | fail)
  refine SXL.call rfl rfl rfl ?_
  refine (Read32_S (strOfNums y1) e1 (by rw [size_strOfNums]; omega) (fun x2 y2 e2 h2 => callK.ret ?_))
  rw [bytesOf_strOfNums _ b1] at h2
  have b2 := rdM_rest y1 e1 4 b1
  have l2 := rdM_le y1 e1 4
  rw [h2] at b2 l2
  dsimp only at b2 l2
  repeat (first | refine Qa ?_ | refine Qb ?_ | refine Qc ?_ | refine Qd ?_ | refine Qe ?_ | refine Qf ?_ | refine Qg ?_ | refine Qh ?_ | refine Qi ?_ | refine Qj ?_ | refine Qk ?_ | refine Ql ?_ | refine Qm ?_ | refine Qn ?_ | refine Qo ?_ | refine Qp ?_ | refine Qq ?_ | fail)
  refine SXL.call rfl rfl rfl ?_
  refine (Read32_S (strOfNums y2) e2 (by rw [size_strOfNums]; omega) (fun x3 y3 e3 h3 => callK.ret ?_))
  rw [bytesOf_strOfNums _ b2] at h3
  have b3 := rdM_rest y2 e2 4 b2
  have l3 := rdM_le y2 e2 4
  rw [h3] at b3 l3
  dsimp only at b3 l3
  repeat (first | refine Qa ?_ | refine Qb ?_ | refine Qc ?_ | refine Qd ?_ | refine Qe ?_ | refine Qf ?_ | refine Qg ?_ | refine Qh ?_ | refine Qi ?_ | refine Qj ?_ | refine Qk ?_ | refine Ql ?_ | refine Qm ?_ | refine Qn ?_ | refine Qo ?_ | refine Qp ?_ | refine Qq ?_ | fail)
  refine SXL.call rfl rfl rfl ?_
  refine (Read32_S (strOfNums y3) e3 (by rw [size_strOfNums]; omega) (fun x4 y4 e4 h4 => callK.ret ?_))
  rw [bytesOf_strOfNums _ b3] at h4
  have b4 := rdM_rest y3 e3 4 b3
  have l4 := rdM_le y3 e3 4
  rw [h4] at b4 l4
  dsimp only at b4 l4
  repeat (first | refine Qa ?_ | refine Qb ?_ | refine Qc ?_ | refine Qd ?_ | refine Qe ?_ | refine Qf ?_ | refine Qg ?_ | refine Qh ?_ | refine Qi ?_ | refine Qj ?_ | refine Qk ?_ | refine Ql ?_ | refine Qm ?_ | refine Qn ?_ | refine Qo ?_ | refine Qp ?_ | refine Qq ?_ | fail)
  refine SXL.call rfl rfl rfl ?_
  refine (Read32_S (strOfNums y4) e4 (by rw [size_strOfNums]; omega) (fun x5 y5 e5 h5 => callK.ret ?_))
  rw [bytesOf_strOfNums _ b4] at h5
  have b5 := rdM_rest y4 e4 4 b4
  have l5 := rdM_le y4 e4 4
  rw [h5] at b5 l5
  dsimp only at b5 l5
  repeat (first | refine Qa ?_ | refine Qb ?_ | refine Qc ?_ | refine Qd ?_ | refine Qe ?_ | refine Qf ?_ | refine Qg ?_ | refine Qh ?_ | refine Qi ?_ | refine Qj ?_ | refine Qk ?_ | refine Ql ?_ | refine Qm ?_ | refine Qn ?_ | refine Qo ?_ | refine Qp ?_ | refine Qq ?_ | fail)
  refine SXL.call rfl rfl rfl ?_
  refine (ReadOpaque_S (strOfNums y5) e5 64 (by rw [size_strOfNums]; omega) (by decide) (by decide) (fun x6 y6 e6 h6 => callK.ret ?_))
  rw [bytesOf_strOfNums _ b5] at h6
  have b6 := opM_rest y5 e5 64 b5
  have l6 := opM_le y5 e5 64
  obtain ⟨d6, z6⟩ := opM_bytes b5 (by decide) h6
  rw [h6] at b6 l6
  dsimp only at b6 l6
  repeat (first | refine Qa ?_ | refine Qb ?_ | refine Qc ?_ | refine Qd ?_ | refine Qe ?_ | refine Qf ?_ | refine Qg ?_ | refine Qh ?_ | refine Qi ?_ | refine Qj ?_ | refine Qk ?_ | refine Ql ?_ | refine Qm ?_ | refine Qn ?_ | refine Qo ?_ | refine Qp ?_ | refine Qq ?_ | fail)
  refine SXL.call rfl rfl rfl ?_
  refine (Read32_S (strOfNums y6) e6 (by rw [size_strOfNums]; omega) (fun x7 y7 e7 h7 => callK.ret ?_))
  rw [bytesOf_strOfNums _ b6] at h7
  have b7 := rdM_rest y6 e6 4 b6
  have l7 := rdM_le y6 e6 4
  rw [h7] at b7 l7
  dsimp only at b7 l7
  repeat (first | refine Qa ?_ | refine Qb ?_ | refine Qc ?_ | refine Qd ?_ | refine Qe ?_ | refine Qf ?_ | refine Qg ?_ | refine Qh ?_ | refine Qi ?_ | refine Qj ?_ | refine Qk ?_ | refine Ql ?_ | refine Qm ?_ | refine Qn ?_ | refine Qo ?_ | refine Qp ?_ | refine Qq ?_ | fail)
  refine SXL.call rfl rfl rfl ?_
  refine (Read32_S (strOfNums y7) e7 (by rw [size_strOfNums]; omega) (fun x8 y8 e8 h8 => callK.ret ?_))
  rw [bytesOf_strOfNums _ b7] at h8
  have b8 := rdM_rest y7 e7 4 b7
  have l8 := rdM_le y7 e7 4
  rw [h8] at b8 l8
  dsimp only at b8 l8
  repeat (first | refine Qa ?_ | refine Qb ?_ | refine Qc ?_ | refine Qd ?_ | refine Qe ?_ | refine Qf ?_ | refine Qg ?_ | refine Qh ?_ | refine Qi ?_ | refine Qj ?_ | refine Qk ?_ | refine Ql ?_ | refine Qm ?_ | refine Qn ?_ | refine Qo ?_ | refine Qp ?_ | refine Qq ?_ | fail)
  refine SXL.call rfl rfl rfl ?_
  refine (ReadOpaque_S (strOfNums y8) e8 64 (by rw [size_strOfNums]; omega) (by decide) (by decide) (fun x9 y9 e9 h9 => callK.ret ?_))
  rw [bytesOf_strOfNums _ b8] at h9
  have b9 := opM_rest y8 e8 64 b8
  have l9 := opM_le y8 e8 64
  obtain ⟨d9, z9⟩ := opM_bytes b8 (by decide) h9
  rw [h9] at b9 l9
  dsimp only at b9 l9
  repeat (first | refine Qa ?_ | refine Qb ?_ | refine Qc ?_ | refine Qd ?_ | refine Qe ?_ | refine Qf ?_ | refine Qg ?_ | refine Qh ?_ | refine Qi ?_ | refine Qj ?_ | refine Qk ?_ | refine Ql ?_ | refine Qm ?_ | refine Qn ?_ | refine Qo ?_ | refine Qp ?_ | refine Qq ?_ | fail)
  refine SXL.call rfl rfl rfl ?_
  refine (Read64_S (strOfNums y9) e9 (by rw [size_strOfNums]; omega) (fun x10 y10 e10 h10 => callK.ret ?_))
  rw [bytesOf_strOfNums _ b9] at h10
  have b10 := rdM_rest y9 e9 8 b9
  have l10 := rdM_le y9 e9 8
  rw [h10] at b10 l10
  dsimp only at b10 l10
  repeat (first | refine Qa ?_ | refine Qb ?_ | refine Qc ?_ | refine Qd ?_ | refine Qe ?_ | refine Qf ?_ | refine Qg ?_ | refine Qh ?_ | refine Qi ?_ | refine Qj ?_ | refine Qk ?_ | refine Ql ?_ | refine Qm ?_ | refine Qn ?_ | refine Qo ?_ | refine Qp ?_ | refine Qq ?_ | fail)
  refine SXL.call rfl rfl rfl ?_
  refine (Read64_S (strOfNums y10) e10 (by rw [size_strOfNums]; omega) (fun x11 y11 e11 h11 => callK.ret ?_))
  rw [bytesOf_strOfNums _ b10] at h11
  have b11 := rdM_rest y10 e10 8 b10
  have l11 := rdM_le y10 e10 8
  rw [h11] at b11 l11
  dsimp only at b11 l11
  repeat (first | refine Qa ?_ | refine Qb ?_ | refine Qc ?_ | refine Qd ?_ | refine Qe ?_ | refine Qf ?_ | refine Qg ?_ | refine Qh ?_ | refine Qi ?_ | refine Qj ?_ | refine Qk ?_ | refine Ql ?_ | refine Qm ?_ | refine Qn ?_ | refine Qo ?_ | refine Qp ?_ | refine Qq ?_ | fail)
  refine SXL.call rfl rfl rfl ?_
  refine (Read32_S (strOfNums y11) e11 (by rw [size_strOfNums]; omega) (fun x12 y12 e12 h12 => callK.ret ?_))
  rw [bytesOf_strOfNums _ b11] at h12
  have b12 := rdM_rest y11 e11 4 b11
  have l12 := rdM_le y11 e11 4
  rw [h12] at b12 l12
  dsimp only at b12 l12
  repeat (first | refine Qa ?_ | refine Qb ?_ | refine Qc ?_ | refine Qd ?_ | refine Qe ?_ | refine Qf ?_ | refine Qg ?_ | refine Qh ?_ | refine Qi ?_ | refine Qj ?_ | refine Qk ?_ | refine Ql ?_ | refine Qm ?_ | refine Qn ?_ | refine Qo ?_ | refine Qp ?_ | refine Qq ?_ | fail)
  refine SXL.call rfl rfl rfl ?_
  refine (Read32_S (strOfNums y12) e12 (by rw [size_strOfNums]; omega) (fun x13 y13 e13 h13 => callK.ret ?_))
  rw [bytesOf_strOfNums _ b12] at h13
  have b13 := rdM_rest y12 e12 4 b12
  have l13 := rdM_le y12 e12 4
  rw [h13] at b13 l13
  dsimp only at b13 l13
  repeat (first | refine Qa ?_ | refine Qb ?_ | refine Qc ?_ | refine Qd ?_ | refine Qe ?_ | refine Qf ?_ | refine Qg ?_ | refine Qh ?_ | refine Qi ?_ | refine Qj ?_ | refine Qk ?_ | refine Ql ?_ | refine Qm ?_ | refine Qn ?_ | refine Qo ?_ | refine Qp ?_ | refine Qq ?_ | fail)
  refine SXL.call rfl rfl rfl ?_
  refine (ReadOpaque_S (strOfNums y13) e13 1024 (by rw [size_strOfNums]; omega) (by decide) (by decide) (fun x14 y14 e14 h14 => callK.ret ?_))
  rw [bytesOf_strOfNums _ b13] at h14
  have b14 := opM_rest y13 e13 1024 b13
  have l14 := opM_le y13 e13 1024
  obtain ⟨d14, z14⟩ := opM_bytes b13 (by decide) h14
  rw [h14] at b14 l14
  dsimp only at b14 l14
  repeat (first | refine Qa ?_ | refine Qb ?_ | refine Qc ?_ | refine Qd ?_ | refine Qe ?_ | refine Qf ?_ | refine Qg ?_ | refine Qh ?_ | refine Qi ?_ | refine Qj ?_ | refine Qk ?_ | refine Ql ?_ | refine Qm ?_ | refine Qn ?_ | refine Qo ?_ | refine Qp ?_ | refine Qq ?_ | fail)
  have hF : rdFs caF (bytesOf x) 0 = ([.i x1, .i x2, .i x3, .i x4, .i x5, .b x6, .i x7, .i x8, .b x9, .i x10, .i x11, .i x12, .i x13, .b x14], y14, e14) := by
    simp only [rdFs, caF, rdF, show rdM (bytesOf x) 0 4 = _ from h1, show rdM y1 e1 4 = _ from h2, show rdM y2 e2 4 = _ from h3, show rdM y3 e3 4 = _ from h4, show rdM y4 e4 4 = _ from h5, show opM y5 e5 ((64 : Nat) : Int) = _ from h6, show rdM y6 e6 4 = _ from h7, show rdM y7 e7 4 = _ from h8, show opM y8 e8 ((64 : Nat) : Int) = _ from h9, show rdM y9 e9 8 = _ from h10, show rdM y10 e10 8 = _ from h11, show rdM y11 e11 4 = _ from h12, show rdM y12 e12 4 = _ from h13, show opM y13 e13 ((1024 : Nat) : Int) = _ from h14]
  rw [hF] at h
  dsimp only [caOf] at h
  refine SXL.call rfl rfl rfl ?_
  refine (REnd01_S y14 e14 (callK.ret ?_))
  repeat (first | refine Qa ?_ | refine Qb ?_ | refine Qc ?_ | refine Qd ?_ | refine Qe ?_ | refine Qf ?_ | refine Qg ?_ | refine Qh ?_ | refine Qi ?_ | refine Qj ?_ | refine Qk ?_ | refine Ql ?_ | refine Qm ?_ | refine Qn ?_ | refine Qo ?_ | refine Qp ?_ | refine Qq ?_ | fail)
  refine SX.cond rfl (fun he => ?_) (fun he => ?_)
  · have he' : endM y14 e14 ≠ 0 := by simpa using he
    rw [if_pos he'] at h
    repeat (first | refine Qa ?_ | refine Qb ?_ | refine Qc ?_ | refine Qd ?_ | refine Qe ?_ | refine Qf ?_ | refine Qg ?_ | refine Qh ?_ | refine Qi ?_ | refine Qj ?_ | refine Qk ?_ | refine Ql ?_ | refine Qm ?_ | refine Qn ?_ | refine Qo ?_ | refine Qp ?_ | refine Qq ?_ | fail)
    refine SX.ret (M' := F) rfl (Evals.cell rfl inferInstance rfl (Evals.tmp rfl Evals.nil)) ?_ inferInstance
    exact h _ _ rfl
  have he' : endM y14 e14 = 0 := by simpa using he
  rw [if_neg (by rw [he']; decide)] at h
  repeat (first | refine Qa ?_ | refine Qb ?_ | refine Qc ?_ | refine Qd ?_ | refine Qe ?_ | refine Qf ?_ | refine Qg ?_ | refine Qh ?_ | refine Qi ?_ | refine Qj ?_ | refine Qk ?_ | refine Ql ?_ | refine Qm ?_ | refine Qn ?_ | refine Qo ?_ | refine Qp ?_ | refine Qq ?_ | fail)
  refine SXL.split (s := 123) rfl (fun k1 => ?_) (fun k1 => ?_)
  · have k1' := of_decide_eq_true k1
    repeat (first | refine Qa ?_ | refine Qb ?_ | refine Qc ?_ | refine Qd ?_ | refine Qe ?_ | refine Qf ?_ | refine Qg ?_ | refine Qh ?_ | refine Qi ?_ | refine Qj ?_ | refine Qk ?_ | refine Ql ?_ | refine Qm ?_ | refine Qn ?_ | refine Qo ?_ | refine Qp ?_ | refine Qq ?_ | fail)
    refine SX.ret (M' := F) rfl (Evals.cell rfl inferInstance rfl (Evals.tmp rfl Evals.nil)) ?_ inferInstance
    exact h Ca0 11 (if_neg (by show ¬ knownB x3 = true; unfold knownB; simp; omega))
  have k1' := of_decide_eq_false k1
  repeat (first | refine Qa ?_ | refine Qb ?_ | refine Qc ?_ | refine Qd ?_ | refine Qe ?_ | refine Qf ?_ | refine Qg ?_ | refine Qh ?_ | refine Qi ?_ | refine Qj ?_ | refine Qk ?_ | refine Ql ?_ | refine Qm ?_ | refine Qn ?_ | refine Qo ?_ | refine Qp ?_ | refine Qq ?_ | fail)
  refine SX.condp rfl (fun k2 => ?_) (fun k2 => ?_)
  · repeat (first | refine Qa ?_ | refine Qb ?_ | refine Qc ?_ | refine Qd ?_ | refine Qe ?_ | refine Qf ?_ | refine Qg ?_ | refine Qh ?_ | refine Qi ?_ | refine Qj ?_ | refine Qk ?_ | refine Ql ?_ | refine Qm ?_ | refine Qn ?_ | refine Qo ?_ | refine Qp ?_ | refine Qq ?_ | fail)
    refine SX.ret (M' := F) rfl (Evals.cell rfl inferInstance rfl (Evals.tmp rfl Evals.nil)) ?_ inferInstance
    exact h Ca0 11 (if_neg (by show ¬ knownB x3 = true; unfold knownB; simp; omega))
  · repeat (first | refine Qa ?_ | refine Qb ?_ | refine Qc ?_ | refine Qd ?_ | refine Qe ?_ | refine Qf ?_ | refine Qg ?_ | refine Qh ?_ | refine Qi ?_ | refine Qj ?_ | refine Qk ?_ | refine Ql ?_ | refine Qm ?_ | refine Qn ?_ | refine Qo ?_ | refine Qp ?_ | refine Qq ?_ | fail)
    refine SX.ret (M' := F) rfl (Evals.cell rfl inferInstance rfl (Evals.tmp rfl Evals.nil)) ?_ inferInstance
    exact h ⟨x1, x2, x3, x4, x5, strOfNums x6, x7, x8, strOfNums x9, x10, x11, x12, x13, x14⟩ 0 (if_pos (by show knownB x3 = true; unfold knownB; simp; omega))
set_option maxHeartbeats 1000000 in
set_option maxRecDepth 20000 in
theorem RGetReply_S (x : ByteArray) (hx : x.size ≤ 4000000) (h : ∀ r n, getRe (bytesOf x) = (r, n) → ∀ B' c2, r.e.length ≤ c2 → K (.returned (.tuple #[.agg (rrC r B' c2).toArray, .int .i64 n])) (.own B' (rowR kE 131 (.slice B' r.e.length c2) r.e) :: F)) : Fn (Tryz.prog) 29 [.string x] F K := by
  have hxl := bytesOf_length x
  unfold getRe getFs at h
  refine Fn.enter Tryz.call29 Tryz.func29 rfl rfl rfl ?_
  repeat (first | refine Qa ?_ | refine Qb ?_ | refine Qc ?_ | refine Qd ?_ | refine Qe ?_ | refine Qf ?_ | refine Qg ?_ | refine Qh ?_ | refine Qi ?_ | refine Qj ?_ | refine Qk ?_ | refine Ql ?_ | refine Qm ?_ | refine Qn ?_ | refine Qo ?_ | refine Qp ?_ | refine Qq ?_ | fail)
  refine SXL.alloc rfl rfl (fun q => ?_)
  repeat (first | refine Qa ?_ | refine Qb ?_ | refine Qc ?_ | refine Qd ?_ | refine Qe ?_ | refine Qf ?_ | refine Qg ?_ | refine Qh ?_ | refine Qi ?_ | refine Qj ?_ | refine Qk ?_ | refine Ql ?_ | refine Qm ?_ | refine Qn ?_ | refine Qo ?_ | refine Qp ?_ | refine Qq ?_ | fail)
  refine SXL.alloc rfl rfl (fun b => ?_)
  repeat (first | refine Qa ?_ | refine Qb ?_ | refine Qc ?_ | refine Qd ?_ | refine Qe ?_ | refine Qf ?_ | refine Qg ?_ | refine Qh ?_ | refine Qi ?_ | refine Qj ?_ | refine Qk ?_ | refine Ql ?_ | refine Qm ?_ | refine Qn ?_ | refine Qo ?_ | refine Qp ?_ | refine Qq ?_ | fail)
  refine SXL.call rfl rfl rfl ?_
  refine (Read32_S x 0 (by omega) (fun x1 y1 e1 h1 => callK.ret ?_))
  have b1 := rdM_rest (bytesOf x) 0 4 (bytesOf_range x)
  have l1 := rdM_le (bytesOf x) 0 4
  rw [h1] at b1 l1
  dsimp only at b1 l1
  repeat (first | refine Qa ?_ | refine Qb ?_ | refine Qc ?_ | refine Qd ?_ | refine Qe ?_ | refine Qf ?_ | refine Qg ?_ | refine Qh ?_ | refine Qi ?_ | refine Qj ?_ | refine Qk ?_ | refine Ql ?_ | refine Qm ?_ | refine Qn ?_ | refine Qo ?_ | refine Qp ?_ | refine Qq ?_ | fail)
  refine SXL.alloc rfl rfl (fun p => ?_)
  repeat (first | refine Qa ?_ | refine Qb ?_ | refine Qc ?_ | refine Qd ?_ | refine Qe ?_ | refine Qf ?_ | refine Qg ?_ | refine Qh ?_ | refine Qi ?_ | refine Qj ?_ | refine Qk ?_ | refine Ql ?_ | refine Qm ?_ | refine Qn ?_ | refine Qo ?_ | refine Qp ?_ | refine Qq ?_ | fail)
  refine SXL.call rfl rfl rfl ?_
  refine (Read32_S (strOfNums y1) e1 (by rw [size_strOfNums]; omega) (fun x2 y2 e2 h2 => callK.ret ?_))
  rw [bytesOf_strOfNums _ b1] at h2
  have b2 := rdM_rest y1 e1 4 b1
  have l2 := rdM_le y1 e1 4
  rw [h2] at b2 l2
  dsimp only at b2 l2
  repeat (first | refine Qa ?_ | refine Qb ?_ | refine Qc ?_ | refine Qd ?_ | refine Qe ?_ | refine Qf ?_ | refine Qg ?_ | refine Qh ?_ | refine Qi ?_ | refine Qj ?_ | refine Qk ?_ | refine Ql ?_ | refine Qm ?_ | refine Qn ?_ | refine Qo ?_ | refine Qp ?_ | refine Qq ?_ | fail)
  refine SXL.call rfl rfl rfl ?_
  refine (Read32_S (strOfNums y2) e2 (by rw [size_strOfNums]; omega) (fun x3 y3 e3 h3 => callK.ret ?_))
  rw [bytesOf_strOfNums _ b2] at h3
  have b3 := rdM_rest y2 e2 4 b2
  have l3 := rdM_le y2 e2 4
  rw [h3] at b3 l3
  dsimp only at b3 l3
  repeat (first | refine Qa ?_ | refine Qb ?_ | refine Qc ?_ | refine Qd ?_ | refine Qe ?_ | refine Qf ?_ | refine Qg ?_ | refine Qh ?_ | refine Qi ?_ | refine Qj ?_ | refine Qk ?_ | refine Ql ?_ | refine Qm ?_ | refine Qn ?_ | refine Qo ?_ | refine Qp ?_ | refine Qq ?_ | fail)
  refine SXL.call rfl rfl rfl ?_
  refine (Read32_S (strOfNums y3) e3 (by rw [size_strOfNums]; omega) (fun x4 y4 e4 h4 => callK.ret ?_))
  rw [bytesOf_strOfNums _ b3] at h4
  have b4 := rdM_rest y3 e3 4 b3
  have l4 := rdM_le y3 e3 4
  rw [h4] at b4 l4
  dsimp only at b4 l4
  repeat (first | refine Qa ?_ | refine Qb ?_ | refine Qc ?_ | refine Qd ?_ | refine Qe ?_ | refine Qf ?_ | refine Qg ?_ | refine Qh ?_ | refine Qi ?_ | refine Qj ?_ | refine Qk ?_ | refine Ql ?_ | refine Qm ?_ | refine Qn ?_ | refine Qo ?_ | refine Qp ?_ | refine Qq ?_ | fail)
  refine SXL.call rfl rfl rfl ?_
  refine (Read32_S (strOfNums y4) e4 (by rw [size_strOfNums]; omega) (fun x5 y5 e5 h5 => callK.ret ?_))
  rw [bytesOf_strOfNums _ b4] at h5
  have b5 := rdM_rest y4 e4 4 b4
  have l5 := rdM_le y4 e4 4
  rw [h5] at b5 l5
  dsimp only at b5 l5
  repeat (first | refine Qa ?_ | refine Qb ?_ | refine Qc ?_ | refine Qd ?_ | refine Qe ?_ | refine Qf ?_ | refine Qg ?_ | refine Qh ?_ | refine Qi ?_ | refine Qj ?_ | refine Qk ?_ | refine Ql ?_ | refine Qm ?_ | refine Qn ?_ | refine Qo ?_ | refine Qp ?_ | refine Qq ?_ | fail)
  refine SXL.call rfl rfl rfl ?_
  refine (Read32_S (strOfNums y5) e5 (by rw [size_strOfNums]; omega) (fun x6 y6 e6 h6 => callK.ret ?_))
  rw [bytesOf_strOfNums _ b5] at h6
  have b6 := rdM_rest y5 e5 4 b5
  have l6 := rdM_le y5 e5 4
  rw [h6] at b6 l6
  dsimp only at b6 l6
  repeat (first | refine Qa ?_ | refine Qb ?_ | refine Qc ?_ | refine Qd ?_ | refine Qe ?_ | refine Qf ?_ | refine Qg ?_ | refine Qh ?_ | refine Qi ?_ | refine Qj ?_ | refine Qk ?_ | refine Ql ?_ | refine Qm ?_ | refine Qn ?_ | refine Qo ?_ | refine Qp ?_ | refine Qq ?_ | fail)
  refine SXL.call rfl rfl rfl ?_
  refine (Read32_S (strOfNums y6) e6 (by rw [size_strOfNums]; omega) (fun x7 y7 e7 h7 => callK.ret ?_))
  rw [bytesOf_strOfNums _ b6] at h7
  have b7 := rdM_rest y6 e6 4 b6
  have l7 := rdM_le y6 e6 4
  rw [h7] at b7 l7
  dsimp only at b7 l7
  repeat (first | refine Qa ?_ | refine Qb ?_ | refine Qc ?_ | refine Qd ?_ | refine Qe ?_ | refine Qf ?_ | refine Qg ?_ | refine Qh ?_ | refine Qi ?_ | refine Qj ?_ | refine Qk ?_ | refine Ql ?_ | refine Qm ?_ | refine Qn ?_ | refine Qo ?_ | refine Qp ?_ | refine Qq ?_ | fail)
  refine SXL.call rfl rfl rfl ?_
  refine (Read32_S (strOfNums y7) e7 (by rw [size_strOfNums]; omega) (fun x8 y8 e8 h8 => callK.ret ?_))
  rw [bytesOf_strOfNums _ b7] at h8
  have b8 := rdM_rest y7 e7 4 b7
  have l8 := rdM_le y7 e7 4
  rw [h8] at b8 l8
  dsimp only at b8 l8
  repeat (first | refine Qa ?_ | refine Qb ?_ | refine Qc ?_ | refine Qd ?_ | refine Qe ?_ | refine Qf ?_ | refine Qg ?_ | refine Qh ?_ | refine Qi ?_ | refine Qj ?_ | refine Qk ?_ | refine Ql ?_ | refine Qm ?_ | refine Qn ?_ | refine Qo ?_ | refine Qp ?_ | refine Qq ?_ | fail)
  refine SXL.call rfl rfl rfl ?_
  refine (Read32_S (strOfNums y8) e8 (by rw [size_strOfNums]; omega) (fun x9 y9 e9 h9 => callK.ret ?_))
  rw [bytesOf_strOfNums _ b8] at h9
  have b9 := rdM_rest y8 e8 4 b8
  have l9 := rdM_le y8 e8 4
  rw [h9] at b9 l9
  dsimp only at b9 l9
  repeat (first | refine Qa ?_ | refine Qb ?_ | refine Qc ?_ | refine Qd ?_ | refine Qe ?_ | refine Qf ?_ | refine Qg ?_ | refine Qh ?_ | refine Qi ?_ | refine Qj ?_ | refine Qk ?_ | refine Ql ?_ | refine Qm ?_ | refine Qn ?_ | refine Qo ?_ | refine Qp ?_ | refine Qq ?_ | fail)
  refine SXL.call rfl rfl rfl ?_
  refine (Read64_S (strOfNums y9) e9 (by rw [size_strOfNums]; omega) (fun x10 y10 e10 h10 => callK.ret ?_))
  rw [bytesOf_strOfNums _ b9] at h10
  have b10 := rdM_rest y9 e9 8 b9
  have l10 := rdM_le y9 e9 8
  rw [h10] at b10 l10
  dsimp only at b10 l10
  repeat (first | refine Qa ?_ | refine Qb ?_ | refine Qc ?_ | refine Qd ?_ | refine Qe ?_ | refine Qf ?_ | refine Qg ?_ | refine Qh ?_ | refine Qi ?_ | refine Qj ?_ | refine Qk ?_ | refine Ql ?_ | refine Qm ?_ | refine Qn ?_ | refine Qo ?_ | refine Qp ?_ | refine Qq ?_ | fail)
  refine SXL.call rfl rfl rfl ?_
  refine (ReadOpaque_S (strOfNums y10) e10 1024 (by rw [size_strOfNums]; omega) (by decide) (by decide) (fun x11 y11 e11 h11 => callK.ret ?_))
  rw [bytesOf_strOfNums _ b10] at h11
  have b11 := opM_rest y10 e10 1024 b10
  have l11 := opM_le y10 e10 1024
  obtain ⟨d11, z11⟩ := opM_bytes b10 (by decide) h11
  rw [h11] at b11 l11
  dsimp only at b11 l11
  repeat (first | refine Qa ?_ | refine Qb ?_ | refine Qc ?_ | refine Qd ?_ | refine Qe ?_ | refine Qf ?_ | refine Qg ?_ | refine Qh ?_ | refine Qi ?_ | refine Qj ?_ | refine Qk ?_ | refine Ql ?_ | refine Qm ?_ | refine Qn ?_ | refine Qo ?_ | refine Qp ?_ | refine Qq ?_ | fail)
  refine SXL.call rfl rfl rfl ?_
  refine (ReadOpaque_S (strOfNums y11) e11 2048 (by rw [size_strOfNums]; omega) (by decide) (by decide) (fun x12 y12 e12 h12 => callK.ret ?_))
  rw [bytesOf_strOfNums _ b11] at h12
  have b12 := opM_rest y11 e11 2048 b11
  have l12 := opM_le y11 e11 2048
  obtain ⟨d12, z12⟩ := opM_bytes b11 (by decide) h12
  rw [h12] at b12 l12
  dsimp only at b12 l12
  repeat (first | refine Qa ?_ | refine Qb ?_ | refine Qc ?_ | refine Qd ?_ | refine Qe ?_ | refine Qf ?_ | refine Qg ?_ | refine Qh ?_ | refine Qi ?_ | refine Qj ?_ | refine Qk ?_ | refine Ql ?_ | refine Qm ?_ | refine Qn ?_ | refine Qo ?_ | refine Qp ?_ | refine Qq ?_ | fail)
  refine SXL.call rfl rfl rfl ?_
  refine (RReadBool_S (strOfNums y12) e12 (by rw [size_strOfNums]; omega) (fun x13 y13 e13 h13 => callK.ret ?_))
  rw [bytesOf_strOfNums _ b12] at h13
  have b13 := boM_rest y12 e12 b12
  have l13 := boM_le y12 e12
  rw [h13] at b13 l13
  dsimp only at b13 l13
  repeat (first | refine Qa ?_ | refine Qb ?_ | refine Qc ?_ | refine Qd ?_ | refine Qe ?_ | refine Qf ?_ | refine Qg ?_ | refine Qh ?_ | refine Qi ?_ | refine Qj ?_ | refine Qk ?_ | refine Ql ?_ | refine Qm ?_ | refine Qn ?_ | refine Qo ?_ | refine Qp ?_ | refine Qq ?_ | fail)
  refine SXL.call rfl rfl rfl ?_
  refine (Read64_S (strOfNums y13) e13 (by rw [size_strOfNums]; omega) (fun x14 y14 e14 h14 => callK.ret ?_))
  rw [bytesOf_strOfNums _ b13] at h14
  have b14 := rdM_rest y13 e13 8 b13
  have l14 := rdM_le y13 e13 8
  rw [h14] at b14 l14
  dsimp only at b14 l14
  repeat (first | refine Qa ?_ | refine Qb ?_ | refine Qc ?_ | refine Qd ?_ | refine Qe ?_ | refine Qf ?_ | refine Qg ?_ | refine Qh ?_ | refine Qi ?_ | refine Qj ?_ | refine Qk ?_ | refine Ql ?_ | refine Qm ?_ | refine Qn ?_ | refine Qo ?_ | refine Qp ?_ | refine Qq ?_ | fail)
  refine SXL.call rfl rfl rfl ?_
  refine (Read32_S (strOfNums y14) e14 (by rw [size_strOfNums]; omega) (fun x15 y15 e15 h15 => callK.ret ?_))
  rw [bytesOf_strOfNums _ b14] at h15
  have b15 := rdM_rest y14 e14 4 b14
  have l15 := rdM_le y14 e14 4
  rw [h15] at b15 l15
  dsimp only at b15 l15
  repeat (first | refine Qa ?_ | refine Qb ?_ | refine Qc ?_ | refine Qd ?_ | refine Qe ?_ | refine Qf ?_ | refine Qg ?_ | refine Qh ?_ | refine Qi ?_ | refine Qj ?_ | refine Qk ?_ | refine Ql ?_ | refine Qm ?_ | refine Qn ?_ | refine Qo ?_ | refine Qp ?_ | refine Qq ?_ | fail)
  have hF : rdFs reF (bytesOf x) 0 = ([.i x1, .i x2, .i x3, .i x4, .i x5, .i x6, .i x7, .i x8, .i x9, .i x10, .b x11, .b x12, .i x13, .i x14, .i x15], y15, e15) := by
    simp only [rdFs, reF, rdF, show rdM (bytesOf x) 0 4 = _ from h1, show rdM y1 e1 4 = _ from h2, show rdM y2 e2 4 = _ from h3, show rdM y3 e3 4 = _ from h4, show rdM y4 e4 4 = _ from h5, show rdM y5 e5 4 = _ from h6, show rdM y6 e6 4 = _ from h7, show rdM y7 e7 4 = _ from h8, show rdM y8 e8 4 = _ from h9, show rdM y9 e9 8 = _ from h10, show opM y10 e10 ((1024 : Nat) : Int) = _ from h11, show opM y11 e11 ((2048 : Nat) : Int) = _ from h12, show boM y12 e12 = _ from h13, show rdM y13 e13 8 = _ from h14, show rdM y14 e14 4 = _ from h15]
  rw [hF] at h
  dsimp only at h
  refine SXL.call rfl rfl rfl ?_
  refine (REnd01_S y15 e15 (callK.ret ?_))
  repeat (first | refine Qa ?_ | refine Qb ?_ | refine Qc ?_ | refine Qd ?_ | refine Qe ?_ | refine Qf ?_ | refine Qg ?_ | refine Qh ?_ | refine Qi ?_ | refine Qj ?_ | refine Qk ?_ | refine Ql ?_ | refine Qm ?_ | refine Qn ?_ | refine Qo ?_ | refine Qp ?_ | refine Qq ?_ | fail)
  refine SX.cond rfl (fun he => ?_) (fun he => ?_)
  · have he' : endM y15 e15 ≠ 0 := by simpa using he
    rw [if_pos he'] at h
    repeat (first | refine Qa ?_ | refine Qb ?_ | refine Qc ?_ | refine Qd ?_ | refine Qe ?_ | refine Qf ?_ | refine Qg ?_ | refine Qh ?_ | refine Qi ?_ | refine Qj ?_ | refine Qk ?_ | refine Ql ?_ | refine Qm ?_ | refine Qn ?_ | refine Qo ?_ | refine Qp ?_ | refine Qq ?_ | fail)
    refine SX.ret (M' := (.own none (rowR kE 131 (.slice none ([] : List Ent).length 0) []) :: F)) rfl (Evals.cell rfl inferInstance rfl (Evals.tmp rfl Evals.nil)) ?_ inferInstance
    exact h _ _ rfl none 0 (Nat.le_refl _)
  have he' : endM y15 e15 = 0 := by simpa using he
  rw [if_neg (by rw [he']; decide)] at h
  repeat (first | refine Qa ?_ | refine Qb ?_ | refine Qc ?_ | refine Qd ?_ | refine Qe ?_ | refine Qf ?_ | refine Qg ?_ | refine Qh ?_ | refine Qi ?_ | refine Qj ?_ | refine Qk ?_ | refine Ql ?_ | refine Qm ?_ | refine Qn ?_ | refine Qo ?_ | refine Qp ?_ | refine Qq ?_ | fail)
  refine SXL.call rfl rfl rfl ?_
  refine (RGet_S (strOfNums x12) (by rw [size_strOfNums]; omega) (fun l n hm A20 c20 hc20 => callK.ret ?_))
  rw [bytesOf_strOfNums _ d12] at hm
  rw [rest2_eq (vs := [.i x1, .i x2, .i x3, .i x4, .i x5, .i x6, .i x7, .i x8, .i x9, .i x10, .b x11, .b x12, .i x13, .i x14, .i x15]) (show getM (rowOf [.i x1, .i x2, .i x3, .i x4, .i x5, .i x6, .i x7, .i x8, .i x9, .i x10, .b x11, .b x12, .i x13, .i x14, .i x15]) = (l, n) from hm)] at h
  repeat (first | refine Qa ?_ | refine Qb ?_ | refine Qc ?_ | refine Qd ?_ | refine Qe ?_ | refine Qf ?_ | refine Qg ?_ | refine Qh ?_ | refine Qi ?_ | refine Qj ?_ | refine Qk ?_ | refine Ql ?_ | refine Qm ?_ | refine Qn ?_ | refine Qo ?_ | refine Qp ?_ | refine Qq ?_ | fail)
  refine SX.cond rfl (fun hn => ?_) (fun hn => ?_)
  · have hn' : n ≠ 0 := by simpa using hn
    rw [if_pos hn'] at h
    repeat (first | refine Qa ?_ | refine Qb ?_ | refine Qc ?_ | refine Qd ?_ | refine Qe ?_ | refine Qf ?_ | refine Qg ?_ | refine Qh ?_ | refine Qi ?_ | refine Qj ?_ | refine Qk ?_ | refine Ql ?_ | refine Qm ?_ | refine Qn ?_ | refine Qo ?_ | refine Qp ?_ | refine Qq ?_ | fail)
    refine SX.ret (M' := (.own none (rowR kE 131 (.slice none ([] : List Ent).length 0) []) :: F)) rfl (Evals.cell rfl inferInstance rfl (Evals.tmp rfl Evals.nil)) ?_ inferInstance
    exact h _ _ rfl none 0 (Nat.le_refl _)
  obtain rfl : n = 0 := by simpa using hn
  rw [if_neg (by simp)] at h
  have r3 := rdM_range y2 e2 4 b2
  rw [h3] at r3
  dsimp only at r3
  repeat (first | refine Qa ?_ | refine Qb ?_ | refine Qc ?_ | refine Qd ?_ | refine Qe ?_ | refine Qf ?_ | refine Qg ?_ | refine Qh ?_ | refine Qi ?_ | refine Qj ?_ | refine Qk ?_ | refine Ql ?_ | refine Qm ?_ | refine Qn ?_ | refine Qo ?_ | refine Qp ?_ | refine Qq ?_ | fail)
  refine SXL.same 141 (.int .i64 x3) rfl (by rw [IntWalk.i64_in _ (by omega)]) ?_
  refine SXL.call rfl rfl rfl ?_
  refine (Rstatus_S (callK.ret ?_))
  repeat (first | refine Qa ?_ | refine Qb ?_ | refine Qc ?_ | refine Qd ?_ | refine Qe ?_ | refine Qf ?_ | refine Qg ?_ | refine Qh ?_ | refine Qi ?_ | refine Qj ?_ | refine Qk ?_ | refine Ql ?_ | refine Qm ?_ | refine Qn ?_ | refine Qo ?_ | refine Qp ?_ | refine Qq ?_ | fail)
  refine SXL.split (s := 145) rfl (fun k9 => ?_) (fun k9 => ?_)
  · repeat (first | refine Qa ?_ | refine Qb ?_ | refine Qc ?_ | refine Qd ?_ | refine Qe ?_ | refine Qf ?_ | refine Qg ?_ | refine Qh ?_ | refine Qi ?_ | refine Qj ?_ | refine Qk ?_ | refine Ql ?_ | refine Qm ?_ | refine Qn ?_ | refine Qo ?_ | refine Qp ?_ | refine Qq ?_ | fail)
    refine SX.ret (M' := (.own none (rowR kE 131 (.slice none ([] : List Ent).length 0) []) :: F)) rfl (Evals.cell rfl inferInstance rfl (Evals.tmp rfl Evals.nil)) ?_ inferInstance
    exact h Re0 11 (if_neg (by show ¬ (statB x3 && decide (l.length ≤ 24)) = true; rw [show statB x3 = false by simpa using k9]; simp)) none 0 (Nat.le_refl _)
  have k9' : statB x3 = true := by simpa using k9
  repeat (first | refine Qa ?_ | refine Qb ?_ | refine Qc ?_ | refine Qd ?_ | refine Qe ?_ | refine Qf ?_ | refine Qg ?_ | refine Qh ?_ | refine Qi ?_ | refine Qj ?_ | refine Qk ?_ | refine Ql ?_ | refine Qm ?_ | refine Qn ?_ | refine Qo ?_ | refine Qp ?_ | refine Qq ?_ | fail)
  refine SX.condp rfl (fun k10 => ?_) (fun k10 => ?_)
  · repeat (first | refine Qa ?_ | refine Qb ?_ | refine Qc ?_ | refine Qd ?_ | refine Qe ?_ | refine Qf ?_ | refine Qg ?_ | refine Qh ?_ | refine Qi ?_ | refine Qj ?_ | refine Qk ?_ | refine Ql ?_ | refine Qm ?_ | refine Qn ?_ | refine Qo ?_ | refine Qp ?_ | refine Qq ?_ | fail)
    refine SX.ret (M' := (.own none (rowR kE 131 (.slice none ([] : List Ent).length 0) []) :: F)) rfl (Evals.cell rfl inferInstance rfl (Evals.tmp rfl Evals.nil)) ?_ inferInstance
    exact h Re0 11 (if_neg (by show ¬ (statB x3 && decide (l.length ≤ 24)) = true; rw [k9']; simp; omega)) none 0 (Nat.le_refl _)
  repeat (first | refine Qa ?_ | refine Qb ?_ | refine Qc ?_ | refine Qd ?_ | refine Qe ?_ | refine Qf ?_ | refine Qg ?_ | refine Qh ?_ | refine Qi ?_ | refine Qj ?_ | refine Qk ?_ | refine Ql ?_ | refine Qm ?_ | refine Qn ?_ | refine Qo ?_ | refine Qp ?_ | refine Qq ?_ | fail)
  refine SX.ret (M' := (.own A20 (rowR kE 131 (.slice A20 l.length c20) l) :: F)) rfl (Evals.cell rfl inferInstance rfl (Evals.tmp rfl Evals.nil)) ?_ inferInstance
  rw [IntWalk.i64_in x3 (by omega)]
  exact h ⟨x1, x2, x3, x4, x5, x6, x7, x8, x9, x10, x11, l, x13 == 1, x14, x15⟩ 0 (if_pos (by show (statB x3 && decide (l.length ≤ 24)) = true; rw [k9']; simp; omega)) A20 c20 hc20
end
end Go.Proofs.YtpbhanpblmoepaaGreat.Sx
