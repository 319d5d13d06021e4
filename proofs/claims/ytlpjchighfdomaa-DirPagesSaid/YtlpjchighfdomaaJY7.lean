/- The Go package xdr's writer, walked by what is known, for rows that are nearly as large as may be; conditions: those that each theorem names. -/
import Derived.Test.YtlpjchighfdomaaJV5
import Derived.Test.YtlpjchighfdomaaJY4
import Derived.Test.YtlpjchighfdomaaJY6
namespace Go.Proofs.Ytlpjchighfdomaa.Sx
open Go.RowKit Go.Proofs.Ytlpjchighfdomaa.Hm Go.Proofs.YtlpjchighfdomaaW.PrintWords Go.Proofs.YtlpjchighfdomaaW.PrintLast Go.Proofs.YtlpjchighfdomaaW.PrintMore
set_option linter.unusedVariables false
set_option linter.unusedSimpArgs false
attribute [local irreducible] SX SXL SXA St callK Post Evals

abbrev wrC (p : Nat) (A : Option Addr) (n c : Nat) : Thing := .own (some ⟨p, 0, none⟩) (cellsR p [.slice A n c] 139)
abbrev wrX (A : Option Addr) (c : Nat) (xs : List Int) : Thing := .own A (rowR (Kd.int .u8) 5 (.slice A xs.length c) xs)
section
variable {F R R1 : List Thing} {K : Ending → List Thing → Prop} {A B : Option Addr} {p c cc : Nat} {xs ys : List Int} {x : Int}
theorem shr_ediv {k : IntKind} {x : Int} (n : Nat) (hn : n ≤ k.bits) : shrI k x (n : Int) = x / 2 ^ n := by
  unfold shrI
  rw [Int.toNat_natCast, Nat.min_eq_left hn]
  exact Int.fdiv_eq_ediv_of_nonneg _ (by have := Nat.two_pow_pos n; exact_mod_cast Nat.zero_le _)
theorem NewWriterW_S (h : ∀ p, K (.returned (.pointer (some ⟨p, 0, none⟩))) (wrC p none ([] : List Int).length 0 :: wrX none 0 [] :: F)) : Fn (Try.prog) 55 [] F K := by
  refine Fn.enter Try.call55 Try.func55 rfl rfl rfl ?_
  repeat (first | refine Qa ?_ | refine Qb ?_ | refine Qc ?_ | refine Qd ?_ | refine Qe ?_ | refine Qf ?_ | refine Qg ?_ | refine Qh ?_ | refine Qi ?_ | refine Qj ?_ | refine Qk ?_ | refine Ql ?_ | refine Qm ?_ | refine Qn ?_ | refine Qo ?_ | refine Qp ?_ | refine Qq ?_ | fail)
  refine SXL.box rfl rfl rfl (fun p => ?_)
  repeat (first | refine Qa ?_ | refine Qb ?_ | refine Qc ?_ | refine Qd ?_ | refine Qe ?_ | refine Qf ?_ | refine Qg ?_ | refine Qh ?_ | refine Qi ?_ | refine Qj ?_ | refine Qk ?_ | refine Ql ?_ | refine Qm ?_ | refine Qn ?_ | refine Qo ?_ | refine Qp ?_ | refine Qq ?_ | fail)
  refine SX.ret (M' := (wrC p none ([] : List Int).length 0 :: wrX none 0 [] :: F)) rfl (Evals.tmp rfl Evals.nil) ?_ inferInstance
  exact h p
theorem CloneW_S (hr : Ro (Kd.int .u8) A F xs) (hc : xs.length ≤ c) (hl : xs.length ≤ 225179981368000) (h : ∀ A' c', xs.length ≤ c' → K (.returned (.slice A' xs.length c')) (wrX A' c' xs :: F)) :
    Fn (Try.prog) 80 [.slice A xs.length c] F K := by
  rcases Nat.eq_zero_or_pos xs.length with h0 | h0
  · exact BClone_S hr hc (by omega) h
  refine Fn.enter Try.call80 Try.func80 rfl rfl rfl ?_
  refine SX.addr (A := A) (Kd.int .u8) (by decide) (xs := xs) h0 (fun bb oo e => ?_)
  subst e
  repeat (first | refine Qa ?_ | refine Qb ?_ | refine Qc ?_ | refine Qd ?_ | refine Qe ?_ | refine Qf ?_ | refine Qg ?_ | refine Qh ?_ | refine Qi ?_ | refine Qj ?_ | refine Qk ?_ | refine Ql ?_ | refine Qm ?_ | refine Qn ?_ | refine Qo ?_ | refine Qp ?_ | refine Qq ?_ | fail)
  refine SX.know 4 false rfl rfl ?_
  repeat (first | refine Qa ?_ | refine Qb ?_ | refine Qc ?_ | refine Qd ?_ | refine Qe ?_ | refine Qf ?_ | refine Qg ?_ | refine Qh ?_ | refine Qi ?_ | refine Qj ?_ | refine Qk ?_ | refine Ql ?_ | refine Qm ?_ | refine Qn ?_ | refine Qo ?_ | refine Qp ?_ | refine Qq ?_ | fail)
  refine SXL.lit0 rfl rfl rfl rfl (fun g => ?_)
  refine SXL.emptyRow (b := g) (e := 5) (Kd.int .u8) inferInstance ?_
  repeat (first | refine Qa ?_ | refine Qb ?_ | refine Qc ?_ | refine Qd ?_ | refine Qe ?_ | refine Qf ?_ | refine Qg ?_ | refine Qh ?_ | refine Qi ?_ | refine Qj ?_ | refine Qk ?_ | refine Ql ?_ | refine Qm ?_ | refine Qn ?_ | refine Qo ?_ | refine Qp ?_ | refine Qq ?_ | fail)
  refine SXL.appendW (Kd.int .u8) rfl rfl inferInstance inferInstance rfl inferInstance (by simp; omega) rfl (fun A' d' hd' => ?_)
  rw [List.nil_append] at hd' ⊢
  repeat (first | refine Qa ?_ | refine Qb ?_ | refine Qc ?_ | refine Qd ?_ | refine Qe ?_ | refine Qf ?_ | refine Qg ?_ | refine Qh ?_ | refine Qi ?_ | refine Qj ?_ | refine Qk ?_ | refine Ql ?_ | refine Qm ?_ | refine Qn ?_ | refine Qo ?_ | refine Qp ?_ | refine Qq ?_ | fail)
  refine SX.ret (M' := (wrX A' d' xs :: F)) rfl (Evals.tmp rfl Evals.nil) ?_ inferInstance
  exact h A' d' hd'
theorem put32W_S (hat : At (some ⟨p, 0, none⟩) F (cellsR p [.slice A xs.length c] 139) R1) (hat2 : At A R1 (rowR (Kd.int .u8) 5 (.slice A xs.length c) xs) R) (h0 : 0 ≤ x) (h1 : x < 4294967296) (hl : xs.length ≤ 225179981368000)
    (h : ∀ A' c', (xs ++ be32 x).length ≤ c' → K (.returned (.tuple #[])) (wrC p A' (xs ++ be32 x).length c' :: wrX A' c' (xs ++ be32 x) :: R)) : Fn (Try.prog) 92 [.pointer (some ⟨p, 0, none⟩), .int .u32 x, .int .i64 4] F K := by
  refine Fn.at_ hat ?_
  refine Fn.at_ (inferInstance : At A (.own (some ⟨p, 0, none⟩) (cellsR p [.slice A xs.length c] 139) :: R1) (rowR (Kd.int .u8) 5 (.slice A xs.length c) xs) (.own (some ⟨p, 0, none⟩) (cellsR p [.slice A xs.length c] 139) :: R)) ?_
  refine Fn.enter Try.call92 Try.func92 rfl rfl rfl ?_
  repeat (first | refine Qa ?_ | refine Qb ?_ | refine Qc ?_ | refine Qd ?_ | refine Qe ?_ | refine Qf ?_ | refine Qg ?_ | refine Qh ?_ | refine Qi ?_ | refine Qj ?_ | refine Qk ?_ | refine Ql ?_ | refine Qm ?_ | refine Qn ?_ | refine Qo ?_ | refine Qp ?_ | refine Qq ?_ | fail)
  refine SX.unroll 4 ?_
  repeat (first | refine Qa ?_ | refine Qb ?_ | refine Qc ?_ | refine Qd ?_ | refine Qe ?_ | refine Qf ?_ | refine Qg ?_ | refine Qh ?_ | refine Qi ?_ | refine Qj ?_ | refine Qk ?_ | refine Ql ?_ | refine Qm ?_ | refine Qn ?_ | refine Qo ?_ | refine Qp ?_ | refine Qq ?_ | fail)
  refine SX.same 2 (.int .i64 3) rfl rfl ?_
  refine SXA.begin (wrC p A (xs).length c :: R) [14] ?_
  (first | refine Qr 0 ?_ | refine Qs 0 ?_ | refine Qt 0 ?_ | refine Qu 0 ?_ | fail)
  (first | refine Qr 1 ?_ | refine Qs 1 ?_ | refine Qt 1 ?_ | refine Qu 1 ?_ | fail)
  (first | refine Qr 2 ?_ | refine Qs 2 ?_ | refine Qt 2 ?_ | refine Qu 2 ?_ | fail)
  (first | refine Qr 3 ?_ | refine Qs 3 ?_ | refine Qt 3 ?_ | refine Qu 3 ?_ | fail)
  (first | refine Qr 4 ?_ | refine Qs 4 ?_ | refine Qt 4 ?_ | refine Qu 4 ?_ | fail)
  (first | refine Qr 5 ?_ | refine Qs 5 ?_ | refine Qt 5 ?_ | refine Qu 5 ?_ | fail)
  (first | refine Qr 6 ?_ | refine Qs 6 ?_ | refine Qt 6 ?_ | refine Qu 6 ?_ | fail)
  (first | refine Qr 7 ?_ | refine Qs 7 ?_ | refine Qt 7 ?_ | refine Qu 7 ?_ | fail)
  (first | refine Qr 8 ?_ | refine Qs 8 ?_ | refine Qt 8 ?_ | refine Qu 8 ?_ | fail)
  (first | refine Qr 9 ?_ | refine Qs 9 ?_ | refine Qt 9 ?_ | refine Qu 9 ?_ | fail)
  refine Qw 10 ?_
  refine SXL.same 21 (.int .u8 (x / 16777216 % 256)) rfl (by
    show Value.int .u8 (IntKind.u8.wrap (shrI .u32 x ((24 : Nat) : Int))) = _
    rw [shr_ediv 24 (by decide)]
    first | rfl | (simp; rfl)) ?_
  refine SXL.lit rfl rfl (fun g => ?_)
  refine SXL.litRow (Kd.int .u8) g [x / 16777216 % 256] inferInstance rfl (fun _ => rfl) (by simp) ?_
  refine SXL.nil (SXA.next inferInstance ?_)
  refine Qw 11 ?_
  refine SXL.appendW (Kd.int .u8) rfl rfl inferInstance inferInstance rfl inferInstance (by simp; omega) rfl (fun A0 c0 hc0 => ?_)
  refine SXL.nil (SXA.next inferInstance ?_)
  (first | refine Qr 12 ?_ | refine Qs 12 ?_ | refine Qt 12 ?_ | refine Qu 12 ?_ | fail)
  (first | refine Qr 13 ?_ | refine Qs 13 ?_ | refine Qt 13 ?_ | refine Qu 13 ?_ | fail)
  refine SXA.storeLast 14 rfl (by decide +kernel) rfl rfl inferInstance rfl rfl ?_
  refine Qv ?_
  repeat (first | refine Qa ?_ | refine Qb ?_ | refine Qc ?_ | refine Qd ?_ | refine Qe ?_ | refine Qf ?_ | refine Qg ?_ | refine Qh ?_ | refine Qi ?_ | refine Qj ?_ | refine Qk ?_ | refine Ql ?_ | refine Qm ?_ | refine Qn ?_ | refine Qo ?_ | refine Qp ?_ | refine Qq ?_ | fail)
  refine SX.round ?_
  repeat (first | refine Qa ?_ | refine Qb ?_ | refine Qc ?_ | refine Qd ?_ | refine Qe ?_ | refine Qf ?_ | refine Qg ?_ | refine Qh ?_ | refine Qi ?_ | refine Qj ?_ | refine Qk ?_ | refine Ql ?_ | refine Qm ?_ | refine Qn ?_ | refine Qo ?_ | refine Qp ?_ | refine Qq ?_ | fail)
  refine SX.same 2 (.int .i64 2) rfl rfl ?_
  refine SXA.begin (wrC p A0 (xs ++ [x / 16777216 % 256]).length c0 :: R) [14] ?_
  (first | refine Qr 0 ?_ | refine Qs 0 ?_ | refine Qt 0 ?_ | refine Qu 0 ?_ | fail)
  (first | refine Qr 1 ?_ | refine Qs 1 ?_ | refine Qt 1 ?_ | refine Qu 1 ?_ | fail)
  (first | refine Qr 2 ?_ | refine Qs 2 ?_ | refine Qt 2 ?_ | refine Qu 2 ?_ | fail)
  (first | refine Qr 3 ?_ | refine Qs 3 ?_ | refine Qt 3 ?_ | refine Qu 3 ?_ | fail)
  (first | refine Qr 4 ?_ | refine Qs 4 ?_ | refine Qt 4 ?_ | refine Qu 4 ?_ | fail)
  (first | refine Qr 5 ?_ | refine Qs 5 ?_ | refine Qt 5 ?_ | refine Qu 5 ?_ | fail)
  (first | refine Qr 6 ?_ | refine Qs 6 ?_ | refine Qt 6 ?_ | refine Qu 6 ?_ | fail)
  (first | refine Qr 7 ?_ | refine Qs 7 ?_ | refine Qt 7 ?_ | refine Qu 7 ?_ | fail)
  (first | refine Qr 8 ?_ | refine Qs 8 ?_ | refine Qt 8 ?_ | refine Qu 8 ?_ | fail)
  (first | refine Qr 9 ?_ | refine Qs 9 ?_ | refine Qt 9 ?_ | refine Qu 9 ?_ | fail)
  refine Qw 10 ?_
  refine SXL.same 21 (.int .u8 (x / 65536 % 256)) rfl (by
    show Value.int .u8 (IntKind.u8.wrap (shrI .u32 x ((16 : Nat) : Int))) = _
    rw [shr_ediv 16 (by decide)]
    first | rfl | (simp; rfl)) ?_
  refine SXL.lit rfl rfl (fun g => ?_)
  refine SXL.litRow (Kd.int .u8) g [x / 65536 % 256] inferInstance rfl (fun _ => rfl) (by simp) ?_
  refine SXL.nil (SXA.next inferInstance ?_)
  refine Qw 11 ?_
  refine SXL.appendW (Kd.int .u8) rfl rfl inferInstance inferInstance rfl inferInstance (by simp; omega) rfl (fun A1 c1 hc1 => ?_)
  refine SXL.nil (SXA.next inferInstance ?_)
  (first | refine Qr 12 ?_ | refine Qs 12 ?_ | refine Qt 12 ?_ | refine Qu 12 ?_ | fail)
  (first | refine Qr 13 ?_ | refine Qs 13 ?_ | refine Qt 13 ?_ | refine Qu 13 ?_ | fail)
  refine SXA.storeLast 14 rfl (by decide +kernel) rfl rfl inferInstance rfl rfl ?_
  refine Qv ?_
  repeat (first | refine Qa ?_ | refine Qb ?_ | refine Qc ?_ | refine Qd ?_ | refine Qe ?_ | refine Qf ?_ | refine Qg ?_ | refine Qh ?_ | refine Qi ?_ | refine Qj ?_ | refine Qk ?_ | refine Ql ?_ | refine Qm ?_ | refine Qn ?_ | refine Qo ?_ | refine Qp ?_ | refine Qq ?_ | fail)
  refine SX.round ?_
  repeat (first | refine Qa ?_ | refine Qb ?_ | refine Qc ?_ | refine Qd ?_ | refine Qe ?_ | refine Qf ?_ | refine Qg ?_ | refine Qh ?_ | refine Qi ?_ | refine Qj ?_ | refine Qk ?_ | refine Ql ?_ | refine Qm ?_ | refine Qn ?_ | refine Qo ?_ | refine Qp ?_ | refine Qq ?_ | fail)
  refine SX.same 2 (.int .i64 1) rfl rfl ?_
  refine SXA.begin (wrC p A1 ((xs ++ [x / 16777216 % 256]) ++ [x / 65536 % 256]).length c1 :: R) [14] ?_
  (first | refine Qr 0 ?_ | refine Qs 0 ?_ | refine Qt 0 ?_ | refine Qu 0 ?_ | fail)
  (first | refine Qr 1 ?_ | refine Qs 1 ?_ | refine Qt 1 ?_ | refine Qu 1 ?_ | fail)
  (first | refine Qr 2 ?_ | refine Qs 2 ?_ | refine Qt 2 ?_ | refine Qu 2 ?_ | fail)
  (first | refine Qr 3 ?_ | refine Qs 3 ?_ | refine Qt 3 ?_ | refine Qu 3 ?_ | fail)
  (first | refine Qr 4 ?_ | refine Qs 4 ?_ | refine Qt 4 ?_ | refine Qu 4 ?_ | fail)
  (first | refine Qr 5 ?_ | refine Qs 5 ?_ | refine Qt 5 ?_ | refine Qu 5 ?_ | fail)
  (first | refine Qr 6 ?_ | refine Qs 6 ?_ | refine Qt 6 ?_ | refine Qu 6 ?_ | fail)
  (first | refine Qr 7 ?_ | refine Qs 7 ?_ | refine Qt 7 ?_ | refine Qu 7 ?_ | fail)
  (first | refine Qr 8 ?_ | refine Qs 8 ?_ | refine Qt 8 ?_ | refine Qu 8 ?_ | fail)
  (first | refine Qr 9 ?_ | refine Qs 9 ?_ | refine Qt 9 ?_ | refine Qu 9 ?_ | fail)
  refine Qw 10 ?_
  refine SXL.same 21 (.int .u8 (x / 256 % 256)) rfl (by
    show Value.int .u8 (IntKind.u8.wrap (shrI .u32 x ((8 : Nat) : Int))) = _
    rw [shr_ediv 8 (by decide)]
    first | rfl | (simp; rfl)) ?_
  refine SXL.lit rfl rfl (fun g => ?_)
  refine SXL.litRow (Kd.int .u8) g [x / 256 % 256] inferInstance rfl (fun _ => rfl) (by simp) ?_
  refine SXL.nil (SXA.next inferInstance ?_)
  refine Qw 11 ?_
  refine SXL.appendW (Kd.int .u8) rfl rfl inferInstance inferInstance rfl inferInstance (by simp; omega) rfl (fun A2 c2 hc2 => ?_)
  refine SXL.nil (SXA.next inferInstance ?_)
  (first | refine Qr 12 ?_ | refine Qs 12 ?_ | refine Qt 12 ?_ | refine Qu 12 ?_ | fail)
  (first | refine Qr 13 ?_ | refine Qs 13 ?_ | refine Qt 13 ?_ | refine Qu 13 ?_ | fail)
  refine SXA.storeLast 14 rfl (by decide +kernel) rfl rfl inferInstance rfl rfl ?_
  refine Qv ?_
  repeat (first | refine Qa ?_ | refine Qb ?_ | refine Qc ?_ | refine Qd ?_ | refine Qe ?_ | refine Qf ?_ | refine Qg ?_ | refine Qh ?_ | refine Qi ?_ | refine Qj ?_ | refine Qk ?_ | refine Ql ?_ | refine Qm ?_ | refine Qn ?_ | refine Qo ?_ | refine Qp ?_ | refine Qq ?_ | fail)
  refine SX.round ?_
  repeat (first | refine Qa ?_ | refine Qb ?_ | refine Qc ?_ | refine Qd ?_ | refine Qe ?_ | refine Qf ?_ | refine Qg ?_ | refine Qh ?_ | refine Qi ?_ | refine Qj ?_ | refine Qk ?_ | refine Ql ?_ | refine Qm ?_ | refine Qn ?_ | refine Qo ?_ | refine Qp ?_ | refine Qq ?_ | fail)
  refine SX.same 2 (.int .i64 0) rfl rfl ?_
  refine SXA.begin (wrC p A2 (((xs ++ [x / 16777216 % 256]) ++ [x / 65536 % 256]) ++ [x / 256 % 256]).length c2 :: R) [14] ?_
  (first | refine Qr 0 ?_ | refine Qs 0 ?_ | refine Qt 0 ?_ | refine Qu 0 ?_ | fail)
  (first | refine Qr 1 ?_ | refine Qs 1 ?_ | refine Qt 1 ?_ | refine Qu 1 ?_ | fail)
  (first | refine Qr 2 ?_ | refine Qs 2 ?_ | refine Qt 2 ?_ | refine Qu 2 ?_ | fail)
  (first | refine Qr 3 ?_ | refine Qs 3 ?_ | refine Qt 3 ?_ | refine Qu 3 ?_ | fail)
  (first | refine Qr 4 ?_ | refine Qs 4 ?_ | refine Qt 4 ?_ | refine Qu 4 ?_ | fail)
  (first | refine Qr 5 ?_ | refine Qs 5 ?_ | refine Qt 5 ?_ | refine Qu 5 ?_ | fail)
  (first | refine Qr 6 ?_ | refine Qs 6 ?_ | refine Qt 6 ?_ | refine Qu 6 ?_ | fail)
  (first | refine Qr 7 ?_ | refine Qs 7 ?_ | refine Qt 7 ?_ | refine Qu 7 ?_ | fail)
  (first | refine Qr 8 ?_ | refine Qs 8 ?_ | refine Qt 8 ?_ | refine Qu 8 ?_ | fail)
  (first | refine Qr 9 ?_ | refine Qs 9 ?_ | refine Qt 9 ?_ | refine Qu 9 ?_ | fail)
  refine Qw 10 ?_
  refine SXL.same 21 (.int .u8 (x % 256)) rfl (by
    show Value.int .u8 (IntKind.u8.wrap (shrI .u32 x ((0 : Nat) : Int))) = _
    rw [shr_ediv 0 (by decide)]
    first | rfl | (simp; rfl)) ?_
  refine SXL.lit rfl rfl (fun g => ?_)
  refine SXL.litRow (Kd.int .u8) g [x % 256] inferInstance rfl (fun _ => rfl) (by simp) ?_
  refine SXL.nil (SXA.next inferInstance ?_)
  refine Qw 11 ?_
  refine SXL.appendW (Kd.int .u8) rfl rfl inferInstance inferInstance rfl inferInstance (by simp; omega) rfl (fun A3 c3 hc3 => ?_)
  refine SXL.nil (SXA.next inferInstance ?_)
  (first | refine Qr 12 ?_ | refine Qs 12 ?_ | refine Qt 12 ?_ | refine Qu 12 ?_ | fail)
  (first | refine Qr 13 ?_ | refine Qs 13 ?_ | refine Qt 13 ?_ | refine Qu 13 ?_ | fail)
  refine SXA.storeLast 14 rfl (by decide +kernel) rfl rfl inferInstance rfl rfl ?_
  refine Qv ?_
  repeat (first | refine Qa ?_ | refine Qb ?_ | refine Qc ?_ | refine Qd ?_ | refine Qe ?_ | refine Qf ?_ | refine Qg ?_ | refine Qh ?_ | refine Qi ?_ | refine Qj ?_ | refine Qk ?_ | refine Ql ?_ | refine Qm ?_ | refine Qn ?_ | refine Qo ?_ | refine Qp ?_ | refine Qq ?_ | fail)
  refine SX.round ?_
  repeat (first | refine Qa ?_ | refine Qb ?_ | refine Qc ?_ | refine Qd ?_ | refine Qe ?_ | refine Qf ?_ | refine Qg ?_ | refine Qh ?_ | refine Qi ?_ | refine Qj ?_ | refine Qk ?_ | refine Ql ?_ | refine Qm ?_ | refine Qn ?_ | refine Qo ?_ | refine Qp ?_ | refine Qq ?_ | fail)
  have e : (((xs ++ [x / 16777216 % 256]) ++ [x / 65536 % 256]) ++ [x / 256 % 256]) ++ [x % 256] = xs ++ be32 x := by
    simp [be32]
  rw [e] at hc3 ⊢
  refine SX.fin (M' := (wrC p A3 (xs ++ be32 x).length c3 :: wrX A3 c3 (xs ++ be32 x) :: R)) rfl Evals.nil ?_ inferInstance
  exact h A3 c3 hc3
theorem put64W_S (hat : At (some ⟨p, 0, none⟩) F (cellsR p [.slice A xs.length c] 139) R1) (hat2 : At A R1 (rowR (Kd.int .u8) 5 (.slice A xs.length c) xs) R) (h0 : 0 ≤ x) (h1 : x < 18446744073709551616) (hl : xs.length ≤ 225179981368000)
    (h : ∀ A' c', (xs ++ be64 x).length ≤ c' → K (.returned (.tuple #[])) (wrC p A' (xs ++ be64 x).length c' :: wrX A' c' (xs ++ be64 x) :: R)) : Fn (Try.prog) 91 [.pointer (some ⟨p, 0, none⟩), .int .u64 x, .int .i64 8] F K := by
  refine Fn.at_ hat ?_
  refine Fn.at_ (inferInstance : At A (.own (some ⟨p, 0, none⟩) (cellsR p [.slice A xs.length c] 139) :: R1) (rowR (Kd.int .u8) 5 (.slice A xs.length c) xs) (.own (some ⟨p, 0, none⟩) (cellsR p [.slice A xs.length c] 139) :: R)) ?_
  refine Fn.enter Try.call91 Try.func91 rfl rfl rfl ?_
  repeat (first | refine Qa ?_ | refine Qb ?_ | refine Qc ?_ | refine Qd ?_ | refine Qe ?_ | refine Qf ?_ | refine Qg ?_ | refine Qh ?_ | refine Qi ?_ | refine Qj ?_ | refine Qk ?_ | refine Ql ?_ | refine Qm ?_ | refine Qn ?_ | refine Qo ?_ | refine Qp ?_ | refine Qq ?_ | fail)
  refine SX.unroll 8 ?_
  repeat (first | refine Qa ?_ | refine Qb ?_ | refine Qc ?_ | refine Qd ?_ | refine Qe ?_ | refine Qf ?_ | refine Qg ?_ | refine Qh ?_ | refine Qi ?_ | refine Qj ?_ | refine Qk ?_ | refine Ql ?_ | refine Qm ?_ | refine Qn ?_ | refine Qo ?_ | refine Qp ?_ | refine Qq ?_ | fail)
  refine SX.same 2 (.int .i64 7) rfl rfl ?_
  refine SXA.begin (wrC p A (xs).length c :: R) [14] ?_
  (first | refine Qr 0 ?_ | refine Qs 0 ?_ | refine Qt 0 ?_ | refine Qu 0 ?_ | fail)
  (first | refine Qr 1 ?_ | refine Qs 1 ?_ | refine Qt 1 ?_ | refine Qu 1 ?_ | fail)
  (first | refine Qr 2 ?_ | refine Qs 2 ?_ | refine Qt 2 ?_ | refine Qu 2 ?_ | fail)
  (first | refine Qr 3 ?_ | refine Qs 3 ?_ | refine Qt 3 ?_ | refine Qu 3 ?_ | fail)
  (first | refine Qr 4 ?_ | refine Qs 4 ?_ | refine Qt 4 ?_ | refine Qu 4 ?_ | fail)
  (first | refine Qr 5 ?_ | refine Qs 5 ?_ | refine Qt 5 ?_ | refine Qu 5 ?_ | fail)
  (first | refine Qr 6 ?_ | refine Qs 6 ?_ | refine Qt 6 ?_ | refine Qu 6 ?_ | fail)
  (first | refine Qr 7 ?_ | refine Qs 7 ?_ | refine Qt 7 ?_ | refine Qu 7 ?_ | fail)
  (first | refine Qr 8 ?_ | refine Qs 8 ?_ | refine Qt 8 ?_ | refine Qu 8 ?_ | fail)
  (first | refine Qr 9 ?_ | refine Qs 9 ?_ | refine Qt 9 ?_ | refine Qu 9 ?_ | fail)
  refine Qw 10 ?_
  refine SXL.same 21 (.int .u8 (x / 72057594037927936 % 256)) rfl (by
    show Value.int .u8 (IntKind.u8.wrap (shrI .u64 x ((56 : Nat) : Int))) = _
    rw [shr_ediv 56 (by decide)]
    first | rfl | (simp; rfl)) ?_
  refine SXL.lit rfl rfl (fun g => ?_)
  refine SXL.litRow (Kd.int .u8) g [x / 72057594037927936 % 256] inferInstance rfl (fun _ => rfl) (by simp) ?_
  refine SXL.nil (SXA.next inferInstance ?_)
  refine Qw 11 ?_
  refine SXL.appendW (Kd.int .u8) rfl rfl inferInstance inferInstance rfl inferInstance (by simp; omega) rfl (fun A0 c0 hc0 => ?_)
  refine SXL.nil (SXA.next inferInstance ?_)
  (first | refine Qr 12 ?_ | refine Qs 12 ?_ | refine Qt 12 ?_ | refine Qu 12 ?_ | fail)
  (first | refine Qr 13 ?_ | refine Qs 13 ?_ | refine Qt 13 ?_ | refine Qu 13 ?_ | fail)
  refine SXA.storeLast 14 rfl (by decide +kernel) rfl rfl inferInstance rfl rfl ?_
  refine Qv ?_
  repeat (first | refine Qa ?_ | refine Qb ?_ | refine Qc ?_ | refine Qd ?_ | refine Qe ?_ | refine Qf ?_ | refine Qg ?_ | refine Qh ?_ | refine Qi ?_ | refine Qj ?_ | refine Qk ?_ | refine Ql ?_ | refine Qm ?_ | refine Qn ?_ | refine Qo ?_ | refine Qp ?_ | refine Qq ?_ | fail)
  refine SX.round ?_
  repeat (first | refine Qa ?_ | refine Qb ?_ | refine Qc ?_ | refine Qd ?_ | refine Qe ?_ | refine Qf ?_ | refine Qg ?_ | refine Qh ?_ | refine Qi ?_ | refine Qj ?_ | refine Qk ?_ | refine Ql ?_ | refine Qm ?_ | refine Qn ?_ | refine Qo ?_ | refine Qp ?_ | refine Qq ?_ | fail)
  refine SX.same 2 (.int .i64 6) rfl rfl ?_
  refine SXA.begin (wrC p A0 (xs ++ [x / 72057594037927936 % 256]).length c0 :: R) [14] ?_
  (first | refine Qr 0 ?_ | refine Qs 0 ?_ | refine Qt 0 ?_ | refine Qu 0 ?_ | fail)
  (first | refine Qr 1 ?_ | refine Qs 1 ?_ | refine Qt 1 ?_ | refine Qu 1 ?_ | fail)
  (first | refine Qr 2 ?_ | refine Qs 2 ?_ | refine Qt 2 ?_ | refine Qu 2 ?_ | fail)
  (first | refine Qr 3 ?_ | refine Qs 3 ?_ | refine Qt 3 ?_ | refine Qu 3 ?_ | fail)
  (first | refine Qr 4 ?_ | refine Qs 4 ?_ | refine Qt 4 ?_ | refine Qu 4 ?_ | fail)
  (first | refine Qr 5 ?_ | refine Qs 5 ?_ | refine Qt 5 ?_ | refine Qu 5 ?_ | fail)
  (first | refine Qr 6 ?_ | refine Qs 6 ?_ | refine Qt 6 ?_ | refine Qu 6 ?_ | fail)
  (first | refine Qr 7 ?_ | refine Qs 7 ?_ | refine Qt 7 ?_ | refine Qu 7 ?_ | fail)
  (first | refine Qr 8 ?_ | refine Qs 8 ?_ | refine Qt 8 ?_ | refine Qu 8 ?_ | fail)
  (first | refine Qr 9 ?_ | refine Qs 9 ?_ | refine Qt 9 ?_ | refine Qu 9 ?_ | fail)
  refine Qw 10 ?_
  refine SXL.same 21 (.int .u8 (x / 281474976710656 % 256)) rfl (by
    show Value.int .u8 (IntKind.u8.wrap (shrI .u64 x ((48 : Nat) : Int))) = _
    rw [shr_ediv 48 (by decide)]
    first | rfl | (simp; rfl)) ?_
  refine SXL.lit rfl rfl (fun g => ?_)
  refine SXL.litRow (Kd.int .u8) g [x / 281474976710656 % 256] inferInstance rfl (fun _ => rfl) (by simp) ?_
  refine SXL.nil (SXA.next inferInstance ?_)
  refine Qw 11 ?_
  refine SXL.appendW (Kd.int .u8) rfl rfl inferInstance inferInstance rfl inferInstance (by simp; omega) rfl (fun A1 c1 hc1 => ?_)
  refine SXL.nil (SXA.next inferInstance ?_)
  (first | refine Qr 12 ?_ | refine Qs 12 ?_ | refine Qt 12 ?_ | refine Qu 12 ?_ | fail)
  (first | refine Qr 13 ?_ | refine Qs 13 ?_ | refine Qt 13 ?_ | refine Qu 13 ?_ | fail)
  refine SXA.storeLast 14 rfl (by decide +kernel) rfl rfl inferInstance rfl rfl ?_
  refine Qv ?_
  repeat (first | refine Qa ?_ | refine Qb ?_ | refine Qc ?_ | refine Qd ?_ | refine Qe ?_ | refine Qf ?_ | refine Qg ?_ | refine Qh ?_ | refine Qi ?_ | refine Qj ?_ | refine Qk ?_ | refine Ql ?_ | refine Qm ?_ | refine Qn ?_ | refine Qo ?_ | refine Qp ?_ | refine Qq ?_ | fail)
  refine SX.round ?_
  repeat (first | refine Qa ?_ | refine Qb ?_ | refine Qc ?_ | refine Qd ?_ | refine Qe ?_ | refine Qf ?_ | refine Qg ?_ | refine Qh ?_ | refine Qi ?_ | refine Qj ?_ | refine Qk ?_ | refine Ql ?_ | refine Qm ?_ | refine Qn ?_ | refine Qo ?_ | refine Qp ?_ | refine Qq ?_ | fail)
  refine SX.same 2 (.int .i64 5) rfl rfl ?_
  refine SXA.begin (wrC p A1 ((xs ++ [x / 72057594037927936 % 256]) ++ [x / 281474976710656 % 256]).length c1 :: R) [14] ?_
  (first | refine Qr 0 ?_ | refine Qs 0 ?_ | refine Qt 0 ?_ | refine Qu 0 ?_ | fail)
  (first | refine Qr 1 ?_ | refine Qs 1 ?_ | refine Qt 1 ?_ | refine Qu 1 ?_ | fail)
  (first | refine Qr 2 ?_ | refine Qs 2 ?_ | refine Qt 2 ?_ | refine Qu 2 ?_ | fail)
  (first | refine Qr 3 ?_ | refine Qs 3 ?_ | refine Qt 3 ?_ | refine Qu 3 ?_ | fail)
  (first | refine Qr 4 ?_ | refine Qs 4 ?_ | refine Qt 4 ?_ | refine Qu 4 ?_ | fail)
  (first | refine Qr 5 ?_ | refine Qs 5 ?_ | refine Qt 5 ?_ | refine Qu 5 ?_ | fail)
  (first | refine Qr 6 ?_ | refine Qs 6 ?_ | refine Qt 6 ?_ | refine Qu 6 ?_ | fail)
  (first | refine Qr 7 ?_ | refine Qs 7 ?_ | refine Qt 7 ?_ | refine Qu 7 ?_ | fail)
  (first | refine Qr 8 ?_ | refine Qs 8 ?_ | refine Qt 8 ?_ | refine Qu 8 ?_ | fail)
  (first | refine Qr 9 ?_ | refine Qs 9 ?_ | refine Qt 9 ?_ | refine Qu 9 ?_ | fail)
  refine Qw 10 ?_
  refine SXL.same 21 (.int .u8 (x / 1099511627776 % 256)) rfl (by
    show Value.int .u8 (IntKind.u8.wrap (shrI .u64 x ((40 : Nat) : Int))) = _
    rw [shr_ediv 40 (by decide)]
    first | rfl | (simp; rfl)) ?_
  refine SXL.lit rfl rfl (fun g => ?_)
  refine SXL.litRow (Kd.int .u8) g [x / 1099511627776 % 256] inferInstance rfl (fun _ => rfl) (by simp) ?_
  refine SXL.nil (SXA.next inferInstance ?_)
  refine Qw 11 ?_
  refine SXL.appendW (Kd.int .u8) rfl rfl inferInstance inferInstance rfl inferInstance (by simp; omega) rfl (fun A2 c2 hc2 => ?_)
  refine SXL.nil (SXA.next inferInstance ?_)
  (first | refine Qr 12 ?_ | refine Qs 12 ?_ | refine Qt 12 ?_ | refine Qu 12 ?_ | fail)
  (first | refine Qr 13 ?_ | refine Qs 13 ?_ | refine Qt 13 ?_ | refine Qu 13 ?_ | fail)
  refine SXA.storeLast 14 rfl (by decide +kernel) rfl rfl inferInstance rfl rfl ?_
  refine Qv ?_
  repeat (first | refine Qa ?_ | refine Qb ?_ | refine Qc ?_ | refine Qd ?_ | refine Qe ?_ | refine Qf ?_ | refine Qg ?_ | refine Qh ?_ | refine Qi ?_ | refine Qj ?_ | refine Qk ?_ | refine Ql ?_ | refine Qm ?_ | refine Qn ?_ | refine Qo ?_ | refine Qp ?_ | refine Qq ?_ | fail)
  refine SX.round ?_
  repeat (first | refine Qa ?_ | refine Qb ?_ | refine Qc ?_ | refine Qd ?_ | refine Qe ?_ | refine Qf ?_ | refine Qg ?_ | refine Qh ?_ | refine Qi ?_ | refine Qj ?_ | refine Qk ?_ | refine Ql ?_ | refine Qm ?_ | refine Qn ?_ | refine Qo ?_ | refine Qp ?_ | refine Qq ?_ | fail)
  refine SX.same 2 (.int .i64 4) rfl rfl ?_
  refine SXA.begin (wrC p A2 (((xs ++ [x / 72057594037927936 % 256]) ++ [x / 281474976710656 % 256]) ++ [x / 1099511627776 % 256]).length c2 :: R) [14] ?_
  (first | refine Qr 0 ?_ | refine Qs 0 ?_ | refine Qt 0 ?_ | refine Qu 0 ?_ | fail)
  (first | refine Qr 1 ?_ | refine Qs 1 ?_ | refine Qt 1 ?_ | refine Qu 1 ?_ | fail)
  (first | refine Qr 2 ?_ | refine Qs 2 ?_ | refine Qt 2 ?_ | refine Qu 2 ?_ | fail)
  (first | refine Qr 3 ?_ | refine Qs 3 ?_ | refine Qt 3 ?_ | refine Qu 3 ?_ | fail)
  (first | refine Qr 4 ?_ | refine Qs 4 ?_ | refine Qt 4 ?_ | refine Qu 4 ?_ | fail)
  (first | refine Qr 5 ?_ | refine Qs 5 ?_ | refine Qt 5 ?_ | refine Qu 5 ?_ | fail)
  (first | refine Qr 6 ?_ | refine Qs 6 ?_ | refine Qt 6 ?_ | refine Qu 6 ?_ | fail)
  (first | refine Qr 7 ?_ | refine Qs 7 ?_ | refine Qt 7 ?_ | refine Qu 7 ?_ | fail)
  (first | refine Qr 8 ?_ | refine Qs 8 ?_ | refine Qt 8 ?_ | refine Qu 8 ?_ | fail)
  (first | refine Qr 9 ?_ | refine Qs 9 ?_ | refine Qt 9 ?_ | refine Qu 9 ?_ | fail)
  refine Qw 10 ?_
  refine SXL.same 21 (.int .u8 (x / 4294967296 % 256)) rfl (by
    show Value.int .u8 (IntKind.u8.wrap (shrI .u64 x ((32 : Nat) : Int))) = _
    rw [shr_ediv 32 (by decide)]
    first | rfl | (simp; rfl)) ?_
  refine SXL.lit rfl rfl (fun g => ?_)
  refine SXL.litRow (Kd.int .u8) g [x / 4294967296 % 256] inferInstance rfl (fun _ => rfl) (by simp) ?_
  refine SXL.nil (SXA.next inferInstance ?_)
  refine Qw 11 ?_
  refine SXL.appendW (Kd.int .u8) rfl rfl inferInstance inferInstance rfl inferInstance (by simp; omega) rfl (fun A3 c3 hc3 => ?_)
  refine SXL.nil (SXA.next inferInstance ?_)
  (first | refine Qr 12 ?_ | refine Qs 12 ?_ | refine Qt 12 ?_ | refine Qu 12 ?_ | fail)
  (first | refine Qr 13 ?_ | refine Qs 13 ?_ | refine Qt 13 ?_ | refine Qu 13 ?_ | fail)
  refine SXA.storeLast 14 rfl (by decide +kernel) rfl rfl inferInstance rfl rfl ?_
  refine Qv ?_
  repeat (first | refine Qa ?_ | refine Qb ?_ | refine Qc ?_ | refine Qd ?_ | refine Qe ?_ | refine Qf ?_ | refine Qg ?_ | refine Qh ?_ | refine Qi ?_ | refine Qj ?_ | refine Qk ?_ | refine Ql ?_ | refine Qm ?_ | refine Qn ?_ | refine Qo ?_ | refine Qp ?_ | refine Qq ?_ | fail)
  refine SX.round ?_
  repeat (first | refine Qa ?_ | refine Qb ?_ | refine Qc ?_ | refine Qd ?_ | refine Qe ?_ | refine Qf ?_ | refine Qg ?_ | refine Qh ?_ | refine Qi ?_ | refine Qj ?_ | refine Qk ?_ | refine Ql ?_ | refine Qm ?_ | refine Qn ?_ | refine Qo ?_ | refine Qp ?_ | refine Qq ?_ | fail)
  refine SX.same 2 (.int .i64 3) rfl rfl ?_
  refine SXA.begin (wrC p A3 ((((xs ++ [x / 72057594037927936 % 256]) ++ [x / 281474976710656 % 256]) ++ [x / 1099511627776 % 256]) ++ [x / 4294967296 % 256]).length c3 :: R) [14] ?_
  (first | refine Qr 0 ?_ | refine Qs 0 ?_ | refine Qt 0 ?_ | refine Qu 0 ?_ | fail)
  (first | refine Qr 1 ?_ | refine Qs 1 ?_ | refine Qt 1 ?_ | refine Qu 1 ?_ | fail)
  (first | refine Qr 2 ?_ | refine Qs 2 ?_ | refine Qt 2 ?_ | refine Qu 2 ?_ | fail)
  (first | refine Qr 3 ?_ | refine Qs 3 ?_ | refine Qt 3 ?_ | refine Qu 3 ?_ | fail)
  (first | refine Qr 4 ?_ | refine Qs 4 ?_ | refine Qt 4 ?_ | refine Qu 4 ?_ | fail)
  (first | refine Qr 5 ?_ | refine Qs 5 ?_ | refine Qt 5 ?_ | refine Qu 5 ?_ | fail)
  (first | refine Qr 6 ?_ | refine Qs 6 ?_ | refine Qt 6 ?_ | refine Qu 6 ?_ | fail)
  (first | refine Qr 7 ?_ | refine Qs 7 ?_ | refine Qt 7 ?_ | refine Qu 7 ?_ | fail)
  (first | refine Qr 8 ?_ | refine Qs 8 ?_ | refine Qt 8 ?_ | refine Qu 8 ?_ | fail)
  (first | refine Qr 9 ?_ | refine Qs 9 ?_ | refine Qt 9 ?_ | refine Qu 9 ?_ | fail)
  refine Qw 10 ?_
  refine SXL.same 21 (.int .u8 (x / 16777216 % 256)) rfl (by
    show Value.int .u8 (IntKind.u8.wrap (shrI .u64 x ((24 : Nat) : Int))) = _
    rw [shr_ediv 24 (by decide)]
    first | rfl | (simp; rfl)) ?_
  refine SXL.lit rfl rfl (fun g => ?_)
  refine SXL.litRow (Kd.int .u8) g [x / 16777216 % 256] inferInstance rfl (fun _ => rfl) (by simp) ?_
  refine SXL.nil (SXA.next inferInstance ?_)
  refine Qw 11 ?_
  refine SXL.appendW (Kd.int .u8) rfl rfl inferInstance inferInstance rfl inferInstance (by simp; omega) rfl (fun A4 c4 hc4 => ?_)
  refine SXL.nil (SXA.next inferInstance ?_)
  (first | refine Qr 12 ?_ | refine Qs 12 ?_ | refine Qt 12 ?_ | refine Qu 12 ?_ | fail)
  (first | refine Qr 13 ?_ | refine Qs 13 ?_ | refine Qt 13 ?_ | refine Qu 13 ?_ | fail)
  refine SXA.storeLast 14 rfl (by decide +kernel) rfl rfl inferInstance rfl rfl ?_
  refine Qv ?_
  repeat (first | refine Qa ?_ | refine Qb ?_ | refine Qc ?_ | refine Qd ?_ | refine Qe ?_ | refine Qf ?_ | refine Qg ?_ | refine Qh ?_ | refine Qi ?_ | refine Qj ?_ | refine Qk ?_ | refine Ql ?_ | refine Qm ?_ | refine Qn ?_ | refine Qo ?_ | refine Qp ?_ | refine Qq ?_ | fail)
  refine SX.round ?_
  repeat (first | refine Qa ?_ | refine Qb ?_ | refine Qc ?_ | refine Qd ?_ | refine Qe ?_ | refine Qf ?_ | refine Qg ?_ | refine Qh ?_ | refine Qi ?_ | refine Qj ?_ | refine Qk ?_ | refine Ql ?_ | refine Qm ?_ | refine Qn ?_ | refine Qo ?_ | refine Qp ?_ | refine Qq ?_ | fail)
  refine SX.same 2 (.int .i64 2) rfl rfl ?_
  refine SXA.begin (wrC p A4 (((((xs ++ [x / 72057594037927936 % 256]) ++ [x / 281474976710656 % 256]) ++ [x / 1099511627776 % 256]) ++ [x / 4294967296 % 256]) ++ [x / 16777216 % 256]).length c4 :: R) [14] ?_
  (first | refine Qr 0 ?_ | refine Qs 0 ?_ | refine Qt 0 ?_ | refine Qu 0 ?_ | fail)
  (first | refine Qr 1 ?_ | refine Qs 1 ?_ | refine Qt 1 ?_ | refine Qu 1 ?_ | fail)
  (first | refine Qr 2 ?_ | refine Qs 2 ?_ | refine Qt 2 ?_ | refine Qu 2 ?_ | fail)
  (first | refine Qr 3 ?_ | refine Qs 3 ?_ | refine Qt 3 ?_ | refine Qu 3 ?_ | fail)
  (first | refine Qr 4 ?_ | refine Qs 4 ?_ | refine Qt 4 ?_ | refine Qu 4 ?_ | fail)
  (first | refine Qr 5 ?_ | refine Qs 5 ?_ | refine Qt 5 ?_ | refine Qu 5 ?_ | fail)
  (first | refine Qr 6 ?_ | refine Qs 6 ?_ | refine Qt 6 ?_ | refine Qu 6 ?_ | fail)
  (first | refine Qr 7 ?_ | refine Qs 7 ?_ | refine Qt 7 ?_ | refine Qu 7 ?_ | fail)
  (first | refine Qr 8 ?_ | refine Qs 8 ?_ | refine Qt 8 ?_ | refine Qu 8 ?_ | fail)
  (first | refine Qr 9 ?_ | refine Qs 9 ?_ | refine Qt 9 ?_ | refine Qu 9 ?_ | fail)
  refine Qw 10 ?_
  refine SXL.same 21 (.int .u8 (x / 65536 % 256)) rfl (by
    show Value.int .u8 (IntKind.u8.wrap (shrI .u64 x ((16 : Nat) : Int))) = _
    rw [shr_ediv 16 (by decide)]
    first | rfl | (simp; rfl)) ?_
  refine SXL.lit rfl rfl (fun g => ?_)
  refine SXL.litRow (Kd.int .u8) g [x / 65536 % 256] inferInstance rfl (fun _ => rfl) (by simp) ?_
  refine SXL.nil (SXA.next inferInstance ?_)
  refine Qw 11 ?_
  refine SXL.appendW (Kd.int .u8) rfl rfl inferInstance inferInstance rfl inferInstance (by simp; omega) rfl (fun A5 c5 hc5 => ?_)
  refine SXL.nil (SXA.next inferInstance ?_)
  (first | refine Qr 12 ?_ | refine Qs 12 ?_ | refine Qt 12 ?_ | refine Qu 12 ?_ | fail)
  (first | refine Qr 13 ?_ | refine Qs 13 ?_ | refine Qt 13 ?_ | refine Qu 13 ?_ | fail)
  refine SXA.storeLast 14 rfl (by decide +kernel) rfl rfl inferInstance rfl rfl ?_
  refine Qv ?_
  repeat (first | refine Qa ?_ | refine Qb ?_ | refine Qc ?_ | refine Qd ?_ | refine Qe ?_ | refine Qf ?_ | refine Qg ?_ | refine Qh ?_ | refine Qi ?_ | refine Qj ?_ | refine Qk ?_ | refine Ql ?_ | refine Qm ?_ | refine Qn ?_ | refine Qo ?_ | refine Qp ?_ | refine Qq ?_ | fail)
  refine SX.round ?_
  repeat (first | refine Qa ?_ | refine Qb ?_ | refine Qc ?_ | refine Qd ?_ | refine Qe ?_ | refine Qf ?_ | refine Qg ?_ | refine Qh ?_ | refine Qi ?_ | refine Qj ?_ | refine Qk ?_ | refine Ql ?_ | refine Qm ?_ | refine Qn ?_ | refine Qo ?_ | refine Qp ?_ | refine Qq ?_ | fail)
  refine SX.same 2 (.int .i64 1) rfl rfl ?_
  refine SXA.begin (wrC p A5 ((((((xs ++ [x / 72057594037927936 % 256]) ++ [x / 281474976710656 % 256]) ++ [x / 1099511627776 % 256]) ++ [x / 4294967296 % 256]) ++ [x / 16777216 % 256]) ++ [x / 65536 % 256]).length c5 :: R) [14] ?_
  (first | refine Qr 0 ?_ | refine Qs 0 ?_ | refine Qt 0 ?_ | refine Qu 0 ?_ | fail)
  (first | refine Qr 1 ?_ | refine Qs 1 ?_ | refine Qt 1 ?_ | refine Qu 1 ?_ | fail)
  (first | refine Qr 2 ?_ | refine Qs 2 ?_ | refine Qt 2 ?_ | refine Qu 2 ?_ | fail)
  (first | refine Qr 3 ?_ | refine Qs 3 ?_ | refine Qt 3 ?_ | refine Qu 3 ?_ | fail)
  (first | refine Qr 4 ?_ | refine Qs 4 ?_ | refine Qt 4 ?_ | refine Qu 4 ?_ | fail)
  (first | refine Qr 5 ?_ | refine Qs 5 ?_ | refine Qt 5 ?_ | refine Qu 5 ?_ | fail)
  (first | refine Qr 6 ?_ | refine Qs 6 ?_ | refine Qt 6 ?_ | refine Qu 6 ?_ | fail)
  (first | refine Qr 7 ?_ | refine Qs 7 ?_ | refine Qt 7 ?_ | refine Qu 7 ?_ | fail)
  (first | refine Qr 8 ?_ | refine Qs 8 ?_ | refine Qt 8 ?_ | refine Qu 8 ?_ | fail)
  (first | refine Qr 9 ?_ | refine Qs 9 ?_ | refine Qt 9 ?_ | refine Qu 9 ?_ | fail)
  refine Qw 10 ?_
  refine SXL.same 21 (.int .u8 (x / 256 % 256)) rfl (by
    show Value.int .u8 (IntKind.u8.wrap (shrI .u64 x ((8 : Nat) : Int))) = _
    rw [shr_ediv 8 (by decide)]
    first | rfl | (simp; rfl)) ?_
  refine SXL.lit rfl rfl (fun g => ?_)
  refine SXL.litRow (Kd.int .u8) g [x / 256 % 256] inferInstance rfl (fun _ => rfl) (by simp) ?_
  refine SXL.nil (SXA.next inferInstance ?_)
  refine Qw 11 ?_
  refine SXL.appendW (Kd.int .u8) rfl rfl inferInstance inferInstance rfl inferInstance (by simp; omega) rfl (fun A6 c6 hc6 => ?_)
  refine SXL.nil (SXA.next inferInstance ?_)
  (first | refine Qr 12 ?_ | refine Qs 12 ?_ | refine Qt 12 ?_ | refine Qu 12 ?_ | fail)
  (first | refine Qr 13 ?_ | refine Qs 13 ?_ | refine Qt 13 ?_ | refine Qu 13 ?_ | fail)
  refine SXA.storeLast 14 rfl (by decide +kernel) rfl rfl inferInstance rfl rfl ?_
  refine Qv ?_
  repeat (first | refine Qa ?_ | refine Qb ?_ | refine Qc ?_ | refine Qd ?_ | refine Qe ?_ | refine Qf ?_ | refine Qg ?_ | refine Qh ?_ | refine Qi ?_ | refine Qj ?_ | refine Qk ?_ | refine Ql ?_ | refine Qm ?_ | refine Qn ?_ | refine Qo ?_ | refine Qp ?_ | refine Qq ?_ | fail)
  refine SX.round ?_
  repeat (first | refine Qa ?_ | refine Qb ?_ | refine Qc ?_ | refine Qd ?_ | refine Qe ?_ | refine Qf ?_ | refine Qg ?_ | refine Qh ?_ | refine Qi ?_ | refine Qj ?_ | refine Qk ?_ | refine Ql ?_ | refine Qm ?_ | refine Qn ?_ | refine Qo ?_ | refine Qp ?_ | refine Qq ?_ | fail)
  refine SX.same 2 (.int .i64 0) rfl rfl ?_
  refine SXA.begin (wrC p A6 (((((((xs ++ [x / 72057594037927936 % 256]) ++ [x / 281474976710656 % 256]) ++ [x / 1099511627776 % 256]) ++ [x / 4294967296 % 256]) ++ [x / 16777216 % 256]) ++ [x / 65536 % 256]) ++ [x / 256 % 256]).length c6 :: R) [14] ?_
  (first | refine Qr 0 ?_ | refine Qs 0 ?_ | refine Qt 0 ?_ | refine Qu 0 ?_ | fail)
  (first | refine Qr 1 ?_ | refine Qs 1 ?_ | refine Qt 1 ?_ | refine Qu 1 ?_ | fail)
  (first | refine Qr 2 ?_ | refine Qs 2 ?_ | refine Qt 2 ?_ | refine Qu 2 ?_ | fail)
  (first | refine Qr 3 ?_ | refine Qs 3 ?_ | refine Qt 3 ?_ | refine Qu 3 ?_ | fail)
  (first | refine Qr 4 ?_ | refine Qs 4 ?_ | refine Qt 4 ?_ | refine Qu 4 ?_ | fail)
  (first | refine Qr 5 ?_ | refine Qs 5 ?_ | refine Qt 5 ?_ | refine Qu 5 ?_ | fail)
  (first | refine Qr 6 ?_ | refine Qs 6 ?_ | refine Qt 6 ?_ | refine Qu 6 ?_ | fail)
  (first | refine Qr 7 ?_ | refine Qs 7 ?_ | refine Qt 7 ?_ | refine Qu 7 ?_ | fail)
  (first | refine Qr 8 ?_ | refine Qs 8 ?_ | refine Qt 8 ?_ | refine Qu 8 ?_ | fail)
  (first | refine Qr 9 ?_ | refine Qs 9 ?_ | refine Qt 9 ?_ | refine Qu 9 ?_ | fail)
  refine Qw 10 ?_
  refine SXL.same 21 (.int .u8 (x % 256)) rfl (by
    show Value.int .u8 (IntKind.u8.wrap (shrI .u64 x ((0 : Nat) : Int))) = _
    rw [shr_ediv 0 (by decide)]
    first | rfl | (simp; rfl)) ?_
  refine SXL.lit rfl rfl (fun g => ?_)
  refine SXL.litRow (Kd.int .u8) g [x % 256] inferInstance rfl (fun _ => rfl) (by simp) ?_
  refine SXL.nil (SXA.next inferInstance ?_)
  refine Qw 11 ?_
  refine SXL.appendW (Kd.int .u8) rfl rfl inferInstance inferInstance rfl inferInstance (by simp; omega) rfl (fun A7 c7 hc7 => ?_)
  refine SXL.nil (SXA.next inferInstance ?_)
  (first | refine Qr 12 ?_ | refine Qs 12 ?_ | refine Qt 12 ?_ | refine Qu 12 ?_ | fail)
  (first | refine Qr 13 ?_ | refine Qs 13 ?_ | refine Qt 13 ?_ | refine Qu 13 ?_ | fail)
  refine SXA.storeLast 14 rfl (by decide +kernel) rfl rfl inferInstance rfl rfl ?_
  refine Qv ?_
  repeat (first | refine Qa ?_ | refine Qb ?_ | refine Qc ?_ | refine Qd ?_ | refine Qe ?_ | refine Qf ?_ | refine Qg ?_ | refine Qh ?_ | refine Qi ?_ | refine Qj ?_ | refine Qk ?_ | refine Ql ?_ | refine Qm ?_ | refine Qn ?_ | refine Qo ?_ | refine Qp ?_ | refine Qq ?_ | fail)
  refine SX.round ?_
  repeat (first | refine Qa ?_ | refine Qb ?_ | refine Qc ?_ | refine Qd ?_ | refine Qe ?_ | refine Qf ?_ | refine Qg ?_ | refine Qh ?_ | refine Qi ?_ | refine Qj ?_ | refine Qk ?_ | refine Ql ?_ | refine Qm ?_ | refine Qn ?_ | refine Qo ?_ | refine Qp ?_ | refine Qq ?_ | fail)
  have e8 : be64 x = [x / 72057594037927936 % 256, x / 281474976710656 % 256, x / 1099511627776 % 256, x / 4294967296 % 256, x / 16777216 % 256, x / 65536 % 256, x / 256 % 256, x % 256] := by
    rw [← beR_8 x h0 h1]
    simp [beR]
  have e : (((((((xs ++ [x / 72057594037927936 % 256]) ++ [x / 281474976710656 % 256]) ++ [x / 1099511627776 % 256]) ++ [x / 4294967296 % 256]) ++ [x / 16777216 % 256]) ++ [x / 65536 % 256]) ++ [x / 256 % 256]) ++ [x % 256] = xs ++ be64 x := by
    rw [e8]
    simp
  rw [e] at hc7 ⊢
  refine SX.fin (M' := (wrC p A7 (xs ++ be64 x).length c7 :: wrX A7 c7 (xs ++ be64 x) :: R)) rfl Evals.nil ?_ inferInstance
  exact h A7 c7 hc7
theorem U32W_S (hat : At (some ⟨p, 0, none⟩) F (cellsR p [.slice A xs.length c] 139) R1) (hat2 : At A R1 (rowR (Kd.int .u8) 5 (.slice A xs.length c) xs) R) (h0 : 0 ≤ x) (h1 : x < 4294967296) (hl : xs.length ≤ 225179981368000)
    (h : ∀ A' c', (xs ++ be32 x).length ≤ c' → K (.returned (.tuple #[])) (wrC p A' (xs ++ be32 x).length c' :: wrX A' c' (xs ++ be32 x) :: R)) : Fn (Try.prog) 57 [.pointer (some ⟨p, 0, none⟩), .int .u32 x] F K := by
  refine Fn.at_ hat ?_
  refine Fn.at_ (inferInstance : At A (.own (some ⟨p, 0, none⟩) (cellsR p [.slice A xs.length c] 139) :: R1) (rowR (Kd.int .u8) 5 (.slice A xs.length c) xs) (.own (some ⟨p, 0, none⟩) (cellsR p [.slice A xs.length c] 139) :: R)) ?_
  refine Fn.enter Try.call57 Try.func57 rfl rfl rfl ?_
  repeat (first | refine Qa ?_ | refine Qb ?_ | refine Qc ?_ | refine Qd ?_ | refine Qe ?_ | refine Qf ?_ | refine Qg ?_ | refine Qh ?_ | refine Qi ?_ | refine Qj ?_ | refine Qk ?_ | refine Ql ?_ | refine Qm ?_ | refine Qn ?_ | refine Qo ?_ | refine Qp ?_ | refine Qq ?_ | fail)
  refine SXL.call rfl rfl rfl ?_
  refine (put32W_S (A := A) (xs := xs) (c := c) inferInstance inferInstance h0 h1 hl (fun A' c' hc' => callK.ret ?_))
  repeat (first | refine Qa ?_ | refine Qb ?_ | refine Qc ?_ | refine Qd ?_ | refine Qe ?_ | refine Qf ?_ | refine Qg ?_ | refine Qh ?_ | refine Qi ?_ | refine Qj ?_ | refine Qk ?_ | refine Ql ?_ | refine Qm ?_ | refine Qn ?_ | refine Qo ?_ | refine Qp ?_ | refine Qq ?_ | fail)
  refine SX.fin (M' := (wrC p A' (xs ++ be32 x).length c' :: wrX A' c' (xs ++ be32 x) :: R)) rfl Evals.nil ?_ inferInstance
  exact h A' c' hc'
theorem U64W_S (hat : At (some ⟨p, 0, none⟩) F (cellsR p [.slice A xs.length c] 139) R1) (hat2 : At A R1 (rowR (Kd.int .u8) 5 (.slice A xs.length c) xs) R) (h0 : 0 ≤ x) (h1 : x < 18446744073709551616) (hl : xs.length ≤ 225179981368000)
    (h : ∀ A' c', (xs ++ be64 x).length ≤ c' → K (.returned (.tuple #[])) (wrC p A' (xs ++ be64 x).length c' :: wrX A' c' (xs ++ be64 x) :: R)) : Fn (Try.prog) 56 [.pointer (some ⟨p, 0, none⟩), .int .u64 x] F K := by
  refine Fn.at_ hat ?_
  refine Fn.at_ (inferInstance : At A (.own (some ⟨p, 0, none⟩) (cellsR p [.slice A xs.length c] 139) :: R1) (rowR (Kd.int .u8) 5 (.slice A xs.length c) xs) (.own (some ⟨p, 0, none⟩) (cellsR p [.slice A xs.length c] 139) :: R)) ?_
  refine Fn.enter Try.call56 Try.func56 rfl rfl rfl ?_
  repeat (first | refine Qa ?_ | refine Qb ?_ | refine Qc ?_ | refine Qd ?_ | refine Qe ?_ | refine Qf ?_ | refine Qg ?_ | refine Qh ?_ | refine Qi ?_ | refine Qj ?_ | refine Qk ?_ | refine Ql ?_ | refine Qm ?_ | refine Qn ?_ | refine Qo ?_ | refine Qp ?_ | refine Qq ?_ | fail)
  refine SXL.call rfl rfl rfl ?_
  refine (put64W_S (A := A) (xs := xs) (c := c) inferInstance inferInstance h0 h1 hl (fun A' c' hc' => callK.ret ?_))
  repeat (first | refine Qa ?_ | refine Qb ?_ | refine Qc ?_ | refine Qd ?_ | refine Qe ?_ | refine Qf ?_ | refine Qg ?_ | refine Qh ?_ | refine Qi ?_ | refine Qj ?_ | refine Qk ?_ | refine Ql ?_ | refine Qm ?_ | refine Qn ?_ | refine Qo ?_ | refine Qp ?_ | refine Qq ?_ | fail)
  refine SX.fin (M' := (wrC p A' (xs ++ be64 x).length c' :: wrX A' c' (xs ++ be64 x) :: R)) rfl Evals.nil ?_ inferInstance
  exact h A' c' hc'
theorem zeroB {w : World} {z : Value} (hz : ((Try.prog).info? 5).map (fun i => (i.zero, i.size, i.bytes)) = some (some z, (Kd.int .u8).sz, 1)) : (Kd.int .u8).M w 0 (fun _ => False) 0 z.cells.toList := by
  have h9 := infoB.symm.trans hz
  simp only [Option.some.injEq, Prod.mk.injEq] at h9
  rw [← h9.1]
  rfl
theorem OpaqueW_S {l : List Int} (hat : At (some ⟨p, 0, none⟩) F (cellsR p [.slice A xs.length c] 139) R1) (hat2 : At A R1 (rowR (Kd.int .u8) 5 (.slice A xs.length c) xs) R) (hs : Ro (Kd.int .u8) B R l) (hcc : l.length ≤ cc) (hl : xs.length ≤ 225179981367000) (hll : l.length ≤ 300)
    (h : ∀ A' c', (xs ++ opq l).length ≤ c' → K (.returned (.tuple #[])) (wrC p A' (xs ++ opq l).length c' :: wrX A' c' (xs ++ opq l) :: R)) : Fn (Try.prog) 58 [.pointer (some ⟨p, 0, none⟩), .slice B l.length cc] F K := by
  refine Fn.at_ hat ?_
  refine Fn.at_ (inferInstance : At A (.own (some ⟨p, 0, none⟩) (cellsR p [.slice A xs.length c] 139) :: R1) (rowR (Kd.int .u8) 5 (.slice A xs.length c) xs) (.own (some ⟨p, 0, none⟩) (cellsR p [.slice A xs.length c] 139) :: R)) ?_
  refine Fn.enter Try.call58 Try.func58 rfl rfl rfl ?_
  repeat (first | refine Qa ?_ | refine Qb ?_ | refine Qc ?_ | refine Qd ?_ | refine Qe ?_ | refine Qf ?_ | refine Qg ?_ | refine Qh ?_ | refine Qi ?_ | refine Qj ?_ | refine Qk ?_ | refine Ql ?_ | refine Qm ?_ | refine Qn ?_ | refine Qo ?_ | refine Qp ?_ | refine Qq ?_ | fail)
  have hwl : IntKind.u32.wrap (l.length : Int) = (l.length : Int) := IntWalk.u32_in _ (by omega)
  rw [hwl]
  refine SXL.call rfl rfl rfl ?_
  refine (U32W_S (A := A) (xs := xs) (c := c) inferInstance inferInstance (by omega) (by omega) (by omega) (fun A1 c1 hc1 => callK.ret ?_))
  repeat (first | refine Qa ?_ | refine Qb ?_ | refine Qc ?_ | refine Qd ?_ | refine Qe ?_ | refine Qf ?_ | refine Qg ?_ | refine Qh ?_ | refine Qi ?_ | refine Qj ?_ | refine Qk ?_ | refine Ql ?_ | refine Qm ?_ | refine Qn ?_ | refine Qo ?_ | refine Qp ?_ | refine Qq ?_ | fail)
  have hb4 : (be32 (l.length : Int)).length = 4 := rfl
  refine SXL.appendW (Kd.int .u8) rfl rfl inferInstance inferInstance rfl inferInstance (by simp only [List.length_append, hb4]; omega) rfl (fun A2 c2 hc2 => ?_)
  repeat (first | refine Qa ?_ | refine Qb ?_ | refine Qc ?_ | refine Qd ?_ | refine Qe ?_ | refine Qf ?_ | refine Qg ?_ | refine Qh ?_ | refine Qi ?_ | refine Qj ?_ | refine Qk ?_ | refine Ql ?_ | refine Qm ?_ | refine Qn ?_ | refine Qo ?_ | refine Qp ?_ | refine Qq ?_ | fail)
  refine SXL.call rfl rfl rfl ?_
  refine (fill_S l.length (by omega) (callK.ret ?_))
  repeat (first | refine Qa ?_ | refine Qb ?_ | refine Qc ?_ | refine Qd ?_ | refine Qe ?_ | refine Qf ?_ | refine Qg ?_ | refine Qh ?_ | refine Qi ?_ | refine Qj ?_ | refine Qk ?_ | refine Ql ?_ | refine Qm ?_ | refine Qn ?_ | refine Qo ?_ | refine Qp ?_ | refine Qq ?_ | fail)
  refine SXL.appendZ (Kd.int .u8) 0 rfl rfl inferInstance inferInstance Try.underlying3 (fun w z hz => zeroB hz) (by simp only [List.length_append, hb4]; omega) rfl (fun A3 c3 hc3 => ?_)
  repeat (first | refine Qa ?_ | refine Qb ?_ | refine Qc ?_ | refine Qd ?_ | refine Qe ?_ | refine Qf ?_ | refine Qg ?_ | refine Qh ?_ | refine Qi ?_ | refine Qj ?_ | refine Qk ?_ | refine Ql ?_ | refine Qm ?_ | refine Qn ?_ | refine Qo ?_ | refine Qp ?_ | refine Qq ?_ | fail)
  have e : xs ++ be32 (l.length : Int) ++ l ++ List.replicate ((4 - l.length % 4) % 4) 0 = xs ++ opq l := by simp [opq]
  rw [e] at hc3 ⊢
  refine SX.fin (M' := (wrC p A3 (xs ++ opq l).length c3 :: wrX A3 c3 (xs ++ opq l) :: R)) rfl Evals.nil ?_ inferInstance
  exact h A3 c3 hc3
theorem OutW_S (hat : At (some ⟨p, 0, none⟩) F (cellsR p [.slice A xs.length c] 139) R1) (hat2 : At A R1 (rowR (Kd.int .u8) 5 (.slice A xs.length c) xs) R) (hc : xs.length ≤ c) (hl : xs.length ≤ 225179981368000) (h : ∀ A' c', xs.length ≤ c' → K (.returned (.slice A' xs.length c')) (wrX A' c' xs :: R)) : Fn (Try.prog) 59 [.pointer (some ⟨p, 0, none⟩)] F K := by
  refine Fn.at_ hat ?_
  refine Fn.at_ (inferInstance : At A (.own (some ⟨p, 0, none⟩) (cellsR p [.slice A xs.length c] 139) :: R1) (rowR (Kd.int .u8) 5 (.slice A xs.length c) xs) (.own (some ⟨p, 0, none⟩) (cellsR p [.slice A xs.length c] 139) :: R)) ?_
  refine Fn.enter Try.call59 Try.func59 rfl rfl rfl ?_
  repeat (first | refine Qa ?_ | refine Qb ?_ | refine Qc ?_ | refine Qd ?_ | refine Qe ?_ | refine Qf ?_ | refine Qg ?_ | refine Qh ?_ | refine Qi ?_ | refine Qj ?_ | refine Qk ?_ | refine Ql ?_ | refine Qm ?_ | refine Qn ?_ | refine Qo ?_ | refine Qp ?_ | refine Qq ?_ | fail)
  refine SXL.call rfl rfl rfl ?_
  refine (CloneW_S (xs := xs) inferInstance hc hl (fun A' c' hc' => callK.ret ?_))
  repeat (first | refine Qa ?_ | refine Qb ?_ | refine Qc ?_ | refine Qd ?_ | refine Qe ?_ | refine Qf ?_ | refine Qg ?_ | refine Qh ?_ | refine Qi ?_ | refine Qj ?_ | refine Qk ?_ | refine Ql ?_ | refine Qm ?_ | refine Qn ?_ | refine Qo ?_ | refine Qp ?_ | refine Qq ?_ | fail)
  refine SX.ret (M' := (wrX A' c' xs :: R)) rfl (Evals.tmp rfl Evals.nil) ?_ inferInstance
  exact h A' c' hc'
end
end Go.Proofs.Ytlpjchighfdomaa.Sx
