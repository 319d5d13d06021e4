/- Part E of the lemmas and walks of the Go functions that these statements reach; conditions: those that each theorem names. -/
import Derived.Test.YtgjajalneknagaaJD
section
/- Chapter 8's laws: entries as the reference has them; conditions: those that each theorem names. -/
namespace Go.Proofs.Ytgjajalneknagaa.Hm
open Go.RowKit Go.Proofs.YtgjajalneknagaaW.PrintWords Go.Proofs.YtgjajalneknagaaW.PrintLast Go.Proofs.YtgjajalneknagaaW.PrintMore
set_option linter.unusedVariables false
set_option linter.unusedSimpArgs false

theorem infoE8 : (Try.prog.info? 102).map (fun i => (i.zero, i.size, i.bytes)) = some (some (.agg #[.int .u64 0, .int .u32 0, .int .u32 0, .string ⟨#[]⟩]), 4, 32) := by kernel_rfl
end Go.Proofs.Ytgjajalneknagaa.Hm
end
section
/- Chapter 8's laws: a row of the reference's entries is the same as itself; conditions: those that each theorem names. -/
namespace Go.Proofs.Ytgjajalneknagaa.Hm
open Go.RowKit Go.Proofs.YtgjajalneknagaaW.PrintWords Go.Proofs.YtgjajalneknagaaW.PrintLast Go.Proofs.YtgjajalneknagaaW.PrintMore
set_option linter.unusedVariables false
set_option linter.unusedSimpArgs false

theorem eqH (d : Nat) (w : World) (x0 y0 x1 y1 : Int) :
    (Op.equalIn (d + 2) 30 (.agg #[.int .u32 x0, .int .u32 x1]) (.agg #[.int .u32 y0, .int .u32 y1])).run Try.prog w = .ok (x0 == y0 && (x1 == y1)) w := by
  refine eqA_of Try.underlying30 (by kernel_rfl) ?_
  refine eqf_cons (by rfl) (by go_simp; rfl) (by go_simp; rfl) (by go_simp) ?_
  exact eqf_last (by rfl) (by go_simp; rfl) (by go_simp; rfl) (by go_simp)
theorem eqE8 (d : Nat) (w : World) (x0 y0 x1 y1 x2 y2 : Int) (x3 y3 : ByteArray) :
    (Op.equalIn (d + 3) 102 (.agg #[.int .u64 x0, .int .u32 x1, .int .u32 x2, .string x3]) (.agg #[.int .u64 y0, .int .u32 y1, .int .u32 y2, .string y3])).run Try.prog w = .ok (x0 == y0 && ((x1 == y1 && (x2 == y2)) && (x3.toList == y3.toList))) w := by
  refine eqA_of Try.underlying102 (by kernel_rfl) ?_
  refine eqf_cons (by rfl) (by go_simp; rfl) (by go_simp; rfl) (by go_simp) ?_
  refine eqf_cons (by rfl) (a := .agg #[.int .u32 x1, .int .u32 x2]) (b := .agg #[.int .u32 y1, .int .u32 y2]) (by go_simp) (by go_simp) (eqH d w x1 y1 x2 y2) ?_
  exact eqf_last (by rfl) (by go_simp; rfl) (by go_simp; rfl) (by go_simp)
attribute [local go_sem high] eqE8
end Go.Proofs.Ytgjajalneknagaa.Hm
end
section
/- Chapter 8's reference: Find, Name; conditions: those that each theorem names. -/
namespace Go.Proofs.Ytgjajalneknagaa.Hm
open Go.RowKit Go.Proofs.YtgjajalneknagaaW.PrintWords Go.Proofs.YtgjajalneknagaaW.PrintLast Go.Proofs.YtgjajalneknagaaW.PrintMore
set_option linter.unusedVariables false
set_option linter.unusedSimpArgs false

set_option maxHeartbeats 2000000 in
set_option maxRecDepth 100000 in
theorem RFind_any (A : Option Addr) (c : Nat) (l : List Ent) (s : ByteArray) (w : World) (hr : kE.C w A l.length l) (hc : l.length ≤ c) :
    Calls Try.prog 24 #[.slice A l.length c, .string s] w fun e' w' => e' = .returned (.int .i64 (idxE (fun e => e.s.toList == s.toList) l)) ∧ w' = w := by
  have HR := Aside0.mk hr
  have hm := hr.2.1
  clear hr
  go_enter Try.func24, Try.ntmps24
  go_wp2
  go_loopg [5] l.length (fun kq v5 w' => ∃ k : Nat, k + kq = l.length ∧ v5 = .int .i64 k ∧ Aside0 (∀ e ∈ l.take k, (e.s.toList == s.toList) = false) ∧ w' = w)
  case atStart => exact ⟨0, by omega, rfl, ⟨by simp⟩, rfl⟩
  case round =>
    obtain ⟨k, hk, rfl, HN, rfl⟩ := hrel
    by_cases hlt : k < l.length
    · have hd : decide ((k : Int) < (l.length : Int)) = true := decide_eq_true (by omega)
      obtain ⟨e, he⟩ : ∃ e, l[k]? = some e := ⟨_, List.getElem?_eq_getElem hlt⟩
      obtain ⟨ad, e1, h1, h2, h3, h4⟩ := kE_at HR.out k e he
      subst e1
      have p0 : (0 : Int) ≤ (k : Int) := by omega
      have p1 : (k : Int) < (l.length : Int) := by omega
      have HE := Aside0.mk he
      clear he
      cases hs : (e.s.toList == s.toList) with
      | true =>
        have HS := Aside0.mk hs
        go_wp2
        go_ret
        exact ⟨by rw [idxE_hit _ l k e HE.out HS.out HN.out]; rfl, rfl⟩
      | false =>
        have HS := Aside0.mk hs
        go_wp2
        go_roundg (l.length - k - 1)
        case measure => omega
        case rel => exact ⟨k + 1, by omega, by go_num, ⟨none_step _ l k e HE.out HS.out HN.out⟩, rfl⟩
    · have hd : decide ((k : Int) < (l.length : Int)) = false := decide_eq_false (by omega)
      have hk' : k = l.length := by omega
      subst hk'
      go_wp2
      go_ret
      exact ⟨by rw [idxE_none _ l (by have h := HN.out; rw [List.take_length] at h; exact h)]; rfl, rfl⟩
end Go.Proofs.Ytgjajalneknagaa.Hm
end
section
/- Chapter 8's reference: Add, Remove; conditions: those that each theorem names. -/
namespace Go.Proofs.Ytgjajalneknagaa.Hm
open Go.RowKit Go.Proofs.YtgjajalneknagaaW.PrintWords Go.Proofs.YtgjajalneknagaaW.PrintLast Go.Proofs.YtgjajalneknagaaW.PrintMore
set_option linter.unusedVariables false
set_option linter.unusedSimpArgs false

end Go.Proofs.Ytgjajalneknagaa.Hm
end
section
/- Chapter 8's reference: Remove; conditions: those that each theorem names. -/
namespace Go.Proofs.Ytgjajalneknagaa.Hm
open Go.RowKit Go.Proofs.YtgjajalneknagaaW.PrintWords Go.Proofs.YtgjajalneknagaaW.PrintLast Go.Proofs.YtgjajalneknagaaW.PrintMore
set_option linter.unusedVariables false
set_option linter.unusedSimpArgs false

end Go.Proofs.Ytgjajalneknagaa.Hm
end
section
/- Chapter 8's reference: After; conditions: those that each theorem names. -/
namespace Go.Proofs.Ytgjajalneknagaa.Hm
open Go.RowKit Go.Proofs.YtgjajalneknagaaW.PrintWords Go.Proofs.YtgjajalneknagaaW.PrintLast Go.Proofs.YtgjajalneknagaaW.PrintMore
set_option linter.unusedVariables false
set_option linter.unusedSimpArgs false

end Go.Proofs.Ytgjajalneknagaa.Hm
end
section
/- Chapter 8's reference: May; conditions: those that each theorem names. -/
namespace Go.Proofs.Ytgjajalneknagaa.Hm
open Go.RowKit Go.Proofs.YtgjajalneknagaaW.PrintWords Go.Proofs.YtgjajalneknagaaW.PrintLast Go.Proofs.YtgjajalneknagaaW.PrintMore
set_option linter.unusedVariables false
set_option linter.unusedSimpArgs false

end Go.Proofs.Ytgjajalneknagaa.Hm
end
section
/- Chapter 1's reference: numbers and bytes as strings; conditions: those that each theorem names. -/
namespace Go.Proofs.Ytgjajalneknagaa.Hm
open Go.RowKit Go.Proofs.YtgjajalneknagaaW.PrintWords Go.Proofs.YtgjajalneknagaaW.PrintLast Go.Proofs.YtgjajalneknagaaW.PrintMore
set_option linter.unusedVariables false
set_option linter.unusedSimpArgs false

end Go.Proofs.Ytgjajalneknagaa.Hm
end
section
/- Chapter 8's reference: Put; conditions: those that each theorem names. -/
namespace Go.Proofs.Ytgjajalneknagaa.Hm
open Go.RowKit Go.Proofs.YtgjajalneknagaaW.PrintWords Go.Proofs.YtgjajalneknagaaW.PrintLast Go.Proofs.YtgjajalneknagaaW.PrintMore
set_option linter.unusedVariables false
set_option linter.unusedSimpArgs false

end Go.Proofs.Ytgjajalneknagaa.Hm
end
section
/- Chapter 8's laws: are entries few and short; conditions: those that each theorem names. -/
namespace Go.Proofs.Ytgjajalneknagaa.Hm
open Go.RowKit Go.Proofs.YtgjajalneknagaaW.PrintWords Go.Proofs.YtgjajalneknagaaW.PrintLast Go.Proofs.YtgjajalneknagaaW.PrintMore
set_option linter.unusedVariables false
set_option linter.unusedSimpArgs false

end Go.Proofs.Ytgjajalneknagaa.Hm
end
