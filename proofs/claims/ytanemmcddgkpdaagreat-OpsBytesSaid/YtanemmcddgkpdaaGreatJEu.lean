/- Chapter 13: a file has as many links as names, pure; conditions: those that each theorem names. -/
import Derived.Test.YtanemmcddgkpdaaGreatJEt
import Derived.Test.YtanemmcddgkpdaaGreatJN8
namespace Go.Proofs.YtanemmcddgkpdaaGreat.Sx
open Go.RowKit Go.Proofs.YtanemmcddgkpdaaGreat.Hm Go.Proofs.YtanemmcddgkpdaaGreatW.PrintWords Go.Proofs.YtanemmcddgkpdaaGreatW.PrintLast Go.Proofs.YtanemmcddgkpdaaGreatW.PrintMore
set_option linter.unusedVariables false
set_option linter.unusedSimpArgs false
def sndB (t : Th) : Bool :=
  mayT t.l && (((List.range 24).all fun i => match t.l[i]? with
    | some s => (s.kind != 2 || ((getM s.d).2 == 0 && (entS s).all fun e => decide (0 ≤ e.i) && (decide (e.i ≤ 23) && ((atT t e.i.toNat).kind != 0 && (atT t e.i.toNat).gen == e.g)))) &&
      ((s.kind != 0 || (linksTo t.l 24).getD i 0 == 0) && ((s.kind == 0 || (linksTo t.l 24).getD i 0 == s.links) && (s.kind != 2 || (linksTo t.l 24).getD i 0 == 1)))
    | none => true) && decide ((usedT t.l : Int) ≤ t.room))
theorem SndT.of {t : Th} (h : sndB t = true) : SndT t := by
  unfold sndB at h
  simp only [Bool.and_eq_true, List.all_eq_true, List.mem_range, decide_eq_true_eq] at h
  obtain ⟨hm, hi, hr⟩ := h
  obtain ⟨hn, hok⟩ := mayT_ok hm
  have hi2 : ∀ (i : Nat) (s : Sl), t.l[i]? = some s → _ := fun i s hs => by
    have h9 := hi i (by have := (List.getElem?_eq_some_iff.1 hs).1; omega)
    rw [hs] at h9
    exact h9
  refine ⟨fun i s hs => (hok i s hs).symm, fun i s hs hk => ?_, fun i s hs => ?_, hr⟩
  · have h9 := hi2 i s hs
    simp only [Bool.and_eq_true, Bool.or_eq_true, bne_iff_ne, ne_eq, hk, not_true_eq_false, false_or, beq_iff_eq, List.all_eq_true, decide_eq_true_eq] at h9
    exact ⟨h9.1.1, fun e he => by obtain ⟨a, b, c, d⟩ := h9.1.2 e he; exact ⟨a, b, c, d⟩⟩
  · have h9 := hi2 i s hs
    simp only [Bool.and_eq_true, Bool.or_eq_true, bne_iff_ne, ne_eq, beq_iff_eq] at h9
    obtain ⟨-, h1, h2, h3⟩ := h9
    exact ⟨fun h => h1.resolve_left (fun h' => h' h), fun h => h2.resolve_left h, fun h => h3.resolve_left (fun h' => h' h)⟩
/-- A call that makes a link. -/
abbrev lc (i g : Int) (name : ByteArray) : Ca := ⟨0, 0, 13, i, g, ⟨#[]⟩, 0, 1, name, 0, 0, 0, 0, []⟩
noncomputable def lm : Th × Re := doT (formT 30) (ca 6 0 1 ⟨#[102]⟩ 0 0 [])
end Go.Proofs.YtanemmcddgkpdaaGreat.Sx
