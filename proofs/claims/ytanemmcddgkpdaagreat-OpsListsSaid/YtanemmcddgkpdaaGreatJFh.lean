/- Chapter 13: a directory's entries told a few at a time, pure; conditions: those that each theorem names. -/
import Derived.Test.YtanemmcddgkpdaaGreatJO2
import Derived.Test.YtanemmcddgkpdaaGreatJY8
namespace Go.Proofs.YtanemmcddgkpdaaGreat.Hm
open Go.RowKit Go.Proofs.YtanemmcddgkpdaaGreatW.PrintWords Go.Proofs.YtanemmcddgkpdaaGreatW.PrintLast Go.Proofs.YtanemmcddgkpdaaGreatW.PrintMore
set_option linter.unusedVariables false
set_option linter.unusedSimpArgs false
def enm (y : Nat) : ByteArray := strOfNums [101, 97 + (y : Int)]
theorem enm_b {y : Nat} (h : y < 30) : bytesOf (enm y) = [101, 97 + (y : Int)] := bytesOf_strOfNums _ (by simp [bytesB]; omega)
theorem enm_n : ((List.range 26).all fun y => nameE [101, 97 + (y : Int)] == 0) = true := by kernel_rfl
theorem enm_ok {y : Nat} (h : y < 26) : nameE (bytesOf (enm y)) = 0 ∧ (bytesOf (enm y)).length ≤ 4 := by
  rw [enm_b (by omega)]
  refine ⟨?_, by simp⟩
  have := List.all_eq_true.1 enm_n y (List.mem_range.2 h)
  simpa using this
abbrev rdC (off verf cnt : Int) : Ca := ⟨0, 0, 14, 0, 1, ⟨#[]⟩, 0, 0, ⟨#[]⟩, off, verf, cnt, 0, []⟩
/-- A directory made, or there. -/
theorem VI.mkd {m : Nat} {E : List Ent} {t t2 : Th} {r2 : Re} {y : Nat} (h : VI 2 m E t) (hy : y < 26) (hm : m < 23) (hE : E.length ≤ m) (he : doT t (ca 7 0 1 (enm y) 0 0 []) = (t2, r2)) :
    (r2.st = 0 ∧ ∃ e : Ent, e.s = enm y ∧ VI 2 (m + 1) (E ++ [e]) t2) ∨ (r2.st = 61 ∧ t2 = t) := by
  obtain ⟨h1, h2⟩ := enm_ok hy
  by_cases hx : ∃ e ∈ E, e.s = enm y
  · right
    obtain ⟨e, he1, he2⟩ := hx
    obtain ⟨P, Q, rfl⟩ := List.append_of_mem he1
    rw [← he2] at he
    obtain ⟨a, b⟩ := h.mkdir_there he
    exact ⟨b, a⟩
  · left
    obtain ⟨j, g, -, a, b⟩ := h.mkdir_do (by omega) (by omega) h1 h2 (fun x hx2 hx3 => hx ⟨x, hx2, hx3⟩) he
    exact ⟨a, _, rfl, b⟩
theorem VI.rd_op {κ : Int} {m : Nat} {E : List Ent} {t : Th} (h : VI κ m E t) (off verf cnt : Int) (r : Re) :
    readdirE t r (rdC off verf cnt) = (needE (decide (0 < cnt)) 64 >>= fun _ => needE (off == 0 || verf == 1) 70 >>= fun _ => .ok (t, tellS (atT t 0) { r with e := (afterM E off (min cnt 24)).1, eof := (afterM E off (min cnt 24)).2, verf := 1 })) := by
  unfold readdirE
  dsimp only
  rw [h.fold0, okE, h.ent]
  have hg : (atT t 0).gen = 1 := by rw [h.root]
  rw [hg]
  rfl
theorem VI.rd {m : Nat} {E : List Ent} {t t2 : Th} {r2 : Re} {off verf cnt : Int} (h : VI 2 m E t) (hc : 0 < cnt) (hc2 : cnt ≤ 24) (hv : off = 0 ∨ verf = 1) (he : doT t (rdC off verf cnt) = (t2, r2)) :
    t2 = t ∧ r2.st = 0 ∧ r2.verf = 1 ∧ r2.e = (afterM E off cnt).1 ∧ r2.eof = (afterM E off cnt).2 := by
  have hb : (off == 0 || verf == 1) = true := by
    rcases hv with h1 | h1 <;> simp [h1]
  have w0 : opE t (toldR (rdC off verf cnt)) (rdC off verf cnt) = _ := h.rd_op off verf cnt _
  rw [decide_eq_true hc, needT, okE, hb, needT, okE] at w0
  obtain ⟨h1, rfl⟩ := doT_ok (h.may (Or.inr rfl)) (show (1 : Int) ≤ 14 by decide) (show (14 : Int) ≤ 16 by decide) w0 he
  rw [show min cnt 24 = cnt by omega]
  exact ⟨h1, rfl, rfl, rfl, rfl⟩
theorem VI.rd_no {m : Nat} {E : List Ent} {t t2 : Th} {r2 : Re} {off verf cnt : Int} (h : VI 2 m E t) (hc : 0 < cnt) (h0 : off ≠ 0) (hv : verf ≠ 1) (he : doT t (rdC off verf cnt) = (t2, r2)) : r2.st = 70 := by
  have hb : (off == 0 || verf == 1) = false := by simp [h0, hv]
  have w0 : opE t (toldR (rdC off verf cnt)) (rdC off verf cnt) = _ := h.rd_op off verf cnt _
  rw [decide_eq_true hc, needT, okE, hb, needF, erE] at w0
  exact (doT_er (h.may (Or.inr rfl)) (show (1 : Int) ≤ 14 by decide) (show (14 : Int) ≤ 16 by decide) w0 he).2
theorem VI.rd_0 {m : Nat} {E : List Ent} {t t2 : Th} {r2 : Re} {off verf : Int} (h : VI 2 m E t) (he : doT t (rdC off verf 0) = (t2, r2)) : r2.st = 64 := by
  have w0 : opE t (toldR (rdC off verf 0)) (rdC off verf 0) = _ := h.rd_op off verf 0 _
  rw [show decide ((0:Int) < 0) = false from rfl, needF, erE] at w0
  exact (doT_er (h.may (Or.inr rfl)) (show (1 : Int) ≤ 14 by decide) (show (14 : Int) ≤ 16 by decide) w0 he).2
/-- A page: behind so many, so many more. -/
theorem VI.page {m : Nat} {E : List Ent} {t : Th} (h : VI 2 m E t) {n : Nat} (hn : n ≤ E.length) {q : Nat} (hq : 0 < q) :
    afterM E (lastC (E.take n)) (q : Int) = ((E.take (n + min q (E.length - n))).drop n, decide (n + min q (E.length - n) = E.length)) := by
  rw [after_pages h.rows.may hn]
  by_cases hl : n < E.length
  · rw [if_pos hl]
  · have : n = E.length := by omega
    subst this
    rw [if_neg hl]
    simp
end Go.Proofs.YtanemmcddgkpdaaGreat.Hm
