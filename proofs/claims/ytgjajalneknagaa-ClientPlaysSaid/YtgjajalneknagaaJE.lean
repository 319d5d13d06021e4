/- Part E of the lemmas and walks of the Go functions that these statements reach; conditions: those that each theorem names. -/
import Derived.Test.YtgjajalneknagaaJD
section
/- Chapter 8's laws: entries as the reference has them; conditions: those that each theorem names. -/
namespace Go.Proofs.Ytgjajalneknagaa.Hm
open Go.RowKit Go.Proofs.YtgjajalneknagaaW.PrintWords Go.Proofs.YtgjajalneknagaaW.PrintLast Go.Proofs.YtgjajalneknagaaW.PrintMore
set_option linter.unusedVariables false
set_option linter.unusedSimpArgs false

theorem infoE8 : (Try.prog.info? 102).map (fun i => (i.zero, i.size, i.bytes)) = some (some (.agg #[.int .u64 0, .int .u32 0, .int .u32 0, .string ⟨#[]⟩]), 4, 32) := by kernel_rfl
end Go.Proofs.Ytgjajalneknagaa.Hm
end
section
/- Chapter 8's laws: a row of the reference's entries is the same as itself; conditions: those that each theorem names. -/
namespace Go.Proofs.Ytgjajalneknagaa.Hm
open Go.RowKit Go.Proofs.YtgjajalneknagaaW.PrintWords Go.Proofs.YtgjajalneknagaaW.PrintLast Go.Proofs.YtgjajalneknagaaW.PrintMore
set_option linter.unusedVariables false
set_option linter.unusedSimpArgs false

theorem eqH (d : Nat) (w : World) (x0 y0 x1 y1 : Int) :
    (Op.equalIn (d + 2) 30 (.agg #[.int .u32 x0, .int .u32 x1]) (.agg #[.int .u32 y0, .int .u32 y1])).run Try.prog w = .ok (x0 == y0 && (x1 == y1)) w := by
  refine eqA_of Try.underlying30 (by kernel_rfl) ?_
  refine eqf_cons (by rfl) (by go_simp; rfl) (by go_simp; rfl) (by go_simp) ?_
  exact eqf_last (by rfl) (by go_simp; rfl) (by go_simp; rfl) (by go_simp)
theorem eqE8 (d : Nat) (w : World) (x0 y0 x1 y1 x2 y2 : Int) (x3 y3 : ByteArray) :
    (Op.equalIn (d + 3) 102 (.agg #[.int .u64 x0, .int .u32 x1, .int .u32 x2, .string x3]) (.agg #[.int .u64 y0, .int .u32 y1, .int .u32 y2, .string y3])).run Try.prog w = .ok (x0 == y0 && ((x1 == y1 && (x2 == y2)) && (x3.toList == y3.toList))) w := by
  refine eqA_of Try.underlying102 (by kernel_rfl) ?_
  refine eqf_cons (by rfl) (by go_simp; rfl) (by go_simp; rfl) (by go_simp) ?_
  refine eqf_cons (by rfl) (a := .agg #[.int .u32 x1, .int .u32 x2]) (b := .agg #[.int .u32 y1, .int .u32 y2]) (by go_simp) (by go_simp) (eqH d w x1 y1 x2 y2) ?_
  exact eqf_last (by rfl) (by go_simp; rfl) (by go_simp; rfl) (by go_simp)
attribute [local go_sem high] eqE8
end Go.Proofs.Ytgjajalneknagaa.Hm
end
section
/- Chapter 8's reference: Find, Name; conditions: those that each theorem names. -/
namespace Go.Proofs.Ytgjajalneknagaa.Hm
open Go.RowKit Go.Proofs.YtgjajalneknagaaW.PrintWords Go.Proofs.YtgjajalneknagaaW.PrintLast Go.Proofs.YtgjajalneknagaaW.PrintMore
set_option linter.unusedVariables false
set_option linter.unusedSimpArgs false

set_option maxHeartbeats 2000000 in
set_option maxRecDepth 100000 in
theorem RFind_any (A : Option Addr) (c : Nat) (l : List Ent) (s : ByteArray) (w : World) (hr : kE.C w A l.length l) (hc : l.length ≤ c) :
    Calls Try.prog 24 #[.slice A l.length c, .string s] w fun e' w' => e' = .returned (.int .i64 (idxE (fun e => e.s.toList == s.toList) l)) ∧ w' = w := by
  have HR := Aside0.mk hr
  have hm := hr.2.1
  clear hr
  go_enter Try.func24, Try.ntmps24
  go_wp2
  go_loopg [5] l.length (fun kq v5 w' => ∃ k : Nat, k + kq = l.length ∧ v5 = .int .i64 k ∧ Aside0 (∀ e ∈ l.take k, (e.s.toList == s.toList) = false) ∧ w' = w)
  case atStart => exact ⟨0, by omega, rfl, ⟨by simp⟩, rfl⟩
  case round =>
    obtain ⟨k, hk, rfl, HN, rfl⟩ := hrel
    by_cases hlt : k < l.length
    · have hd : decide ((k : Int) < (l.length : Int)) = true := decide_eq_true (by omega)
      obtain ⟨e, he⟩ : ∃ e, l[k]? = some e := ⟨_, List.getElem?_eq_getElem hlt⟩
      obtain ⟨ad, e1, h1, h2, h3, h4⟩ := kE_at HR.out k e he
      subst e1
      have p0 : (0 : Int) ≤ (k : Int) := by omega
      have p1 : (k : Int) < (l.length : Int) := by omega
      have HE := Aside0.mk he
      clear he
      cases hs : (e.s.toList == s.toList) with
      | true =>
        have HS := Aside0.mk hs
        go_wp2
        go_ret
        exact ⟨by rw [idxE_hit _ l k e HE.out HS.out HN.out]; rfl, rfl⟩
      | false =>
        have HS := Aside0.mk hs
        go_wp2
        go_roundg (l.length - k - 1)
        case measure => omega
        case rel => exact ⟨k + 1, by omega, by go_num, ⟨none_step _ l k e HE.out HS.out HN.out⟩, rfl⟩
    · have hd : decide ((k : Int) < (l.length : Int)) = false := decide_eq_false (by omega)
      have hk' : k = l.length := by omega
      subst hk'
      go_wp2
      go_ret
      exact ⟨by rw [idxE_none _ l (by have h := HN.out; rw [List.take_length] at h; exact h)]; rfl, rfl⟩
set_option maxHeartbeats 4000000 in
set_option maxRecDepth 100000 in
theorem RName_any (s : ByteArray) (w : World) : Calls Try.prog 78 #[.string s] w fun e w' => e = .returned (.int .i64 (nameE (bytesOf s))) ∧ w' = w := by
  by_cases h0 : s.size = 0
  · have hb : bytesOf s = [] := List.eq_nil_of_length_eq_zero (by rw [bytesOf_length]; exact h0)
    have hz : s.toList.isEmpty = true := by
      have := (toList_iff s ⟨#[]⟩).2 (by rw [hb]; rfl)
      rw [this]; decide +kernel
    have hz2 : (s.toList == []) = true := by
      have := (toList_iff s ⟨#[]⟩).2 (by rw [hb]; rfl)
      rw [this]; decide +kernel
    have HE : Aside0 (nameE (bytesOf s) = 67) := ⟨by rw [hb]; rfl⟩
    go_enter Try.func78, Try.ntmps78
    go_wp2
    go_ret
    exact ⟨by rw [HE.out]; rfl, rfl⟩
  · have hnil : ¬ s.toList = [] := by
      intro h
      have := (toList_iff s ⟨#[]⟩).1 (by rw [h]; decide +kernel)
      have h2 := congrArg List.length this
      rw [bytesOf_length] at h2
      exact h0 h2
    have hz : s.toList.isEmpty = false := by rw [Bool.eq_false_iff]; intro h; exact hnil (List.isEmpty_iff.1 h)
    have hz2 : (s.toList == []) = false := beq_eq_false_iff_ne.2 hnil
    by_cases h24 : 24 < s.size
    · have hd : decide ((24 : Int) < (s.size : Int)) = true := decide_eq_true (by omega)
      have HE : Aside0 (nameE (bytesOf s) = 67) := ⟨by unfold nameE nameB; rw [bytesOf_length, show decide (s.size ≤ 24) = false from decide_eq_false (by omega)]; simp⟩
      go_enter Try.func78, Try.ntmps78
      go_wp2
      go_ret
      exact ⟨by rw [HE.out]; rfl, rfl⟩
    · have hd : decide ((24 : Int) < (s.size : Int)) = false := decide_eq_false (by omega)
      cases h3 : (s.toList == [46]) with
      | true =>
        have HE : Aside0 (nameE (bytesOf s) = 67) := ⟨by rw [dot_iff, decide_eq_true_iff] at h3; rw [h3]; decide⟩
        go_enter Try.func78, Try.ntmps78
        go_wp2
        go_ret
        exact ⟨by rw [HE.out]; rfl, rfl⟩
      | false =>
        cases h4 : (s.toList == [46, 46]) with
        | true =>
          have HE : Aside0 (nameE (bytesOf s) = 67) := ⟨by rw [dots_iff, decide_eq_true_iff] at h4; rw [h4]; decide⟩
          go_enter Try.func78, Try.ntmps78
          go_wp2
          go_ret
          exact ⟨by rw [HE.out]; rfl, rfl⟩
        | false =>
          have HM : Aside0 (∀ mk, (!sepB ((bytesOf s).take s.size)) = mk → nameE (bytesOf s) = if mk = true then 0 else 67) := ⟨fun mk hm => nameE_M (b1 := true) (b2 := true) (b3 := false) (b4 := false) (decide_eq_true (by omega)) (decide_eq_true (by omega)) h3 h4 (by simpa using hm)⟩
          have HMM : Aside0 (∀ k (h : k < s.size), sepR ((s[k]'h).toNat : Int) = true → nameE (bytesOf s) = 67) := ⟨fun k h hx => by
            have := HM.out false (by
              rw [List.take_of_length_le (by rw [bytesOf_length]; exact Nat.le_refl _), Bool.not_eq_false']
              unfold sepB
              rw [List.any_eq_true]
              refine ⟨((s[k]'h).toNat : Int), ?_, hx⟩
              rw [byte_rd s k h, rd_at _ k (by rw [bytesOf_length]; exact h)]
              exact List.getElem_mem _)
            simpa using this⟩
          go_enter Try.func78, Try.ntmps78
          go_wp2
          go_loopg [3] s.size (fun kq v3 w' => ∃ k : Nat, k + kq = s.size ∧ v3 = .int .i64 k ∧ Aside0 (sepB ((bytesOf s).take k) = false) ∧ w' = w)
          case atStart => exact ⟨0, by omega, rfl, ⟨rfl⟩, rfl⟩
          case round =>
            obtain ⟨k, hk, rfl, HS, rfl⟩ := hrel
            by_cases hlt : k < s.size
            · have hd2 : decide ((k : Int) < (s.size : Int)) = true := decide_eq_true (by omega)
              have p0 : (0 : Int) ≤ (k : Int) := by omega
              have p1 : (k : Int) < (s.size : Int) := by omega
              have HST := Aside0.mk (sepB_take s k hlt)
              cases hx : sepR ((s[k]'hlt).toNat : Int) with
              | true =>
                have HE : Aside0 (nameE (bytesOf s) = 67) := ⟨HMM.out k hlt hx⟩
                have hxx : (s[k]'hlt).toNat = 47 ∨ (s[k]'hlt).toNat = 0 := by unfold sepR at hx; rw [decide_eq_true_iff] at hx; omega
                clear hx
                rcases hxx with hx | hx
                · have q0 : (((s[k]'hlt).toNat : Int) == 0) = false := by rw [hx]; rfl
                  have q1 : (((s[k]'hlt).toNat : Int) == 47) = true := by rw [hx]; rfl
                  clear hx
                  go_wp2
                  go_ret
                  exact ⟨by rw [HE.out]; rfl, rfl⟩
                · have q0 : (((s[k]'hlt).toNat : Int) == 0) = true := by rw [hx]; rfl
                  clear hx
                  go_wp2
                  go_ret
                  exact ⟨by rw [HE.out]; rfl, rfl⟩
              | false =>
                have hS2 := Aside0.mk (show sepB ((bytesOf s).take (k + 1)) = false by rw [HST.out, HS.out, hx]; rfl)
                have hxx : (s[k]'hlt).toNat ≠ 47 ∧ (s[k]'hlt).toNat ≠ 0 := by unfold sepR at hx; rw [decide_eq_false_iff_not] at hx; omega
                have q0 : (((s[k]'hlt).toNat : Int) == 0) = false := by rw [beq_eq_false_iff_ne]; omega
                have q1 : (((s[k]'hlt).toNat : Int) == 47) = false := by rw [beq_eq_false_iff_ne]; omega
                have n0 : ¬ (s[k]'hlt).toNat = 0 := hxx.2
                have n1 : ¬ (s[k]'hlt).toNat = 47 := hxx.1
                clear hx hxx
                go_wp2
                go_roundg (s.size - k - 1)
                case measure => omega
                case rel => exact ⟨k + 1, by omega, by go_num, hS2, rfl⟩
            · have hd2 : decide ((k : Int) < (s.size : Int)) = false := decide_eq_false (by omega)
              have hk' : k = s.size := by omega
              subst hk'
              have HE : Aside0 (nameE (bytesOf s) = 0) := ⟨by rw [HM.out true (by rw [HS.out]; rfl)]; rfl⟩
              go_wp2
              go_ret
              exact ⟨by rw [HE.out]; rfl, rfl⟩
end Go.Proofs.Ytgjajalneknagaa.Hm
end
section
/- Chapter 8's reference: Add, Remove; conditions: those that each theorem names. -/
namespace Go.Proofs.Ytgjajalneknagaa.Hm
open Go.RowKit Go.Proofs.YtgjajalneknagaaW.PrintWords Go.Proofs.YtgjajalneknagaaW.PrintLast Go.Proofs.YtgjajalneknagaaW.PrintMore
set_option linter.unusedVariables false
set_option linter.unusedSimpArgs false

end Go.Proofs.Ytgjajalneknagaa.Hm
end
section
/- Chapter 8's reference: Remove; conditions: those that each theorem names. -/
namespace Go.Proofs.Ytgjajalneknagaa.Hm
open Go.RowKit Go.Proofs.YtgjajalneknagaaW.PrintWords Go.Proofs.YtgjajalneknagaaW.PrintLast Go.Proofs.YtgjajalneknagaaW.PrintMore
set_option linter.unusedVariables false
set_option linter.unusedSimpArgs false

end Go.Proofs.Ytgjajalneknagaa.Hm
end
section
/- Chapter 8's reference: After; conditions: those that each theorem names. -/
namespace Go.Proofs.Ytgjajalneknagaa.Hm
open Go.RowKit Go.Proofs.YtgjajalneknagaaW.PrintWords Go.Proofs.YtgjajalneknagaaW.PrintLast Go.Proofs.YtgjajalneknagaaW.PrintMore
set_option linter.unusedVariables false
set_option linter.unusedSimpArgs false

end Go.Proofs.Ytgjajalneknagaa.Hm
end
section
/- Chapter 8's reference: May; conditions: those that each theorem names. -/
namespace Go.Proofs.Ytgjajalneknagaa.Hm
open Go.RowKit Go.Proofs.YtgjajalneknagaaW.PrintWords Go.Proofs.YtgjajalneknagaaW.PrintLast Go.Proofs.YtgjajalneknagaaW.PrintMore
set_option linter.unusedVariables false
set_option linter.unusedSimpArgs false

/-- The first place of an entry's name is its own, or an elder's. -/
theorem idxE_take (p : Ent → Bool) (l : List Ent) (k : Nat) (e : Ent) (he : l[k]? = some e) (hp : p e = true) : (idxE p l = k ↔ idxE p (l.take k) < 0) := by
  constructor
  · intro h
    rcases idxE_cases p (l.take k) with h1 | ⟨j, hj, h1⟩
    · rw [h1]; decide
    · exfalso
      unfold idxE at h1 h
      cases h2 : (l.take k).findIdx? p with
      | none => rw [h2] at h1; have h1' : (-1 : Int) = j := h1; omega
      | some i =>
        rw [h2] at h1
        have hij : i = j := by have h1' : (i : Int) = j := h1; omega
        subst hij
        have hlt : i < k := by rw [List.length_take] at hj; omega
        obtain ⟨hi, hpi, hno⟩ := List.findIdx?_eq_some_iff_getElem.1 h2
        cases h3 : l.findIdx? p with
        | none => rw [h3] at h; have h' : (-1 : Int) = k := h; omega
        | some m =>
          rw [h3] at h
          have hmk : m = k := by have h' : (m : Int) = k := h; omega
          subst hmk
          obtain ⟨hm, hpm, hnm⟩ := List.findIdx?_eq_some_iff_getElem.1 h3
          have h4 := hnm i hlt
          rw [List.getElem_take] at hpi
          exact h4 hpi
  · intro h
    refine idxE_hit p l k e he hp (fun x hx => ?_)
    rcases idxE_cases p (l.take k) with h1 | ⟨j, hj, h1⟩
    · unfold idxE at h1
      cases h2 : (l.take k).findIdx? p with
      | none => exact List.findIdx?_eq_none_iff.1 h2 x hx
      | some i => rw [h2] at h1; have h1' : (i : Int) = -1 := h1; omega
    · rw [h1] at h; omega
theorem lastC_take (l : List Ent) (k : Nat) (y : Ent) (hy : l[k]? = some y) : lastC (l.take (k + 1)) = y.c := by
  obtain ⟨hlt, hv⟩ := List.getElem?_eq_some_iff.1 hy
  rw [List.take_succ_eq_append_getElem hlt, hv]
  unfold lastC
  simp
theorem addM_two (l : List Ent) (e : Ent) : ((addM l e).2 = 0 ↔ nameE (bytesOf e.s) = 0 ∧ idxE (fun x => x.s.toList == e.s.toList) l < 0 ∧ lastC l < e.c) := by
  unfold addM
  by_cases h1 : nameE (bytesOf e.s) = 0
  · rw [if_neg (by simp [h1])]
    by_cases h2 : 0 ≤ idxE (fun x => x.s.toList == e.s.toList) l
    · rw [if_pos h2]
      constructor
      · intro h; cases h
      · rintro ⟨_, h3, _⟩; omega
    · rw [if_neg h2]
      by_cases h3 : e.c ≤ lastC l
      · rw [if_pos h3]
        constructor
        · intro h; cases h
        · rintro ⟨_, _, h4⟩; omega
      · rw [if_neg h3]
        exact ⟨fun _ => ⟨h1, by omega, by omega⟩, fun _ => rfl⟩
  · rw [if_pos h1]
    exact ⟨fun h => absurd h h1, fun h => absurd h.1 h1⟩
theorem mayOk_step {l : List Ent} {k : Nat} {e : Ent} (he : l[k]? = some e) : mayOk (l.take (k + 1)) ↔ mayOk (l.take k) ∧ (addM (l.take k) e).2 = 0 := by
  obtain ⟨hlt, hv⟩ := List.getElem?_eq_some_iff.1 he
  rw [List.take_succ_eq_append_getElem hlt, hv]
  exact mayOk_snoc
theorem mayB_no {l : List Ent} {k : Nat} {e : Ent} (he : l[k]? = some e) (h : ¬ (addM (l.take k) e).2 = 0) : mayB l = false :=
  Bool.eq_false_iff.2 fun hm => h ((mayB_iff l).1 hm k e he)
theorem lastC_pos (l : List Ent) (k : Nat) (h : ∀ e ∈ l, 0 ≤ e.c) : 0 ≤ lastC (l.take k) := by
  unfold lastC
  cases h1 : (l.take k).getLast? with
  | none => exact Int.le_refl _
  | some e => exact h e (List.mem_of_mem_take (List.mem_of_getLast? h1))
set_option maxHeartbeats 4000000 in
set_option maxRecDepth 100000 in
theorem RMay_any (A : Option Addr) (c : Nat) (l : List Ent) (w : World) (hr : kE.C w A l.length l) (hc : l.length ≤ c) (hp : ∀ e ∈ l, 0 ≤ e.c) :
    Calls Try.prog 72 #[.slice A l.length c] w fun e' w' => e' = .returned (.bool (mayB l)) ∧ Below w.heap.size w w' := by
  have HR := Aside0.mk hr
  have HP := Aside0.mk hp
  have hm := hr.2.1
  clear hr hp
  go_enter Try.func72, Try.ntmps72
  go_wp2
  go_loopg [3] l.length (fun kq v3 w' => ∃ k : Nat, k + kq = l.length ∧ v3 = .int .i64 k ∧ Aside0 (mayOk (l.take k)) ∧ Aside0 (Below w.heap.size w w'))
  case atStart => exact ⟨0, by omega, rfl, ⟨by rw [List.take_zero]; exact mayOk_nil⟩, ⟨Below.refl _ _⟩⟩
  case round =>
    obtain ⟨k, hk, rfl, HOK, HB⟩ := hrel
    by_cases hlt : k < l.length
    · have hd : decide ((k : Int) < (l.length : Int)) = true := decide_eq_true (by omega)
      obtain ⟨e, he⟩ : ∃ e, l[k]? = some e := ⟨_, List.getElem?_eq_getElem hlt⟩
      have HRr := Aside0.mk (Kd.C_below HR.out HB.out)
      obtain ⟨ad, e1, c0, c1, c2, c3⟩ := kE_at HRr.out k e he
      subst e1
      have p0 : (0 : Int) ≤ (k : Int) := by omega
      have p1 : (k : Int) < (l.length : Int) := by omega
      have HE := Aside0.mk he
      have HLT := Aside0.mk hlt
      have HKQ := Aside0.mk hk
      have hcp := HP.out e (List.mem_of_getElem? he)
      obtain ⟨ne, hne⟩ : ∃ x, nameE (bytesOf e.s) = x := ⟨_, rfl⟩
      obtain ⟨z, hz⟩ : ∃ z, idxE (fun x => x.s.toList == e.s.toList) l = z := ⟨_, rfl⟩
      have HNE := Aside0.mk hne
      have HZK : Aside0 (z = k ↔ idxE (fun x => x.s.toList == e.s.toList) (l.take k) < 0) := ⟨by rw [← hz]; exact idxE_take _ l k e he (beq_self_eq_true _)⟩
      have HQ1 : Aside0 (∀ W : World, Calls Try.prog 78 #[.string e.s] W fun e' w' => e' = .returned (.int .i64 ne) ∧ w' = W) := ⟨fun W => by have h := RName_any e.s W; rw [hne] at h; exact h⟩
      have HQ2 : Aside0 (∀ W : World, kE.C W (some ad) l.length l → Calls Try.prog 24 #[.slice (some ad) l.length c, .string e.s] W fun e' w' => e' = .returned (.int .i64 z) ∧ w' = W) := ⟨fun W h => by have h2 := RFind_any (some ad) c l e.s W h hc; rw [hz] at h2; exact h2⟩
      clear hne hz
      by_cases hn : ne = 0
      · subst hn
        by_cases hc0 : e.c = 0
        · have q1 : (e.c == 0) = true := by rw [hc0]; rfl
          have HNO : Aside0 (mayB l = false) := ⟨mayB_no HE.out (by rw [addM_two]; rintro ⟨_, _, h3⟩; have h4 := lastC_pos l k HP.out; omega)⟩
          clear hc0 hcp he hlt hk
          go_wp2
          go_quiet (first | (go_at_call 78; exact Calls.quiet_of_same (HQ1.out _)) | (go_at_call 24; exact Calls.quiet_of_same (HQ2.out _ (Kd.C_drewN HRr.out _))) | fail)
          have HBd := Aside0.mk (pw_below_drewN HB.out nq)
          go_wp2
          go_ret
          exact ⟨by rw [HNO.out]; rfl, HBd.out⟩
        · have q1 : (e.c == 0) = false := by rw [beq_eq_false_iff_ne]; exact hc0
          by_cases hk0 : k = 0
          · have q2 : decide ((0 : Int) < (k : Int)) = false := decide_eq_false (by omega)
            have q2b : decide (0 < k) = false := decide_eq_false (by omega)
            have q2c : ¬ (0 : Int) < (k : Int) := by omega
            have HL0 : Aside0 (lastC (l.take k) = 0) := ⟨by rw [hk0]; rfl⟩
            by_cases hzk : z = k
            · have q3 : (z != (k : Int)) = false := by rw [hzk]; simp
              subst hzk
              have HOK2 : Aside0 (mayOk (l.take (k + 1))) := ⟨(mayOk_step HE.out).2 ⟨HOK.out, by rw [addM_two]; exact ⟨HNE.out, HZK.out.1 rfl, by rw [HL0.out]; omega⟩⟩⟩
              clear hc0 hcp he hlt hk hk0
              go_wp2
              go_quiet (first | (go_at_call 78; exact Calls.quiet_of_same (HQ1.out _)) | (go_at_call 24; exact Calls.quiet_of_same (HQ2.out _ (Kd.C_drewN HRr.out _))) | fail)
              have HBd := Aside0.mk (pw_below_drewN HB.out nq)
              go_wp2
              go_roundg (l.length - k - 1)
              case measure => have := HLT.out; have := HKQ.out; omega
              case rel => exact ⟨k + 1, by have := HLT.out; have := HKQ.out; omega, by go_num, HOK2, HBd⟩
            · have q3 : (z != (k : Int)) = true := by simpa using hzk
              have HNO : Aside0 (mayB l = false) := ⟨mayB_no HE.out (by rw [addM_two]; rintro ⟨_, h2, _⟩; exact hzk (HZK.out.2 h2))⟩
              clear hc0 hcp he hlt hk hk0 hzk
              go_wp2
              go_quiet (first | (go_at_call 78; exact Calls.quiet_of_same (HQ1.out _)) | (go_at_call 24; exact Calls.quiet_of_same (HQ2.out _ (Kd.C_drewN HRr.out _))) | fail)
              have HBd := Aside0.mk (pw_below_drewN HB.out nq)
              go_wp2
              go_ret
              exact ⟨by rw [HNO.out]; rfl, HBd.out⟩
          · obtain ⟨k', hk'⟩ : ∃ k', k = k' + 1 := ⟨k - 1, by omega⟩
            obtain ⟨y, hy⟩ : ∃ y, l[k']? = some y := ⟨_, List.getElem?_eq_getElem (by omega)⟩
            obtain ⟨ad', e', d0, d1, d2, d3⟩ := kE_at HRr.out k' y hy
            injection e' with e'
            subst e'
            have q2 : decide ((0 : Int) < (k : Int)) = true := decide_eq_true (by omega)
            have q2b : decide (0 < k) = true := decide_eq_true (by omega)
            have hw : IntKind.i64.wrap ((k : Int) - 1) = (k' : Int) := by rw [IntKind.wrap_i64]; omega
            have r0 : (0 : Int) ≤ (k' : Int) := by omega
            have r1 : (k' : Int) < (l.length : Int) := by omega
            have HLC : Aside0 (lastC (l.take k) = y.c) := ⟨by rw [hk']; exact lastC_take l k' y hy⟩
            by_cases hle : e.c ≤ y.c
            · have q4 : decide (e.c ≤ y.c) = true := decide_eq_true hle
              have HNO : Aside0 (mayB l = false) := ⟨mayB_no HE.out (by rw [addM_two]; rintro ⟨_, _, h3⟩; rw [HLC.out] at h3; omega)⟩
              clear hc0 hcp he hlt hk hk' hk0 hle hy
              go_wp2
              go_quiet (first | (go_at_call 78; exact Calls.quiet_of_same (HQ1.out _)) | (go_at_call 24; exact Calls.quiet_of_same (HQ2.out _ (Kd.C_drewN HRr.out _))) | fail)
              have HBd := Aside0.mk (pw_below_drewN HB.out nq)
              go_wp2
              go_ret
              exact ⟨by rw [HNO.out]; rfl, HBd.out⟩
            · have q4 : decide (e.c ≤ y.c) = false := decide_eq_false hle
              by_cases hzk : z = k
              · have q3 : (z != (k : Int)) = false := by rw [hzk]; simp
                subst hzk
                have HOK2 : Aside0 (mayOk (l.take (k + 1))) := ⟨(mayOk_step HE.out).2 ⟨HOK.out, by rw [addM_two]; exact ⟨HNE.out, HZK.out.1 rfl, by rw [HLC.out]; omega⟩⟩⟩
                clear hc0 hcp he hlt hk hk' hk0 hle hy
                go_wp2
                go_quiet (first | (go_at_call 78; exact Calls.quiet_of_same (HQ1.out _)) | (go_at_call 24; exact Calls.quiet_of_same (HQ2.out _ (Kd.C_drewN HRr.out _))) | fail)
                have HBd := Aside0.mk (pw_below_drewN HB.out nq)
                go_wp2
                go_roundg (l.length - k - 1)
                case measure => have := HLT.out; have := HKQ.out; omega
                case rel => exact ⟨k + 1, by have := HLT.out; have := HKQ.out; omega, by go_num, HOK2, HBd⟩
              · have q3 : (z != (k : Int)) = true := by simpa using hzk
                have HNO : Aside0 (mayB l = false) := ⟨mayB_no HE.out (by rw [addM_two]; rintro ⟨_, h2, _⟩; exact hzk (HZK.out.2 h2))⟩
                clear hc0 hcp he hlt hk hk' hk0 hle hy hzk
                go_wp2
                go_quiet (first | (go_at_call 78; exact Calls.quiet_of_same (HQ1.out _)) | (go_at_call 24; exact Calls.quiet_of_same (HQ2.out _ (Kd.C_drewN HRr.out _))) | fail)
                have HBd := Aside0.mk (pw_below_drewN HB.out nq)
                go_wp2
                go_ret
                exact ⟨by rw [HNO.out]; rfl, HBd.out⟩
      · have q0 : (ne != 0) = true := by simpa using hn
        have HNO : Aside0 (mayB l = false) := ⟨mayB_no HE.out (by rw [addM_two]; rintro ⟨h1, _⟩; exact hn (HNE.out ▸ h1))⟩
        clear hcp he hlt hk hn
        go_wp2
        go_quiet (first | (go_at_call 78; exact Calls.quiet_of_same (HQ1.out _)) | (go_at_call 24; exact Calls.quiet_of_same (HQ2.out _ (Kd.C_drewN HRr.out _))) | fail)
        have HBd := Aside0.mk (pw_below_drewN HB.out nq)
        go_wp2
        go_ret
        exact ⟨by rw [HNO.out]; rfl, HBd.out⟩
    · have hd : decide ((k : Int) < (l.length : Int)) = false := decide_eq_false (by omega)
      have hk' : k = l.length := by omega
      subst hk'
      have HY : Aside0 (mayB l = true) := ⟨(mayB_iff l).2 (by have h := HOK.out; rw [List.take_length] at h; exact h)⟩
      go_wp2
      go_ret
      exact ⟨by rw [HY.out]; rfl, HB.out⟩
end Go.Proofs.Ytgjajalneknagaa.Hm
end
section
/- Chapter 1's reference: numbers and bytes as strings; conditions: those that each theorem names. -/
namespace Go.Proofs.Ytgjajalneknagaa.Hm
open Go.RowKit Go.Proofs.YtgjajalneknagaaW.PrintWords Go.Proofs.YtgjajalneknagaaW.PrintLast Go.Proofs.YtgjajalneknagaaW.PrintMore
set_option linter.unusedVariables false
set_option linter.unusedSimpArgs false

set_option maxHeartbeats 1000000 in
set_option maxRecDepth 100000 in
theorem SU32_any (x : Int) (w : World) (h0 : 0 ≤ x) (h1 : x < 4294967296) : Calls Try.prog 46 #[.int .u32 x] w fun e w' => e = .returned (.string (strOfNums (be32 x))) ∧ Below w.heap.size w w' := by
  have q0 : IntKind.u8.wrap (x / 16777216) = x / 16777216 % 256 := by rw [IntKind.wrap_u8]
  have q1 : IntKind.u8.wrap (x / 65536) = x / 65536 % 256 := by rw [IntKind.wrap_u8]
  have q2 : IntKind.u8.wrap (x / 256) = x / 256 % 256 := by rw [IntKind.wrap_u8]
  have q3 : IntKind.u8.wrap x = x % 256 := by rw [IntKind.wrap_u8]
  have hcv := Kd.C_string (P := Try.prog) (src := 38) (dst := 9) (e := 5) (c := 4) Try.underlying38 Try.underlying5 Try.underlying9 (C_of_block (be32 x) (blk_new w (.cells #[.int .u8 (x / 16777216 % 256), .int .u8 (x / 65536 % 256), .int .u8 (x / 256 % 256), .int .u8 (x % 256)] 5)) rfl (show (4 : Nat) ≤ 9223372036854775807 by decide))
  rw [show (be32 x).length = 4 from rfl] at hcv
  go_enter Try.func46, Try.ntmps46
  go_wp2
  go_ret
  exact ⟨rfl, below_alloc (Below.refl _ _) _⟩
set_option maxHeartbeats 1000000 in
set_option maxRecDepth 100000 in
theorem SU64_any (x : Int) (w : World) (h0 : 0 ≤ x) (h1 : x < 18446744073709551616) : Calls Try.prog 59 #[.int .u64 x] w fun e w' => e = .returned (.string (strOfNums (be64 x))) ∧ Below w.heap.size w w' := by
  have q0 : IntKind.u32.wrap (x / 4294967296) = x / 4294967296 := by rw [IntKind.wrap_u32]; omega
  have q1 : IntKind.u32.wrap x = x % 4294967296 := by rw [IntKind.wrap_u32]
  have HS : Aside0 (strOfNums (be32 (x / 4294967296)) ++ strOfNums (be32 (x % 4294967296)) = strOfNums (be64 x)) := ⟨str_append _ _ (bytesB_be32 _ (by omega) (by omega)) (bytesB_be32 _ (by omega) (by omega))⟩
  have a0 : 0 ≤ x / 4294967296 := by omega
  have a1 : x / 4294967296 < 4294967296 := by omega
  have b0 : 0 ≤ x % 4294967296 := by omega
  have b1 : x % 4294967296 < 4294967296 := by omega
  have A0 := Aside0.mk a0
  have A1 := Aside0.mk a1
  have B0 := Aside0.mk b0
  have B1 := Aside0.mk b1
  clear a0 a1 b0 b1
  go_enter Try.func59, Try.ntmps59
  go_wp2_with fail
  (with_reducible refine (SU32_any (x / 4294967296) w A0.out A1.out).mono ?_)
  rintro e w1 ⟨rfl, hb1⟩
  have HB1 := Aside0.mk hb1
  clear hb1
  go_wp2_with fail
  (with_reducible refine (SU32_any (x % 4294967296) w1 B0.out B1.out).mono ?_)
  rintro e w2 ⟨rfl, hb2⟩
  have HB2 := Aside0.mk (below_step HB1.out hb2)
  clear hb2
  go_wp2
  go_ret
  exact ⟨by rw [← HS.out]; rfl, HB2.out⟩
theorem rep_snoc (j : Nat) : List.replicate (j + 1) (0 : Int) = List.replicate j 0 ++ [0] := List.replicate_succ'
set_option maxHeartbeats 1000000 in
set_option maxRecDepth 100000 in
theorem SOpaque_any (s : ByteArray) (w : World) (hs : s.size ≤ 300000) : Calls Try.prog 47 #[.string s] w fun e w' => e = .returned (.string (strOfNums (opq (bytesOf s)))) ∧ Below w.heap.size w w' := by
  obtain ⟨n, hn⟩ : ∃ n, s.size = n := ⟨_, rfl⟩
  have hn2 : (bytesOf s).length = n := by rw [bytesOf_length]; exact hn
  have HN2 := Aside0.mk hn2
  have HN := Aside0.mk hn
  have HLE := Aside0.mk hs
  have q0 : IntKind.u32.wrap (n : Int) = (n : Int) := by rw [IntKind.wrap_u32]; omega
  have q1 : IntKind.u32.wrap (s.size : Int) = (n : Int) := by rw [hn]; exact q0
  obtain ⟨pad, hpad⟩ : ∃ pad, (4 - n % 4) % 4 = pad := ⟨_, rfl⟩
  have HPAD := Aside0.mk hpad
  have HO : Aside0 (strOfNums (be32 (n : Int)) ++ strOfNums (bytesOf s ++ List.replicate pad 0) = strOfNums (opq (bytesOf s))) := ⟨by
    rw [str_append _ _ (bytesB_be32 _ (by omega) (by omega)) (by rw [bytesB_append, bytesOf_range, bytesB_zeros]; rfl)]
    unfold opq
    rw [hn2, hpad, List.append_assoc]⟩
  clear hn hn2 hpad hs
  go_enter Try.func47, Try.ntmps47
  go_wp2
  go_loopg [0] pad (fun kq v0 w' => ∃ (j : Nat) (t : ByteArray), j + kq = pad ∧ v0 = .string t ∧ Aside0 (t = strOfNums (bytesOf s ++ List.replicate j 0)) ∧ w' = w)
  case atStart => exact ⟨0, s, by omega, rfl, ⟨by rw [List.replicate_zero, List.append_nil, strOfNums_bytesOf]⟩, rfl⟩
  case round =>
    obtain ⟨j, t, hj, rfl, HT, hw⟩ := hrel
    have hw2 := hw.symm
    subst hw2
    have hts : t.size = n + j := by rw [HT.out, size_strOfNums, List.length_append, List.length_replicate, HN2.out]
    have HJ := Aside0.mk hj
    have HTS := Aside0.mk hts
    by_cases hjp : j < pad
    · have hd : (((t.size : Int) % 4) != 0) = true := by rw [hts]; have := HPAD.out; simp; omega
      have HJP := Aside0.mk hjp
      have hcat : t.size + 1 ≤ 9223372036854775807 := by have := HLE.out; have := HN.out; have := HPAD.out; omega
      clear hts hj hjp hw
      go_wp2
      go_roundg (pad - j - 1)
      case measure => have := HJ.out; have := HJP.out; omega
      case rel => exact ⟨j + 1, t ++ ⟨#[0]⟩, by have := HJ.out; have := HJP.out; omega, rfl, ⟨by
        rw [rep_snoc, ← List.append_assoc, ← str_append _ _ (by rw [bytesB_append, bytesOf_range, bytesB_zeros]; rfl) (by decide), ← HT.out]; rfl⟩, rfl⟩
    · have hjp' : j = pad := by omega
      have hd : (((t.size : Int) % 4) != 0) = false := by rw [hts]; have := HPAD.out; simp; omega
      have HTT := Aside0.mk (show t = strOfNums (bytesOf s ++ List.replicate pad 0) by rw [HT.out, hjp'])
      have HNI : Aside0 (0 ≤ (n : Int) ∧ (n : Int) < 4294967296) := ⟨by have := HN.out; have := HLE.out; omega⟩
      have hcat : (strOfNums (be32 (n : Int))).size + t.size ≤ 9223372036854775807 := by
        rw [size_strOfNums, show (be32 (n : Int)).length = 4 from rfl]
        have := HLE.out; have := HN.out; have := HPAD.out; omega
      have hcat2 : 4 + t.size ≤ 9223372036854775807 := by have := HLE.out; have := HN.out; have := HPAD.out; omega
      clear hts hj hjp hjp' hw
      go_wp2_with fail
      (with_reducible refine (SU32_any (n : Int) w HNI.out.1 HNI.out.2).mono ?_)
      rintro e w1 ⟨rfl, hb1⟩
      have HB1 := Aside0.mk hb1
      clear hb1
      go_wp2
      go_ret
      exact ⟨by rw [← HO.out, ← HTT.out]; rfl, HB1.out⟩
end Go.Proofs.Ytgjajalneknagaa.Hm
end
section
/- Chapter 8's reference: Put; conditions: those that each theorem names. -/
namespace Go.Proofs.Ytgjajalneknagaa.Hm
open Go.RowKit Go.Proofs.YtgjajalneknagaaW.PrintWords Go.Proofs.YtgjajalneknagaaW.PrintLast Go.Proofs.YtgjajalneknagaaW.PrintMore
set_option linter.unusedVariables false
set_option linter.unusedSimpArgs false

set_option maxHeartbeats 8000000 in
set_option maxRecDepth 100000 in
theorem RPut_any (A : Option Addr) (c : Nat) (l : List Ent) (w : World) (hr : kE.C w A l.length l) (hc : l.length ≤ c) (hl : l.length ≤ 1000000) (hw : ∀ e ∈ l, e.wf) :
    Calls Try.prog 66 #[.slice A l.length c] w fun e' w' => e' = .returned (.tuple #[.string (strOfNums (putM l).1), .int .i64 (putM l).2]) ∧ Below w.heap.size w w' := by
  have HR := Aside0.mk hr
  have HW := Aside0.mk hw
  have HL := Aside0.mk hl
  clear hr hw
  unfold putM
  cases hm : mayB l with
  | false =>
    rw [if_neg (by decide)]
    have HM := Aside0.mk hm
    clear hm
    go_enter Try.func66, Try.ntmps66
    go_wp2_with fail
    (with_reducible refine (RMay_any A c l w HR.out hc (fun e he => (HW.out e he).c0)).mono ?_)
    rintro e' w1 ⟨rfl, hb1⟩
    rw [HM.out]
    have HB1 := Aside0.mk hb1
    clear hb1
    go_wp2
    go_ret2
    exact ⟨rfl, HB1.out⟩
  | true =>
    rw [if_pos rfl]
    have HM := Aside0.mk hm
    have HLN := Aside0.mk (mayOk_len ((mayB_iff l).1 hm))
    clear hm
    go_enter Try.func66, Try.ntmps66
    go_wp2_with fail
    (with_reducible refine (RMay_any A c l w HR.out hc (fun e he => (HW.out e he).c0)).mono ?_)
    rintro e' w1 ⟨rfl, hb1⟩
    rw [HM.out]
    have HB1 := Aside0.mk hb1
    clear hb1
    go_wp2
    go_loopg [5, 6] l.length (fun kq v5 v6 w' => ∃ (k : Nat) (t : ByteArray), k + kq = l.length ∧ v6 = .int .i64 k ∧ v5 = .string t ∧ Aside0 (t = strOfNums ((l.take k).flatMap encE)) ∧ Aside0 (Below w.heap.size w w'))
    case atStart => exact ⟨0, ⟨#[]⟩, by omega, rfl, rfl, ⟨rfl⟩, HB1⟩
    case round =>
      obtain ⟨k, t, hk, rfl, rfl, HT, HB⟩ := hrel
      by_cases hlt : k < l.length
      · have hd : decide ((k : Int) < (l.length : Int)) = true := decide_eq_true (by omega)
        obtain ⟨e, he⟩ : ∃ e, l[k]? = some e := ⟨_, List.getElem?_eq_getElem hlt⟩
        obtain ⟨ad, e1, -⟩ := kE_at (Kd.C_below HR.out HB.out) k e he
        subst e1
        have p0 : (0 : Int) ≤ (k : Int) := by omega
        have p1 : (k : Int) < (l.length : Int) := by omega
        have HE := Aside0.mk he
        have HLT := Aside0.mk hlt
        have HKQ := Aside0.mk hk
        have HME := List.mem_of_getElem? he
        have HWE := HW.out e HME
        obtain ⟨a8, ha8⟩ : ∃ x, strOfNums (be64 e.c) = x := ⟨_, rfl⟩
        obtain ⟨a4, ha4⟩ : ∃ x, strOfNums (be32 e.i) = x := ⟨_, rfl⟩
        obtain ⟨b4, hb4⟩ : ∃ x, strOfNums (be32 e.g) = x := ⟨_, rfl⟩
        obtain ⟨ob, hob⟩ : ∃ x, strOfNums (opq (bytesOf e.s)) = x := ⟨_, rfl⟩
        have z8 : a8.size = 8 := by rw [← ha8, size_strOfNums]; rfl
        have z4 : a4.size = 4 := by rw [← ha4, size_strOfNums]; rfl
        have y4 : b4.size = 4 := by rw [← hb4, size_strOfNums]; rfl
        have zo : ob.size ≤ 48 := by
          have h1 := encE_len e (HLN.out e HME)
          rw [← hob, size_strOfNums]
          simp only [encE, List.length_append] at h1
          omega
        have zt : t.size ≤ 48000000 := by
          rw [HT.out, size_strOfNums]
          have h1 := flat_len (l.take k) (fun x hx => HLN.out x (List.mem_of_mem_take hx))
          have h2 := List.length_take_le' k l
          omega
        have g1 : a8.size + a4.size ≤ 9223372036854775807 := by omega
        have g2 : a8.size + a4.size + b4.size ≤ 9223372036854775807 := by omega
        have g3 : a8.size + a4.size + b4.size + ob.size ≤ 9223372036854775807 := by omega
        have g4 : t.size + (a8.size + a4.size + b4.size + ob.size) ≤ 9223372036854775807 := by omega
        have i1 : ¬ (9223372036854775807 : Int) < (a8.size : Int) + (a4.size : Int) := by omega
        have i2 : ¬ (9223372036854775807 : Int) < (a8.size : Int) + (a4.size : Int) + (b4.size : Int) := by omega
        have i3 : ¬ (9223372036854775807 : Int) < (a8.size : Int) + (a4.size : Int) + (b4.size : Int) + (ob.size : Int) := by omega
        have i4 : ¬ (9223372036854775807 : Int) < (t.size : Int) + ((a8.size : Int) + (a4.size : Int) + (b4.size : Int) + (ob.size : Int)) := by omega
        have n1 : ¬ 9223372036854775807 < a8.size + a4.size := by omega
        have n2 : ¬ 9223372036854775807 < a8.size + a4.size + b4.size := by omega
        have n3 : ¬ 9223372036854775807 < a8.size + a4.size + b4.size + ob.size := by omega
        have n4 : ¬ 9223372036854775807 < t.size + (a8.size + a4.size + b4.size + ob.size) := by omega
        have m1 : (a8.size : Int) + (a4.size : Int) ≤ 9223372036854775807 := by omega
        have m2 : (a8.size : Int) + (a4.size : Int) + (b4.size : Int) ≤ 9223372036854775807 := by omega
        have m3 : (a8.size : Int) + (a4.size : Int) + (b4.size : Int) + (ob.size : Int) ≤ 9223372036854775807 := by omega
        have m4 : (t.size : Int) + ((a8.size : Int) + (a4.size : Int) + (b4.size : Int) + (ob.size : Int)) ≤ 9223372036854775807 := by omega
        have HS : Aside0 (t ++ (a8 ++ a4 ++ b4 ++ ob) = strOfNums ((l.take (k + 1)).flatMap encE)) := ⟨by
          obtain ⟨hlt', hv⟩ := List.getElem?_eq_some_iff.1 he
          have y1 := bytesB_be64 _ HWE.c0 HWE.c1
          have y2 := bytesB_be32 _ HWE.i0 HWE.i1
          have y3 := bytesB_be32 _ HWE.g0 HWE.g1
          have y5 : bytesB (opq (bytesOf e.s)) = true := by unfold opq; rw [bytesB_append, bytesB_append, bytesOf_range, bytesB_zeros, bytesB_be32 _ (by omega) (by have h1 := HLN.out e HME; omega)]; rfl
          have y0 : bytesB ((l.take k).flatMap encE) = true := by
            rw [bytesB_iff]
            intro x hx
            obtain ⟨e', he', hx'⟩ := List.mem_flatMap.1 hx
            have h1 := HW.out e' (List.mem_of_mem_take he')
            have h2 : bytesB (encE e') = true := by
              unfold encE opq
              rw [bytesB_append, bytesB_append, bytesB_append, bytesB_append, bytesB_append, bytesOf_range, bytesB_zeros, bytesB_be64 _ h1.c0 h1.c1, bytesB_be32 _ h1.i0 h1.i1, bytesB_be32 _ h1.g0 h1.g1, bytesB_be32 _ (by omega) (by have h1 := HLN.out e' (List.mem_of_mem_take he'); omega)]
              rfl
            exact (bytesB_iff _).1 h2 x hx'
          rw [HT.out, ← ha8, ← ha4, ← hb4, ← hob, str_append _ _ y1 y2, str_append _ _ (by rw [bytesB_append, y1, y2]; rfl) y3, str_append _ _ (by rw [bytesB_append, bytesB_append, y1, y2, y3]; rfl) y5, str_append _ _ y0 (by rw [bytesB_append, bytesB_append, bytesB_append, y1, y2, y3, y5]; rfl)]
          rw [List.take_succ_eq_append_getElem hlt', hv, List.flatMap_append, List.flatMap_singleton, encE]⟩
        have HQ8 : Aside0 (∀ W : World, Calls Try.prog 59 #[.int .u64 e.c] W fun e' w' => e' = .returned (.string a8) ∧ Below W.heap.size W w') := ⟨fun W => by have h := SU64_any e.c W HWE.c0 HWE.c1; rw [ha8] at h; exact h⟩
        have HQ4 : Aside0 (∀ W : World, Calls Try.prog 46 #[.int .u32 e.i] W fun e' w' => e' = .returned (.string a4) ∧ Below W.heap.size W w') := ⟨fun W => by have h := SU32_any e.i W HWE.i0 HWE.i1; rw [ha4] at h; exact h⟩
        have HQ5 : Aside0 (∀ W : World, Calls Try.prog 46 #[.int .u32 e.g] W fun e' w' => e' = .returned (.string b4) ∧ Below W.heap.size W w') := ⟨fun W => by have h := SU32_any e.g W HWE.g0 HWE.g1; rw [hb4] at h; exact h⟩
        have HQ9 : Aside0 (∀ W : World, Calls Try.prog 47 #[.string e.s] W fun e' w' => e' = .returned (.string ob) ∧ Below W.heap.size W w') := ⟨fun W => by have h := SOpaque_any e.s W (by have := HLN.out e HME; rw [bytesOf_length] at this; omega); rw [hob] at h; exact h⟩
        have hmk : ∀ W : World, Below w.heap.size w W → (Below w.heap.size w W ∧ W.cell? (ad.add (k * 4)) = some (.int .u64 e.c) ∧ W.cell? ⟨(ad.add (k * 4)).block, (ad.add (k * 4)).off + 1, none⟩ = some (.int .u32 e.i) ∧ W.cell? ⟨(ad.add (k * 4)).block, (ad.add (k * 4)).off + 2, none⟩ = some (.int .u32 e.g) ∧ W.cell? ⟨(ad.add (k * 4)).block, (ad.add (k * 4)).off + 3, none⟩ = some (.string e.s)) := fun W hb => by
          obtain ⟨ad', e', d0, d1, d2, d3⟩ := kE_at (Kd.C_below HR.out hb) k e he
          injection e' with e'
          subst e'
          exact ⟨hb, d0, d1, d2, d3⟩
        have HMK := Aside0.mk hmk
        clear he hmk ha8 ha4 hb4 hob hlt hk HWE HME z8 z4 y4 zo zt
        go_wp2_with fail
        go_region_held3 (fun W => Below w.heap.size w W ∧ W.cell? (ad.add (k * 4)) = some (.int .u64 e.c) ∧ W.cell? ⟨(ad.add (k * 4)).block, (ad.add (k * 4)).off + 1, none⟩ = some (.int .u32 e.i) ∧ W.cell? ⟨(ad.add (k * 4)).block, (ad.add (k * 4)).off + 2, none⟩ = some (.int .u32 e.g) ∧ W.cell? ⟨(ad.add (k * 4)).block, (ad.add (k * 4)).off + 3, none⟩ = some (.string e.s)) (first | exact HMK.out _ (below_drew1 HB.out) | exact HMK.out _ (below_step (And.left ‹_ ∧ _›) ‹Below (World.heap _).size _ _›) | exact HMK.out _ (And.left ‹_ ∧ _›) | fail)
          (first
            | (go_at_call 59; (with_reducible refine (HQ8.out _).mono ?_); rintro e' w6 ⟨rfl, hb6⟩)
            | (go_at_call 46; (with_reducible refine (HQ4.out _).mono ?_); rintro e' w6 ⟨rfl, hb6⟩)
            | (go_at_call 46; (with_reducible refine (HQ5.out _).mono ?_); rintro e' w6 ⟨rfl, hb6⟩)
            | (go_at_call 47; (with_reducible refine (HQ9.out _).mono ?_); rintro e' w6 ⟨rfl, hb6⟩)
            | fail)
        all_goals (
          have HBf := Aside0.mk (And.left ‹Below w.heap.size w _ ∧ _›)
          go_wp2
          go_roundg (l.length - k - 1)
          case measure => have := HLT.out; have := HKQ.out; omega
          case rel => exact ⟨k + 1, t ++ (a8 ++ a4 ++ b4 ++ ob), by have := HLT.out; have := HKQ.out; omega, by go_num, rfl, HS, HBf⟩)
      · have hd : decide ((k : Int) < (l.length : Int)) = false := decide_eq_false (by omega)
        have hk' : k = l.length := by omega
        subst hk'
        have HT2 : Aside0 (t = strOfNums (l.flatMap encE)) := ⟨by rw [HT.out, List.take_length]⟩
        go_wp2
        go_ret2
        exact ⟨by rw [← HT2.out]; rfl, HB.out⟩
end Go.Proofs.Ytgjajalneknagaa.Hm
end
section
/- Chapter 8's laws: are entries few and short; conditions: those that each theorem names. -/
namespace Go.Proofs.Ytgjajalneknagaa.Hm
open Go.RowKit Go.Proofs.YtgjajalneknagaaW.PrintWords Go.Proofs.YtgjajalneknagaaW.PrintLast Go.Proofs.YtgjajalneknagaaW.PrintMore
set_option linter.unusedVariables false
set_option linter.unusedSimpArgs false

end Go.Proofs.Ytgjajalneknagaa.Hm
end
