/- Part E of the lemmas and walks of the Go functions that these statements reach; conditions: those that each theorem names. -/
import Derived.Test.YtpbhanpblmoepaaGreatJD
section
/- Chapter 8's laws: entries as the reference has them; conditions: those that each theorem names. -/
namespace Go.Proofs.YtpbhanpblmoepaaGreat.Hm
open Go.RowKit Go.Proofs.YtpbhanpblmoepaaGreatW.PrintWords Go.Proofs.YtpbhanpblmoepaaGreatW.PrintLast Go.Proofs.YtpbhanpblmoepaaGreatW.PrintMore
set_option linter.unusedVariables false
set_option linter.unusedSimpArgs false

theorem infoE8 : (Tryz.prog.info? 131).map (fun i => (i.zero, i.size, i.bytes)) = some (some (.agg #[.int .u64 0, .int .u32 0, .int .u32 0, .string ⟨#[]⟩]), 4, 32) := by kernel_rfl
end Go.Proofs.YtpbhanpblmoepaaGreat.Hm
end
section
/- Chapter 8's laws: a row of the reference's entries is the same as itself; conditions: those that each theorem names. -/
namespace Go.Proofs.YtpbhanpblmoepaaGreat.Hm
open Go.RowKit Go.Proofs.YtpbhanpblmoepaaGreatW.PrintWords Go.Proofs.YtpbhanpblmoepaaGreatW.PrintLast Go.Proofs.YtpbhanpblmoepaaGreatW.PrintMore
set_option linter.unusedVariables false
set_option linter.unusedSimpArgs false

theorem eqH (d : Nat) (w : World) (x0 y0 x1 y1 : Int) :
    (Op.equalIn (d + 2) 27 (.agg #[.int .u32 x0, .int .u32 x1]) (.agg #[.int .u32 y0, .int .u32 y1])).run Tryz.prog w = .ok (x0 == y0 && (x1 == y1)) w := by
  refine eqA_of Tryz.underlying27 (by kernel_rfl) ?_
  refine eqf_cons (by rfl) (by go_simp; rfl) (by go_simp; rfl) (by go_simp) ?_
  exact eqf_last (by rfl) (by go_simp; rfl) (by go_simp; rfl) (by go_simp)
theorem eqE8 (d : Nat) (w : World) (x0 y0 x1 y1 x2 y2 : Int) (x3 y3 : ByteArray) :
    (Op.equalIn (d + 3) 131 (.agg #[.int .u64 x0, .int .u32 x1, .int .u32 x2, .string x3]) (.agg #[.int .u64 y0, .int .u32 y1, .int .u32 y2, .string y3])).run Tryz.prog w = .ok (x0 == y0 && ((x1 == y1 && (x2 == y2)) && (x3.toList == y3.toList))) w := by
  refine eqA_of Tryz.underlying131 (by kernel_rfl) ?_
  refine eqf_cons (by rfl) (by go_simp; rfl) (by go_simp; rfl) (by go_simp) ?_
  refine eqf_cons (by rfl) (a := .agg #[.int .u32 x1, .int .u32 x2]) (b := .agg #[.int .u32 y1, .int .u32 y2]) (by go_simp) (by go_simp) (eqH d w x1 y1 x2 y2) ?_
  exact eqf_last (by rfl) (by go_simp; rfl) (by go_simp; rfl) (by go_simp)
attribute [local go_sem high] eqE8
end Go.Proofs.YtpbhanpblmoepaaGreat.Hm
end
section
/- Chapter 8's reference: Find, Name; conditions: those that each theorem names. -/
namespace Go.Proofs.YtpbhanpblmoepaaGreat.Hm
open Go.RowKit Go.Proofs.YtpbhanpblmoepaaGreatW.PrintWords Go.Proofs.YtpbhanpblmoepaaGreatW.PrintLast Go.Proofs.YtpbhanpblmoepaaGreatW.PrintMore
set_option linter.unusedVariables false
set_option linter.unusedSimpArgs false

set_option maxHeartbeats 2000000 in
set_option maxRecDepth 100000 in
theorem RFind_any (A : Option Addr) (c : Nat) (l : List Ent) (s : ByteArray) (w : World) (hr : kE.C w A l.length l) (hc : l.length ≤ c) :
    Calls Tryz.prog 85 #[.slice A l.length c, .string s] w fun e' w' => e' = .returned (.int .i64 (idxE (fun e => e.s.toList == s.toList) l)) ∧ w' = w := by
  have HR := Aside0.mk hr
  have hm := hr.2.1
  clear hr
  go_enter Tryz.func85, Tryz.ntmps85
  go_wp2
  go_loopg [5] l.length (fun kq v5 w' => ∃ k : Nat, k + kq = l.length ∧ v5 = .int .i64 k ∧ Aside0 (∀ e ∈ l.take k, (e.s.toList == s.toList) = false) ∧ w' = w)
  case atStart => exact ⟨0, by omega, rfl, ⟨by simp⟩, rfl⟩
  case round =>
    obtain ⟨k, hk, rfl, HN, rfl⟩ := hrel
    by_cases hlt : k < l.length
    · have hd : decide ((k : Int) < (l.length : Int)) = true := decide_eq_true (by omega)
      obtain ⟨e, he⟩ : ∃ e, l[k]? = some e := ⟨_, List.getElem?_eq_getElem hlt⟩
      obtain ⟨ad, e1, h1, h2, h3, h4⟩ := kE_at HR.out k e he
      subst e1
      have p0 : (0 : Int) ≤ (k : Int) := by omega
      have p1 : (k : Int) < (l.length : Int) := by omega
      have HE := Aside0.mk he
      clear he
      cases hs : (e.s.toList == s.toList) with
      | true =>
        have HS := Aside0.mk hs
        go_wp2
        go_ret
        exact ⟨by rw [idxE_hit _ l k e HE.out HS.out HN.out]; rfl, rfl⟩
      | false =>
        have HS := Aside0.mk hs
        go_wp2
        go_roundg (l.length - k - 1)
        case measure => omega
        case rel => exact ⟨k + 1, by omega, by go_num, ⟨none_step _ l k e HE.out HS.out HN.out⟩, rfl⟩
    · have hd : decide ((k : Int) < (l.length : Int)) = false := decide_eq_false (by omega)
      have hk' : k = l.length := by omega
      subst hk'
      go_wp2
      go_ret
      exact ⟨by rw [idxE_none _ l (by have h := HN.out; rw [List.take_length] at h; exact h)]; rfl, rfl⟩
set_option maxHeartbeats 4000000 in
set_option maxRecDepth 100000 in
theorem RName_any (s : ByteArray) (w : World) : Calls Tryz.prog 84 #[.string s] w fun e w' => e = .returned (.int .i64 (nameE (bytesOf s))) ∧ w' = w := by
  by_cases h0 : s.size = 0
  · have hb : bytesOf s = [] := List.eq_nil_of_length_eq_zero (by rw [bytesOf_length]; exact h0)
    have hz : s.toList.isEmpty = true := by
      have := (toList_iff s ⟨#[]⟩).2 (by rw [hb]; rfl)
      rw [this]; decide +kernel
    have hz2 : (s.toList == []) = true := by
      have := (toList_iff s ⟨#[]⟩).2 (by rw [hb]; rfl)
      rw [this]; decide +kernel
    have HE : Aside0 (nameE (bytesOf s) = 67) := ⟨by rw [hb]; rfl⟩
    go_enter Tryz.func84, Tryz.ntmps84
    go_wp2
    go_ret
    exact ⟨by rw [HE.out]; rfl, rfl⟩
  · have hnil : ¬ s.toList = [] := by
      intro h
      have := (toList_iff s ⟨#[]⟩).1 (by rw [h]; decide +kernel)
      have h2 := congrArg List.length this
      rw [bytesOf_length] at h2
      exact h0 h2
    have hz : s.toList.isEmpty = false := by rw [Bool.eq_false_iff]; intro h; exact hnil (List.isEmpty_iff.1 h)
    have hz2 : (s.toList == []) = false := beq_eq_false_iff_ne.2 hnil
    by_cases h24 : 24 < s.size
    · have hd : decide ((24 : Int) < (s.size : Int)) = true := decide_eq_true (by omega)
      have HE : Aside0 (nameE (bytesOf s) = 67) := ⟨by unfold nameE nameB; rw [bytesOf_length, show decide (s.size ≤ 24) = false from decide_eq_false (by omega)]; simp⟩
      go_enter Tryz.func84, Tryz.ntmps84
      go_wp2
      go_ret
      exact ⟨by rw [HE.out]; rfl, rfl⟩
    · have hd : decide ((24 : Int) < (s.size : Int)) = false := decide_eq_false (by omega)
      cases h3 : (s.toList == [46]) with
      | true =>
        have HE : Aside0 (nameE (bytesOf s) = 67) := ⟨by rw [dot_iff, decide_eq_true_iff] at h3; rw [h3]; decide⟩
        go_enter Tryz.func84, Tryz.ntmps84
        go_wp2
        go_ret
        exact ⟨by rw [HE.out]; rfl, rfl⟩
      | false =>
        cases h4 : (s.toList == [46, 46]) with
        | true =>
          have HE : Aside0 (nameE (bytesOf s) = 67) := ⟨by rw [dots_iff, decide_eq_true_iff] at h4; rw [h4]; decide⟩
          go_enter Tryz.func84, Tryz.ntmps84
          go_wp2
          go_ret
          exact ⟨by rw [HE.out]; rfl, rfl⟩
        | false =>
          have HM : Aside0 (∀ mk, (!sepB ((bytesOf s).take s.size)) = mk → nameE (bytesOf s) = if mk = true then 0 else 67) := ⟨fun mk hm => nameE_M (b1 := true) (b2 := true) (b3 := false) (b4 := false) (decide_eq_true (by omega)) (decide_eq_true (by omega)) h3 h4 (by simpa using hm)⟩
          have HMM : Aside0 (∀ k (h : k < s.size), sepR ((s[k]'h).toNat : Int) = true → nameE (bytesOf s) = 67) := ⟨fun k h hx => by
            have := HM.out false (by
              rw [List.take_of_length_le (by rw [bytesOf_length]; exact Nat.le_refl _), Bool.not_eq_false']
              unfold sepB
              rw [List.any_eq_true]
              refine ⟨((s[k]'h).toNat : Int), ?_, hx⟩
              rw [byte_rd s k h, rd_at _ k (by rw [bytesOf_length]; exact h)]
              exact List.getElem_mem _)
            simpa using this⟩
          go_enter Tryz.func84, Tryz.ntmps84
          go_wp2
          go_loopg [3] s.size (fun kq v3 w' => ∃ k : Nat, k + kq = s.size ∧ v3 = .int .i64 k ∧ Aside0 (sepB ((bytesOf s).take k) = false) ∧ w' = w)
          case atStart => exact ⟨0, by omega, rfl, ⟨rfl⟩, rfl⟩
          case round =>
            obtain ⟨k, hk, rfl, HS, rfl⟩ := hrel
            by_cases hlt : k < s.size
            · have hd2 : decide ((k : Int) < (s.size : Int)) = true := decide_eq_true (by omega)
              have p0 : (0 : Int) ≤ (k : Int) := by omega
              have p1 : (k : Int) < (s.size : Int) := by omega
              have HST := Aside0.mk (sepB_take s k hlt)
              cases hx : sepR ((s[k]'hlt).toNat : Int) with
              | true =>
                have HE : Aside0 (nameE (bytesOf s) = 67) := ⟨HMM.out k hlt hx⟩
                have hxx : (s[k]'hlt).toNat = 47 ∨ (s[k]'hlt).toNat = 0 := by unfold sepR at hx; rw [decide_eq_true_iff] at hx; omega
                clear hx
                rcases hxx with hx | hx
                · have q0 : (((s[k]'hlt).toNat : Int) == 0) = false := by rw [hx]; rfl
                  have q1 : (((s[k]'hlt).toNat : Int) == 47) = true := by rw [hx]; rfl
                  clear hx
                  go_wp2
                  go_ret
                  exact ⟨by rw [HE.out]; rfl, rfl⟩
                · have q0 : (((s[k]'hlt).toNat : Int) == 0) = true := by rw [hx]; rfl
                  clear hx
                  go_wp2
                  go_ret
                  exact ⟨by rw [HE.out]; rfl, rfl⟩
              | false =>
                have hS2 := Aside0.mk (show sepB ((bytesOf s).take (k + 1)) = false by rw [HST.out, HS.out, hx]; rfl)
                have hxx : (s[k]'hlt).toNat ≠ 47 ∧ (s[k]'hlt).toNat ≠ 0 := by unfold sepR at hx; rw [decide_eq_false_iff_not] at hx; omega
                have q0 : (((s[k]'hlt).toNat : Int) == 0) = false := by rw [beq_eq_false_iff_ne]; omega
                have q1 : (((s[k]'hlt).toNat : Int) == 47) = false := by rw [beq_eq_false_iff_ne]; omega
                have n0 : ¬ (s[k]'hlt).toNat = 0 := hxx.2
                have n1 : ¬ (s[k]'hlt).toNat = 47 := hxx.1
                clear hx hxx
                go_wp2
                go_roundg (s.size - k - 1)
                case measure => omega
                case rel => exact ⟨k + 1, by omega, by go_num, hS2, rfl⟩
            · have hd2 : decide ((k : Int) < (s.size : Int)) = false := decide_eq_false (by omega)
              have hk' : k = s.size := by omega
              subst hk'
              have HE : Aside0 (nameE (bytesOf s) = 0) := ⟨by rw [HM.out true (by rw [HS.out]; rfl)]; rfl⟩
              go_wp2
              go_ret
              exact ⟨by rw [HE.out]; rfl, rfl⟩
end Go.Proofs.YtpbhanpblmoepaaGreat.Hm
end
section
/- Chapter 8's reference: Add, Remove; conditions: those that each theorem names. -/
namespace Go.Proofs.YtpbhanpblmoepaaGreat.Hm
open Go.RowKit Go.Proofs.YtpbhanpblmoepaaGreatW.PrintWords Go.Proofs.YtpbhanpblmoepaaGreatW.PrintLast Go.Proofs.YtpbhanpblmoepaaGreatW.PrintMore
set_option linter.unusedVariables false
set_option linter.unusedSimpArgs false

end Go.Proofs.YtpbhanpblmoepaaGreat.Hm
end
section
/- Chapter 8's reference: Remove; conditions: those that each theorem names. -/
namespace Go.Proofs.YtpbhanpblmoepaaGreat.Hm
open Go.RowKit Go.Proofs.YtpbhanpblmoepaaGreatW.PrintWords Go.Proofs.YtpbhanpblmoepaaGreatW.PrintLast Go.Proofs.YtpbhanpblmoepaaGreatW.PrintMore
set_option linter.unusedVariables false
set_option linter.unusedSimpArgs false

end Go.Proofs.YtpbhanpblmoepaaGreat.Hm
end
section
/- Chapter 8's reference: After; conditions: those that each theorem names. -/
namespace Go.Proofs.YtpbhanpblmoepaaGreat.Hm
open Go.RowKit Go.Proofs.YtpbhanpblmoepaaGreatW.PrintWords Go.Proofs.YtpbhanpblmoepaaGreatW.PrintLast Go.Proofs.YtpbhanpblmoepaaGreatW.PrintMore
set_option linter.unusedVariables false
set_option linter.unusedSimpArgs false

end Go.Proofs.YtpbhanpblmoepaaGreat.Hm
end
section
/- Chapter 8's reference: May; conditions: those that each theorem names. -/
namespace Go.Proofs.YtpbhanpblmoepaaGreat.Hm
open Go.RowKit Go.Proofs.YtpbhanpblmoepaaGreatW.PrintWords Go.Proofs.YtpbhanpblmoepaaGreatW.PrintLast Go.Proofs.YtpbhanpblmoepaaGreatW.PrintMore
set_option linter.unusedVariables false
set_option linter.unusedSimpArgs false

/-- The first place of an entry's name is its own, or an elder's. -/
theorem idxE_take (p : Ent → Bool) (l : List Ent) (k : Nat) (e : Ent) (he : l[k]? = some e) (hp : p e = true) : (idxE p l = k ↔ idxE p (l.take k) < 0) := by
  constructor
  · intro h
    rcases idxE_cases p (l.take k) with h1 | ⟨j, hj, h1⟩
    · rw [h1]; decide
    · exfalso
      unfold idxE at h1 h
      cases h2 : (l.take k).findIdx? p with
      | none => rw [h2] at h1; have h1' : (-1 : Int) = j := h1; omega
      | some i =>
        rw [h2] at h1
        have hij : i = j := by have h1' : (i : Int) = j := h1; omega
        subst hij
        have hlt : i < k := by rw [List.length_take] at hj; omega
        obtain ⟨hi, hpi, hno⟩ := List.findIdx?_eq_some_iff_getElem.1 h2
        cases h3 : l.findIdx? p with
        | none => rw [h3] at h; have h' : (-1 : Int) = k := h; omega
        | some m =>
          rw [h3] at h
          have hmk : m = k := by have h' : (m : Int) = k := h; omega
          subst hmk
          obtain ⟨hm, hpm, hnm⟩ := List.findIdx?_eq_some_iff_getElem.1 h3
          have h4 := hnm i hlt
          rw [List.getElem_take] at hpi
          exact h4 hpi
  · intro h
    refine idxE_hit p l k e he hp (fun x hx => ?_)
    rcases idxE_cases p (l.take k) with h1 | ⟨j, hj, h1⟩
    · unfold idxE at h1
      cases h2 : (l.take k).findIdx? p with
      | none => exact List.findIdx?_eq_none_iff.1 h2 x hx
      | some i => rw [h2] at h1; have h1' : (i : Int) = -1 := h1; omega
    · rw [h1] at h; omega
theorem lastC_take (l : List Ent) (k : Nat) (y : Ent) (hy : l[k]? = some y) : lastC (l.take (k + 1)) = y.c := by
  obtain ⟨hlt, hv⟩ := List.getElem?_eq_some_iff.1 hy
  rw [List.take_succ_eq_append_getElem hlt, hv]
  unfold lastC
  simp
theorem addM_two (l : List Ent) (e : Ent) : ((addM l e).2 = 0 ↔ nameE (bytesOf e.s) = 0 ∧ idxE (fun x => x.s.toList == e.s.toList) l < 0 ∧ lastC l < e.c) := by
  unfold addM
  by_cases h1 : nameE (bytesOf e.s) = 0
  · rw [if_neg (by simp [h1])]
    by_cases h2 : 0 ≤ idxE (fun x => x.s.toList == e.s.toList) l
    · rw [if_pos h2]
      constructor
      · intro h; cases h
      · rintro ⟨_, h3, _⟩; omega
    · rw [if_neg h2]
      by_cases h3 : e.c ≤ lastC l
      · rw [if_pos h3]
        constructor
        · intro h; cases h
        · rintro ⟨_, _, h4⟩; omega
      · rw [if_neg h3]
        exact ⟨fun _ => ⟨h1, by omega, by omega⟩, fun _ => rfl⟩
  · rw [if_pos h1]
    exact ⟨fun h => absurd h h1, fun h => absurd h.1 h1⟩
theorem mayOk_step {l : List Ent} {k : Nat} {e : Ent} (he : l[k]? = some e) : mayOk (l.take (k + 1)) ↔ mayOk (l.take k) ∧ (addM (l.take k) e).2 = 0 := by
  obtain ⟨hlt, hv⟩ := List.getElem?_eq_some_iff.1 he
  rw [List.take_succ_eq_append_getElem hlt, hv]
  exact mayOk_snoc
theorem mayB_no {l : List Ent} {k : Nat} {e : Ent} (he : l[k]? = some e) (h : ¬ (addM (l.take k) e).2 = 0) : mayB l = false :=
  Bool.eq_false_iff.2 fun hm => h ((mayB_iff l).1 hm k e he)
theorem lastC_pos (l : List Ent) (k : Nat) (h : ∀ e ∈ l, 0 ≤ e.c) : 0 ≤ lastC (l.take k) := by
  unfold lastC
  cases h1 : (l.take k).getLast? with
  | none => exact Int.le_refl _
  | some e => exact h e (List.mem_of_mem_take (List.mem_of_getLast? h1))
set_option maxHeartbeats 4000000 in
set_option maxRecDepth 100000 in
theorem RMay_any (A : Option Addr) (c : Nat) (l : List Ent) (w : World) (hr : kE.C w A l.length l) (hc : l.length ≤ c) (hp : ∀ e ∈ l, 0 ≤ e.c) :
    Calls Tryz.prog 79 #[.slice A l.length c] w fun e' w' => e' = .returned (.bool (mayB l)) ∧ Below w.heap.size w w' := by
  have HR := Aside0.mk hr
  have HP := Aside0.mk hp
  have hm := hr.2.1
  clear hr hp
  go_enter Tryz.func79, Tryz.ntmps79
  go_wp2
  go_loopg [3] l.length (fun kq v3 w' => ∃ k : Nat, k + kq = l.length ∧ v3 = .int .i64 k ∧ Aside0 (mayOk (l.take k)) ∧ Aside0 (Below w.heap.size w w'))
  case atStart => exact ⟨0, by omega, rfl, ⟨by rw [List.take_zero]; exact mayOk_nil⟩, ⟨Below.refl _ _⟩⟩
  case round =>
    obtain ⟨k, hk, rfl, HOK, HB⟩ := hrel
    by_cases hlt : k < l.length
    · have hd : decide ((k : Int) < (l.length : Int)) = true := decide_eq_true (by omega)
      obtain ⟨e, he⟩ : ∃ e, l[k]? = some e := ⟨_, List.getElem?_eq_getElem hlt⟩
      have HRr := Aside0.mk (Kd.C_below HR.out HB.out)
      obtain ⟨ad, e1, c0, c1, c2, c3⟩ := kE_at HRr.out k e he
      subst e1
      have p0 : (0 : Int) ≤ (k : Int) := by omega
      have p1 : (k : Int) < (l.length : Int) := by omega
      have HE := Aside0.mk he
      have HLT := Aside0.mk hlt
      have HKQ := Aside0.mk hk
      have hcp := HP.out e (List.mem_of_getElem? he)
      obtain ⟨ne, hne⟩ : ∃ x, nameE (bytesOf e.s) = x := ⟨_, rfl⟩
      obtain ⟨z, hz⟩ : ∃ z, idxE (fun x => x.s.toList == e.s.toList) l = z := ⟨_, rfl⟩
      have HNE := Aside0.mk hne
      have HZK : Aside0 (z = k ↔ idxE (fun x => x.s.toList == e.s.toList) (l.take k) < 0) := ⟨by rw [← hz]; exact idxE_take _ l k e he (beq_self_eq_true _)⟩
      have HQ1 : Aside0 (∀ W : World, Calls Tryz.prog 84 #[.string e.s] W fun e' w' => e' = .returned (.int .i64 ne) ∧ w' = W) := ⟨fun W => by have h := RName_any e.s W; rw [hne] at h; exact h⟩
      have HQ2 : Aside0 (∀ W : World, kE.C W (some ad) l.length l → Calls Tryz.prog 85 #[.slice (some ad) l.length c, .string e.s] W fun e' w' => e' = .returned (.int .i64 z) ∧ w' = W) := ⟨fun W h => by have h2 := RFind_any (some ad) c l e.s W h hc; rw [hz] at h2; exact h2⟩
      clear hne hz
      by_cases hn : ne = 0
      · subst hn
        by_cases hc0 : e.c = 0
        · have q1 : (e.c == 0) = true := by rw [hc0]; rfl
          have HNO : Aside0 (mayB l = false) := ⟨mayB_no HE.out (by rw [addM_two]; rintro ⟨_, _, h3⟩; have h4 := lastC_pos l k HP.out; omega)⟩
          clear hc0 hcp he hlt hk
          go_wp2
          go_quiet (first | (go_at_call 84; exact Calls.quiet_of_same (HQ1.out _)) | (go_at_call 85; exact Calls.quiet_of_same (HQ2.out _ (Kd.C_drewN HRr.out _))) | fail)
          have HBd := Aside0.mk (pw_below_drewN HB.out nq)
          go_wp2
          go_ret
          exact ⟨by rw [HNO.out]; rfl, HBd.out⟩
        · have q1 : (e.c == 0) = false := by rw [beq_eq_false_iff_ne]; exact hc0
          by_cases hk0 : k = 0
          · have q2 : decide ((0 : Int) < (k : Int)) = false := decide_eq_false (by omega)
            have q2b : decide (0 < k) = false := decide_eq_false (by omega)
            have q2c : ¬ (0 : Int) < (k : Int) := by omega
            have HL0 : Aside0 (lastC (l.take k) = 0) := ⟨by rw [hk0]; rfl⟩
            by_cases hzk : z = k
            · have q3 : (z != (k : Int)) = false := by rw [hzk]; simp
              subst hzk
              have HOK2 : Aside0 (mayOk (l.take (k + 1))) := ⟨(mayOk_step HE.out).2 ⟨HOK.out, by rw [addM_two]; exact ⟨HNE.out, HZK.out.1 rfl, by rw [HL0.out]; omega⟩⟩⟩
              clear hc0 hcp he hlt hk hk0
              go_wp2
              go_quiet (first | (go_at_call 84; exact Calls.quiet_of_same (HQ1.out _)) | (go_at_call 85; exact Calls.quiet_of_same (HQ2.out _ (Kd.C_drewN HRr.out _))) | fail)
              have HBd := Aside0.mk (pw_below_drewN HB.out nq)
              go_wp2
              go_roundg (l.length - k - 1)
              case measure => have := HLT.out; have := HKQ.out; omega
              case rel => exact ⟨k + 1, by have := HLT.out; have := HKQ.out; omega, by go_num, HOK2, HBd⟩
            · have q3 : (z != (k : Int)) = true := by simpa using hzk
              have HNO : Aside0 (mayB l = false) := ⟨mayB_no HE.out (by rw [addM_two]; rintro ⟨_, h2, _⟩; exact hzk (HZK.out.2 h2))⟩
              clear hc0 hcp he hlt hk hk0 hzk
              go_wp2
              go_quiet (first | (go_at_call 84; exact Calls.quiet_of_same (HQ1.out _)) | (go_at_call 85; exact Calls.quiet_of_same (HQ2.out _ (Kd.C_drewN HRr.out _))) | fail)
              have HBd := Aside0.mk (pw_below_drewN HB.out nq)
              go_wp2
              go_ret
              exact ⟨by rw [HNO.out]; rfl, HBd.out⟩
          · obtain ⟨k', hk'⟩ : ∃ k', k = k' + 1 := ⟨k - 1, by omega⟩
            obtain ⟨y, hy⟩ : ∃ y, l[k']? = some y := ⟨_, List.getElem?_eq_getElem (by omega)⟩
            obtain ⟨ad', e', d0, d1, d2, d3⟩ := kE_at HRr.out k' y hy
            injection e' with e'
            subst e'
            have q2 : decide ((0 : Int) < (k : Int)) = true := decide_eq_true (by omega)
            have q2b : decide (0 < k) = true := decide_eq_true (by omega)
            have hw : IntKind.i64.wrap ((k : Int) - 1) = (k' : Int) := by rw [IntKind.wrap_i64]; omega
            have r0 : (0 : Int) ≤ (k' : Int) := by omega
            have r1 : (k' : Int) < (l.length : Int) := by omega
            have HLC : Aside0 (lastC (l.take k) = y.c) := ⟨by rw [hk']; exact lastC_take l k' y hy⟩
            by_cases hle : e.c ≤ y.c
            · have q4 : decide (e.c ≤ y.c) = true := decide_eq_true hle
              have HNO : Aside0 (mayB l = false) := ⟨mayB_no HE.out (by rw [addM_two]; rintro ⟨_, _, h3⟩; rw [HLC.out] at h3; omega)⟩
              clear hc0 hcp he hlt hk hk' hk0 hle hy
              go_wp2
              go_quiet (first | (go_at_call 84; exact Calls.quiet_of_same (HQ1.out _)) | (go_at_call 85; exact Calls.quiet_of_same (HQ2.out _ (Kd.C_drewN HRr.out _))) | fail)
              have HBd := Aside0.mk (pw_below_drewN HB.out nq)
              go_wp2
              go_ret
              exact ⟨by rw [HNO.out]; rfl, HBd.out⟩
            · have q4 : decide (e.c ≤ y.c) = false := decide_eq_false hle
              by_cases hzk : z = k
              · have q3 : (z != (k : Int)) = false := by rw [hzk]; simp
                subst hzk
                have HOK2 : Aside0 (mayOk (l.take (k + 1))) := ⟨(mayOk_step HE.out).2 ⟨HOK.out, by rw [addM_two]; exact ⟨HNE.out, HZK.out.1 rfl, by rw [HLC.out]; omega⟩⟩⟩
                clear hc0 hcp he hlt hk hk' hk0 hle hy
                go_wp2
                go_quiet (first | (go_at_call 84; exact Calls.quiet_of_same (HQ1.out _)) | (go_at_call 85; exact Calls.quiet_of_same (HQ2.out _ (Kd.C_drewN HRr.out _))) | fail)
                have HBd := Aside0.mk (pw_below_drewN HB.out nq)
                go_wp2
                go_roundg (l.length - k - 1)
                case measure => have := HLT.out; have := HKQ.out; omega
                case rel => exact ⟨k + 1, by have := HLT.out; have := HKQ.out; omega, by go_num, HOK2, HBd⟩
              · have q3 : (z != (k : Int)) = true := by simpa using hzk
                have HNO : Aside0 (mayB l = false) := ⟨mayB_no HE.out (by rw [addM_two]; rintro ⟨_, h2, _⟩; exact hzk (HZK.out.2 h2))⟩
                clear hc0 hcp he hlt hk hk' hk0 hle hy hzk
                go_wp2
                go_quiet (first | (go_at_call 84; exact Calls.quiet_of_same (HQ1.out _)) | (go_at_call 85; exact Calls.quiet_of_same (HQ2.out _ (Kd.C_drewN HRr.out _))) | fail)
                have HBd := Aside0.mk (pw_below_drewN HB.out nq)
                go_wp2
                go_ret
                exact ⟨by rw [HNO.out]; rfl, HBd.out⟩
      · have q0 : (ne != 0) = true := by simpa using hn
        have HNO : Aside0 (mayB l = false) := ⟨mayB_no HE.out (by rw [addM_two]; rintro ⟨h1, _⟩; exact hn (HNE.out ▸ h1))⟩
        clear hcp he hlt hk hn
        go_wp2
        go_quiet (first | (go_at_call 84; exact Calls.quiet_of_same (HQ1.out _)) | (go_at_call 85; exact Calls.quiet_of_same (HQ2.out _ (Kd.C_drewN HRr.out _))) | fail)
        have HBd := Aside0.mk (pw_below_drewN HB.out nq)
        go_wp2
        go_ret
        exact ⟨by rw [HNO.out]; rfl, HBd.out⟩
    · have hd : decide ((k : Int) < (l.length : Int)) = false := decide_eq_false (by omega)
      have hk' : k = l.length := by omega
      subst hk'
      have HY : Aside0 (mayB l = true) := ⟨(mayB_iff l).2 (by have h := HOK.out; rw [List.take_length] at h; exact h)⟩
      go_wp2
      go_ret
      exact ⟨by rw [HY.out]; rfl, HB.out⟩
end Go.Proofs.YtpbhanpblmoepaaGreat.Hm
end
section
/- Chapter 1's reference: numbers and bytes as strings; conditions: those that each theorem names. -/
namespace Go.Proofs.YtpbhanpblmoepaaGreat.Hm
open Go.RowKit Go.Proofs.YtpbhanpblmoepaaGreatW.PrintWords Go.Proofs.YtpbhanpblmoepaaGreatW.PrintLast Go.Proofs.YtpbhanpblmoepaaGreatW.PrintMore
set_option linter.unusedVariables false
set_option linter.unusedSimpArgs false

set_option maxHeartbeats 1000000 in
set_option maxRecDepth 100000 in
theorem SU32_any (x : Int) (w : World) (h0 : 0 ≤ x) (h1 : x < 4294967296) : Calls Tryz.prog 11 #[.int .u32 x] w fun e w' => e = .returned (.string (strOfNums (be32 x))) ∧ Below w.heap.size w w' := by
  have q0 : IntKind.u8.wrap (x / 16777216) = x / 16777216 % 256 := by rw [IntKind.wrap_u8]
  have q1 : IntKind.u8.wrap (x / 65536) = x / 65536 % 256 := by rw [IntKind.wrap_u8]
  have q2 : IntKind.u8.wrap (x / 256) = x / 256 % 256 := by rw [IntKind.wrap_u8]
  have q3 : IntKind.u8.wrap x = x % 256 := by rw [IntKind.wrap_u8]
  have hcv := Kd.C_string (P := Tryz.prog) (src := 22) (dst := 9) (e := 5) (c := 4) Tryz.underlying22 Tryz.underlying5 Tryz.underlying9 (C_of_block (be32 x) (blk_new w (.cells #[.int .u8 (x / 16777216 % 256), .int .u8 (x / 65536 % 256), .int .u8 (x / 256 % 256), .int .u8 (x % 256)] 5)) rfl (show (4 : Nat) ≤ 9223372036854775807 by decide))
  rw [show (be32 x).length = 4 from rfl] at hcv
  go_enter Tryz.func11, Tryz.ntmps11
  go_wp2
  go_ret
  exact ⟨rfl, below_alloc (Below.refl _ _) _⟩
end Go.Proofs.YtpbhanpblmoepaaGreat.Hm
end
section
/- Chapter 8's reference: Put; conditions: those that each theorem names. -/
namespace Go.Proofs.YtpbhanpblmoepaaGreat.Hm
open Go.RowKit Go.Proofs.YtpbhanpblmoepaaGreatW.PrintWords Go.Proofs.YtpbhanpblmoepaaGreatW.PrintLast Go.Proofs.YtpbhanpblmoepaaGreatW.PrintMore
set_option linter.unusedVariables false
set_option linter.unusedSimpArgs false

end Go.Proofs.YtpbhanpblmoepaaGreat.Hm
end
section
/- Chapter 8's laws: are entries few and short; conditions: those that each theorem names. -/
namespace Go.Proofs.YtpbhanpblmoepaaGreat.Hm
open Go.RowKit Go.Proofs.YtpbhanpblmoepaaGreatW.PrintWords Go.Proofs.YtpbhanpblmoepaaGreatW.PrintLast Go.Proofs.YtpbhanpblmoepaaGreatW.PrintMore
set_option linter.unusedVariables false
set_option linter.unusedSimpArgs false

end Go.Proofs.YtpbhanpblmoepaaGreat.Hm
end
