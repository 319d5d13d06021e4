/- The Go package dir's entries: what is read of a row of them; Find, last; conditions: those that each theorem names. -/
import Derived.Test.YtlpjchighfdomaaGr
import Derived.Test.YtlpjchighfdomaaGt
namespace Go.Proofs.Ytlpjchighfdomaa.Hm
open Go.RowKit Go.Proofs.YtlpjchighfdomaaW.PrintWords Go.Proofs.YtlpjchighfdomaaW.PrintLast Go.Proofs.YtlpjchighfdomaaW.PrintMore
set_option linter.unusedVariables false
set_option linter.unusedSimpArgs false

/-- An entry: its cookie, its handle's two numbers, its name. -/
structure Ent where
  c : Int
  i : Int
  g : Int
  s : ByteArray
/-- How it lies in memory. -/
def kE : Kd Ent := Kd.iso (Kd.pair (Kd.int .u64) (Kd.pair (Kd.iso (Kd.pair (Kd.int .u32) (Kd.int .u32)) id) Kd.string)) (fun e => (e.c, (e.i, e.g), e.s))
def entC (e : Ent) : List Value := [.int .u64 e.c, .int .u32 e.i, .int .u32 e.g, .string e.s]
def e0 : Ent := ⟨0, 0, 0, ⟨#[]⟩⟩
theorem kE_K {w : World} {e : Ent} {cs : List Value} (h : kE.K w e cs) : cs = entC e := by
  obtain ⟨c0, c1, rfl, h0, c2, c3, rfl, ⟨c4, c5, rfl, h4, h5⟩, h3⟩ := h
  rw [show c0 = [.int .u64 e.c] from h0, show c4 = [.int .u32 e.i] from h4, show c5 = [.int .u32 e.g] from h5, show c3 = [.string e.s] from h3]
  rfl
theorem kE_of (w : World) (e : Ent) : kE.K w e (entC e) := ⟨[.int .u64 e.c], [.int .u32 e.i, .int .u32 e.g, .string e.s], rfl, rfl, [.int .u32 e.i, .int .u32 e.g], [.string e.s], rfl, ⟨[.int .u32 e.i], [.int .u32 e.g], rfl, rfl, rfl⟩, rfl⟩
theorem kE_sz : kE.sz = 4 := rfl
theorem kE_at {w : World} {A : Option Addr} {l : List Ent} (h : kE.C w A l.length l) (k : Nat) (e : Ent) (hk : l[k]? = some e) :
    ∃ ad, A = some ad ∧ w.cell? (ad.add (k * 4)) = some (.int .u64 e.c) ∧ w.cell? ⟨(ad.add (k * 4)).block, (ad.add (k * 4)).off + 1, none⟩ = some (.int .u32 e.i) ∧ w.cell? ⟨(ad.add (k * 4)).block, (ad.add (k * 4)).off + 2, none⟩ = some (.int .u32 e.g) ∧ w.cell? ⟨(ad.add (k * 4)).block, (ad.add (k * 4)).off + 3, none⟩ = some (.string e.s) := by
  have hlt := (List.getElem?_eq_some_iff.1 hk).1
  obtain ⟨ad, c, e, _, hK, hc⟩ := Kd.C_get h e0 (k : Int) (by omega) (by omega)
  rw [Int.toNat_natCast, List.getD_eq_getElem?_getD, hk] at hK
  rw [Int.toNat_natCast, kE_sz] at hc
  have hK2 := kE_K hK
  subst hK2
  exact ⟨ad, e, hc 0 _ rfl, by rw [← add_field _ _ 1 (by omega)]; exact hc 1 _ rfl, by rw [← add_field _ _ 2 (by omega)]; exact hc 2 _ rfl, by rw [← add_field _ _ 3 (by omega)]; exact hc 3 _ rfl⟩
/-- The last entry's cookie. -/
def lastC (l : List Ent) : Int := match l.getLast? with | some e => e.c | none => 0
set_option maxHeartbeats 1000000 in
set_option maxRecDepth 100000 in
theorem last_any (A : Option Addr) (c : Nat) (l : List Ent) (w : World) (hr : kE.C w A l.length l) (hc : l.length ≤ c) :
    Calls Try.prog 66 #[.slice A l.length c] w fun e w' => e = .returned (.int .u64 (lastC l)) ∧ w' = w := by
  have HR := Aside0.mk hr
  have hm := hr.2.1
  clear hr
  by_cases h0 : l.length = 0
  · have hz : ((l.length : Int) == 0) = true := by simp [h0]
    have HL : Aside0 (lastC l = 0) := ⟨by rw [List.eq_nil_of_length_eq_zero h0]; rfl⟩
    go_enter Try.func66, Try.ntmps66
    go_wp2
    go_ret
    exact ⟨by rw [HL.out]; rfl, rfl⟩
  · have hz : ((l.length : Int) == 0) = false := by simp [h0]
    obtain ⟨k, hk⟩ : ∃ k, l.length = k + 1 := ⟨l.length - 1, by omega⟩
    obtain ⟨e, he⟩ : ∃ e, l[k]? = some e := ⟨_, List.getElem?_eq_getElem (by omega)⟩
    obtain ⟨ad, e1, h1, h2, h3, h4⟩ := kE_at HR.out k e he
    subst e1
    have HL : Aside0 (lastC l = e.c) := ⟨by unfold lastC; rw [List.getLast?_eq_getElem?, hk, Nat.add_sub_cancel, he]⟩
    clear he
    go_enter Try.func66, Try.ntmps66
    go_wp2
    go_ret
    exact ⟨by rw [HL.out]; rfl, rfl⟩
/-- The first place of an entry that is so; below 0: none. -/
def idxE (p : Ent → Bool) (l : List Ent) : Int := match l.findIdx? p with | some i => i | none => -1
theorem idxE_hit (p : Ent → Bool) (l : List Ent) (k : Nat) (e : Ent) (he : l[k]? = some e) (hp : p e = true) (hn : ∀ x ∈ l.take k, p x = false) : idxE p l = k := by
  have h : l.findIdx? p = some k := by
    rw [List.findIdx?_eq_some_iff_getElem]
    obtain ⟨hlt, hv⟩ := (List.getElem?_eq_some_iff.1 he)
    refine ⟨hlt, by rw [hv]; exact hp, fun j hj => ?_⟩
    have hj2 : j < l.length := by omega
    have := hn l[j] (by rw [List.mem_take_iff_getElem]; exact ⟨j, by omega, rfl⟩)
    simp [this]
  unfold idxE
  rw [h]
theorem idxE_none (p : Ent → Bool) (l : List Ent) (hn : ∀ x ∈ l, p x = false) : idxE p l = -1 := by
  have h : l.findIdx? p = none := by
    rw [List.findIdx?_eq_none_iff]
    exact hn
  unfold idxE
  rw [h]
theorem none_step (p : Ent → Bool) (l : List Ent) (k : Nat) (e : Ent) (he : l[k]? = some e) (hp : p e = false) (hn : ∀ x ∈ l.take k, p x = false) : ∀ x ∈ l.take (k + 1), p x = false := by
  intro x hx
  obtain ⟨hlt, hv⟩ := List.getElem?_eq_some_iff.1 he
  rw [List.take_succ_eq_append_getElem hlt, List.mem_append, List.mem_singleton] at hx
  rcases hx with hx | hx
  · exact hn x hx
  · rw [hx, hv]; exact hp
set_option maxHeartbeats 1000000 in
set_option maxRecDepth 100000 in
theorem isName_any (e : Ent) (g : Nat) (s : ByteArray) (w : World) (hg : w.heap[g]? = some (.cells #[.string s] 9 (0, 0))) :
    Calls Try.prog 65 #[.agg #[.int .u64 e.c, .int .u32 e.i, .int .u32 e.g, .string e.s], .pointer (some ⟨g, 0, none⟩)] w fun e' w' => e' = .returned (.bool (e.s.toList == s.toList)) ∧ Below w.heap.size w w' := by
  have hcl := blk_cell hg 0
  have hal := blk_cell (blk_alloc hg (.cells #[.int .u64 e.c, .int .u32 e.i, .int .u32 e.g, .string e.s] 41)) 0
  clear hg
  go_enter Try.func65, Try.ntmps65
  go_wp2
  go_ret
  exact ⟨rfl, below_alloc (Below.refl _ _) _⟩
set_option maxHeartbeats 2000000 in
set_option maxRecDepth 100000 in
theorem IndexName_any (A : Option Addr) (c : Nat) (l : List Ent) (g : Nat) (s : ByteArray) (w : World) (hr : kE.C w A l.length l) (hc : l.length ≤ c) (hg : w.heap[g]? = some (.cells #[.string s] 9 (0, 0))) :
    Calls Try.prog 64 #[.slice A l.length c, .func (.func 65) #[] #[.pointer (some ⟨g, 0, none⟩)]] w fun e' w' => e' = .returned (.int .i64 (idxE (fun e => e.s.toList == s.toList) l)) ∧ Below w.heap.size w w' := by
  have HR := Aside0.mk hr
  have HG := Aside0.mk hg
  have hm := hr.2.1
  clear hr hg
  go_enter Try.func64, Try.ntmps64
  go_wp2
  go_loopg [8] l.length (fun kq v8 w' => ∃ k : Nat, k + kq = l.length ∧ v8 = .int .i64 k ∧ Aside0 (∀ e ∈ l.take k, (e.s.toList == s.toList) = false) ∧ Aside0 (Below w.heap.size w w'))
  case atStart => exact ⟨0, by omega, rfl, ⟨by simp⟩, ⟨Below.refl _ _⟩⟩
  case round =>
    obtain ⟨k, hk, rfl, HN, HB⟩ := hrel
    by_cases hlt : k < l.length
    · have hd : decide ((k : Int) < (l.length : Int)) = true := decide_eq_true (by omega)
      obtain ⟨e, he⟩ : ∃ e, l[k]? = some e := ⟨_, List.getElem?_eq_getElem hlt⟩
      obtain ⟨ad, e1, h1, h2, h3, h4⟩ := kE_at (Kd.C_below HR.out HB.out) k e he
      subst e1
      have p0 : (0 : Int) ≤ (k : Int) := by omega
      have p1 : (k : Int) < (l.length : Int) := by omega
      have HG2 := Aside0.mk (blk_below HG.out HB.out)
      have HE := Aside0.mk he
      clear he
      cases hs : (e.s.toList == s.toList) with
      | true =>
        have HS := Aside0.mk hs
        go_wp2_with fail
        (with_reducible refine (isName_any e g s wr HG2.out).mono ?_)
        rintro e' w1 ⟨rfl, hb1⟩
        have HB1 := Aside0.mk (below_step HB.out hb1)
        clear hb1
        go_wp2
        go_ret
        exact ⟨by rw [idxE_hit _ l k e HE.out HS.out HN.out]; rfl, HB1.out⟩
      | false =>
        have HS := Aside0.mk hs
        go_wp2_with fail
        (with_reducible refine (isName_any e g s wr HG2.out).mono ?_)
        rintro e' w1 ⟨rfl, hb1⟩
        have HB1 := Aside0.mk (below_step HB.out hb1)
        clear hb1
        go_wp2
        go_roundg (l.length - k - 1)
        case measure => omega
        case rel => exact ⟨k + 1, by omega, by go_num, ⟨none_step _ l k e HE.out HS.out HN.out⟩, HB1⟩
    · have hd : decide ((k : Int) < (l.length : Int)) = false := decide_eq_false (by omega)
      have hk' : k = l.length := by omega
      subst hk'
      go_wp2
      go_ret
      exact ⟨by rw [idxE_none _ l (by have h := HN.out; rw [List.take_length] at h; exact h)]; rfl, HB.out⟩
theorem Find_any (A : Option Addr) (c : Nat) (l : List Ent) (s : ByteArray) (w : World) (hr : kE.C w A l.length l) (hc : l.length ≤ c) :
    Calls Try.prog 26 #[.slice A l.length c, .string s] w fun e' w' => e' = .returned (.int .i64 (idxE (fun e => e.s.toList == s.toList) l)) ∧ Below w.heap.size w w' := by
  have HC := Aside0.mk (Kd.C_below hr (below_alloc (Below.refl w.heap.size w) (.cells #[.string s] 9)))
  clear hr
  go_enter Try.func26, Try.ntmps26
  go_wp2_with fail
  (with_reducible refine (IndexName_any A c l w.heap.size s _ HC.out hc (blk_new _ _)).mono ?_)
  rintro e' w1 ⟨rfl, hb1⟩
  have HB1 := Aside0.mk (below_step (below_alloc (Below.refl _ _) _) hb1)
  clear hb1
  go_wp2
  go_ret
  exact ⟨rfl, HB1.out⟩
end Go.Proofs.Ytlpjchighfdomaa.Hm
