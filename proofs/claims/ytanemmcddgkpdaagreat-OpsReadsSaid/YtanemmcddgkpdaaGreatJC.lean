/- Part C of the lemmas and walks of the Go functions that these statements reach; conditions: those that each theorem names. -/
import Derived.Test.YtanemmcddgkpdaaGreatJA
import Derived.Test.YtanemmcddgkpdaaGreatJB
section
/- The Go package dir's entries: what is read of a row of them; Find, last; conditions: those that each theorem names. -/
namespace Go.Proofs.YtanemmcddgkpdaaGreat.Hm
open Go.RowKit Go.Proofs.YtanemmcddgkpdaaGreatW.PrintWords Go.Proofs.YtanemmcddgkpdaaGreatW.PrintLast Go.Proofs.YtanemmcddgkpdaaGreatW.PrintMore
set_option linter.unusedVariables false
set_option linter.unusedSimpArgs false
/-- An entry: its cookie, its handle's two numbers, its name. -/
structure Ent where
  c : Int
  i : Int
  g : Int
  s : ByteArray
/-- How it lies in memory. -/
def kE : Kd Ent := Kd.iso (Kd.pair (Kd.int .u64) (Kd.pair (Kd.iso (Kd.pair (Kd.int .u32) (Kd.int .u32)) id) Kd.string)) (fun e => (e.c, (e.i, e.g), e.s))
def entC (e : Ent) : List Value := [.int .u64 e.c, .int .u32 e.i, .int .u32 e.g, .string e.s]
def e0 : Ent := ⟨0, 0, 0, ⟨#[]⟩⟩
theorem kE_K {w : World} {e : Ent} {cs : List Value} (h : kE.K w e cs) : cs = entC e := by
  obtain ⟨c0, c1, rfl, h0, c2, c3, rfl, ⟨c4, c5, rfl, h4, h5⟩, h3⟩ := h
  rw [show c0 = [.int .u64 e.c] from h0, show c4 = [.int .u32 e.i] from h4, show c5 = [.int .u32 e.g] from h5, show c3 = [.string e.s] from h3]
  rfl
theorem kE_of (w : World) (e : Ent) : kE.K w e (entC e) := ⟨[.int .u64 e.c], [.int .u32 e.i, .int .u32 e.g, .string e.s], rfl, rfl, [.int .u32 e.i, .int .u32 e.g], [.string e.s], rfl, ⟨[.int .u32 e.i], [.int .u32 e.g], rfl, rfl, rfl⟩, rfl⟩
theorem kE_sz : kE.sz = 4 := rfl
theorem kE_at {w : World} {A : Option Addr} {l : List Ent} (h : kE.C w A l.length l) (k : Nat) (e : Ent) (hk : l[k]? = some e) :
    ∃ ad, A = some ad ∧ w.cell? (ad.add (k * 4)) = some (.int .u64 e.c) ∧ w.cell? ⟨(ad.add (k * 4)).block, (ad.add (k * 4)).off + 1, none⟩ = some (.int .u32 e.i) ∧ w.cell? ⟨(ad.add (k * 4)).block, (ad.add (k * 4)).off + 2, none⟩ = some (.int .u32 e.g) ∧ w.cell? ⟨(ad.add (k * 4)).block, (ad.add (k * 4)).off + 3, none⟩ = some (.string e.s) := by
  have hlt := (List.getElem?_eq_some_iff.1 hk).1
  obtain ⟨ad, c, e, _, hK, hc⟩ := Kd.C_get h e0 (k : Int) (by omega) (by omega)
  rw [Int.toNat_natCast, List.getD_eq_getElem?_getD, hk] at hK
  rw [Int.toNat_natCast, kE_sz] at hc
  have hK2 := kE_K hK
  subst hK2
  exact ⟨ad, e, hc 0 _ rfl, by rw [← add_field _ _ 1 (by omega)]; exact hc 1 _ rfl, by rw [← add_field _ _ 2 (by omega)]; exact hc 2 _ rfl, by rw [← add_field _ _ 3 (by omega)]; exact hc 3 _ rfl⟩
/-- The last entry's cookie. -/
def lastC (l : List Ent) : Int := match l.getLast? with | some e => e.c | none => 0
set_option maxHeartbeats 1000000 in
set_option maxRecDepth 100000 in
theorem last_any (A : Option Addr) (c : Nat) (l : List Ent) (w : World) (hr : kE.C w A l.length l) (hc : l.length ≤ c) :
    Calls Tryz.prog 149 #[.slice A l.length c] w fun e w' => e = .returned (.int .u64 (lastC l)) ∧ w' = w := by
  have HR := Aside0.mk hr
  have hm := hr.2.1
  clear hr
  by_cases h0 : l.length = 0
  · have hz : ((l.length : Int) == 0) = true := by simp [h0]
    have HL : Aside0 (lastC l = 0) := ⟨by rw [List.eq_nil_of_length_eq_zero h0]; rfl⟩
    go_enter Tryz.func149, Tryz.ntmps149
    go_wp2
    go_ret
    exact ⟨by rw [HL.out]; rfl, rfl⟩
  · have hz : ((l.length : Int) == 0) = false := by simp [h0]
    obtain ⟨k, hk⟩ : ∃ k, l.length = k + 1 := ⟨l.length - 1, by omega⟩
    obtain ⟨e, he⟩ : ∃ e, l[k]? = some e := ⟨_, List.getElem?_eq_getElem (by omega)⟩
    obtain ⟨ad, e1, h1, h2, h3, h4⟩ := kE_at HR.out k e he
    subst e1
    have HL : Aside0 (lastC l = e.c) := ⟨by unfold lastC; rw [List.getLast?_eq_getElem?, hk, Nat.add_sub_cancel, he]⟩
    clear he
    go_enter Tryz.func149, Tryz.ntmps149
    go_wp2
    go_ret
    exact ⟨by rw [HL.out]; rfl, rfl⟩
/-- The first place of an entry that is so; below 0: none. -/
def idxE (p : Ent → Bool) (l : List Ent) : Int := match l.findIdx? p with | some i => i | none => -1
theorem idxE_hit (p : Ent → Bool) (l : List Ent) (k : Nat) (e : Ent) (he : l[k]? = some e) (hp : p e = true) (hn : ∀ x ∈ l.take k, p x = false) : idxE p l = k := by
  have h : l.findIdx? p = some k := by
    rw [List.findIdx?_eq_some_iff_getElem]
    obtain ⟨hlt, hv⟩ := (List.getElem?_eq_some_iff.1 he)
    refine ⟨hlt, by rw [hv]; exact hp, fun j hj => ?_⟩
    have hj2 : j < l.length := by omega
    have := hn l[j] (by rw [List.mem_take_iff_getElem]; exact ⟨j, by omega, rfl⟩)
    simp [this]
  unfold idxE
  rw [h]
theorem idxE_none (p : Ent → Bool) (l : List Ent) (hn : ∀ x ∈ l, p x = false) : idxE p l = -1 := by
  have h : l.findIdx? p = none := by
    rw [List.findIdx?_eq_none_iff]
    exact hn
  unfold idxE
  rw [h]
theorem none_step (p : Ent → Bool) (l : List Ent) (k : Nat) (e : Ent) (he : l[k]? = some e) (hp : p e = false) (hn : ∀ x ∈ l.take k, p x = false) : ∀ x ∈ l.take (k + 1), p x = false := by
  intro x hx
  obtain ⟨hlt, hv⟩ := List.getElem?_eq_some_iff.1 he
  rw [List.take_succ_eq_append_getElem hlt, List.mem_append, List.mem_singleton] at hx
  rcases hx with hx | hx
  · exact hn x hx
  · rw [hx, hv]; exact hp
set_option maxHeartbeats 1000000 in
set_option maxRecDepth 100000 in
theorem isName_any (e : Ent) (g : Nat) (s : ByteArray) (w : World) (hg : w.heap[g]? = some (.cells #[.string s] 9 (0, 0))) :
    Calls Tryz.prog 146 #[.agg #[.int .u64 e.c, .int .u32 e.i, .int .u32 e.g, .string e.s], .pointer (some ⟨g, 0, none⟩)] w fun e' w' => e' = .returned (.bool (e.s.toList == s.toList)) ∧ Below w.heap.size w w' := by
  have hcl := blk_cell hg 0
  have hal := blk_cell (blk_alloc hg (.cells #[.int .u64 e.c, .int .u32 e.i, .int .u32 e.g, .string e.s] 87)) 0
  clear hg
  go_enter Tryz.func146, Tryz.ntmps146
  go_wp2
  go_ret
  exact ⟨rfl, below_alloc (Below.refl _ _) _⟩
set_option maxHeartbeats 2000000 in
set_option maxRecDepth 100000 in
theorem IndexName_any (A : Option Addr) (c : Nat) (l : List Ent) (g : Nat) (s : ByteArray) (w : World) (hr : kE.C w A l.length l) (hc : l.length ≤ c) (hg : w.heap[g]? = some (.cells #[.string s] 9 (0, 0))) :
    Calls Tryz.prog 126 #[.slice A l.length c, .func (.func 146) #[] #[.pointer (some ⟨g, 0, none⟩)]] w fun e' w' => e' = .returned (.int .i64 (idxE (fun e => e.s.toList == s.toList) l)) ∧ Below w.heap.size w w' := by
  have HR := Aside0.mk hr
  have HG := Aside0.mk hg
  have hm := hr.2.1
  clear hr hg
  go_enter Tryz.func126, Tryz.ntmps126
  go_wp2
  go_loopg [8] l.length (fun kq v8 w' => ∃ k : Nat, k + kq = l.length ∧ v8 = .int .i64 k ∧ Aside0 (∀ e ∈ l.take k, (e.s.toList == s.toList) = false) ∧ Aside0 (Below w.heap.size w w'))
  case atStart => exact ⟨0, by omega, rfl, ⟨by simp⟩, ⟨Below.refl _ _⟩⟩
  case round =>
    obtain ⟨k, hk, rfl, HN, HB⟩ := hrel
    by_cases hlt : k < l.length
    · have hd : decide ((k : Int) < (l.length : Int)) = true := decide_eq_true (by omega)
      obtain ⟨e, he⟩ : ∃ e, l[k]? = some e := ⟨_, List.getElem?_eq_getElem hlt⟩
      obtain ⟨ad, e1, h1, h2, h3, h4⟩ := kE_at (Kd.C_below HR.out HB.out) k e he
      subst e1
      have p0 : (0 : Int) ≤ (k : Int) := by omega
      have p1 : (k : Int) < (l.length : Int) := by omega
      have HG2 := Aside0.mk (blk_below HG.out HB.out)
      have HE := Aside0.mk he
      clear he
      cases hs : (e.s.toList == s.toList) with
      | true =>
        have HS := Aside0.mk hs
        go_wp2_with fail
        (with_reducible refine (isName_any e g s wr HG2.out).mono ?_)
        rintro e' w1 ⟨rfl, hb1⟩
        have HB1 := Aside0.mk (below_step HB.out hb1)
        clear hb1
        go_wp2
        go_ret
        exact ⟨by rw [idxE_hit _ l k e HE.out HS.out HN.out]; rfl, HB1.out⟩
      | false =>
        have HS := Aside0.mk hs
        go_wp2_with fail
        (with_reducible refine (isName_any e g s wr HG2.out).mono ?_)
        rintro e' w1 ⟨rfl, hb1⟩
        have HB1 := Aside0.mk (below_step HB.out hb1)
        clear hb1
        go_wp2
        go_roundg (l.length - k - 1)
        case measure => omega
        case rel => exact ⟨k + 1, by omega, by go_num, ⟨none_step _ l k e HE.out HS.out HN.out⟩, HB1⟩
    · have hd : decide ((k : Int) < (l.length : Int)) = false := decide_eq_false (by omega)
      have hk' : k = l.length := by omega
      subst hk'
      go_wp2
      go_ret
      exact ⟨by rw [idxE_none _ l (by have h := HN.out; rw [List.take_length] at h; exact h)]; rfl, HB.out⟩
theorem Find_any (A : Option Addr) (c : Nat) (l : List Ent) (s : ByteArray) (w : World) (hr : kE.C w A l.length l) (hc : l.length ≤ c) :
    Calls Tryz.prog 120 #[.slice A l.length c, .string s] w fun e' w' => e' = .returned (.int .i64 (idxE (fun e => e.s.toList == s.toList) l)) ∧ Below w.heap.size w w' := by
  have HC := Aside0.mk (Kd.C_below hr (below_alloc (Below.refl w.heap.size w) (.cells #[.string s] 9)))
  clear hr
  go_enter Tryz.func120, Tryz.ntmps120
  go_wp2_with fail
  (with_reducible refine (IndexName_any A c l w.heap.size s _ HC.out hc (blk_new _ _)).mono ?_)
  rintro e' w1 ⟨rfl, hb1⟩
  have HB1 := Aside0.mk (below_step (below_alloc (Below.refl _ _) _) hb1)
  clear hb1
  go_wp2
  go_ret
  exact ⟨rfl, HB1.out⟩
end Go.Proofs.YtanemmcddgkpdaaGreat.Hm
end
section
/- The Go package dir: entries cloned, one more added; conditions: those that each theorem names. -/
namespace Go.Proofs.YtanemmcddgkpdaaGreat.Hm
open Go.RowKit Go.Proofs.YtanemmcddgkpdaaGreatW.PrintWords Go.Proofs.YtanemmcddgkpdaaGreatW.PrintLast Go.Proofs.YtanemmcddgkpdaaGreatW.PrintMore
set_option linter.unusedVariables false
set_option linter.unusedSimpArgs false
theorem infoE : (Tryz.prog.info? 87).map (fun i => (i.zero, i.size, i.bytes)) = some (some (.agg #[.int .u64 0, .int .u32 0, .int .u32 0, .string ⟨#[]⟩]), 4, 32) := by kernel_rfl
theorem kE_M (w : World) (base : Nat) (ok : Nat → Prop) (e : Ent) : kE.M w base ok e (entC e) := ⟨[.int .u64 e.c], [.int .u32 e.i, .int .u32 e.g, .string e.s], rfl, rfl, [.int .u32 e.i, .int .u32 e.g], [.string e.s], rfl, ⟨[.int .u32 e.i], [.int .u32 e.g], rfl, rfl, rfl⟩, rfl⟩
theorem kE_MK {w W : World} {base : Nat} {ok : Nat → Prop} {e : Ent} {cs : List Value} (h : kE.K w e cs) : kE.M W base ok e cs := by rw [kE_K h]; exact kE_M W base ok e
set_option maxHeartbeats 2000000 in
set_option maxRecDepth 100000 in
theorem CloneE_any (A : Option Addr) (c : Nat) (l : List Ent) (w : World) (hr : kE.C w A l.length l) (hc : l.length ≤ c) (hl : l.length ≤ 4398046511000) :
    Calls Tryz.prog 128 #[.slice A l.length c] w fun e w' => ∃ v, e = .returned v ∧ kE.R 87 w' w.heap.size (fun _ => True) v l ∧ Below w.heap.size w w' := by
  have HR := Aside0.mk hr
  clear hr
  cases A with
  | none =>
    have e : l.length = 0 := by
      rcases Nat.eq_zero_or_pos l.length with h0 | h0
      · exact h0
      · obtain ⟨ad, h1, _⟩ := HR.out.2.2 h0
        cases h1
    have e' : l = [] := List.eq_nil_of_length_eq_zero e
    subst e'
    have hn := fun (w : World) => Lib.run_eql_slice_nil (P := Tryz.prog) w 47 87 none 0 c 0 0 Tryz.underlying47
    go_enter Tryz.func128, Tryz.ntmps128
    go_wp2
    go_ret
    exact ⟨_, rfl, Kd.R_nil _ _ _ _ _, Below.refl _ _⟩
  | some ad =>
    have hn := fun (w : World) => Lib.run_eql_slice_nil (P := Tryz.prog) w 47 87 (some ad) l.length c 0 0 Tryz.underlying47
    go_enter Tryz.func128, Tryz.ntmps128
    go_wp2_with (first | ((with_reducible refine gate_dst (N := 5) rfl ?_); refine Kd.R_lit kE (w0 := w) w.heap.size 87 ?hg (N := 5) ?hd (xs := []) (inner := []) (ok := fun _ => True) (okp := fun _ => True) ?hr (Reps.none _ _) (fun _ hk => hk) trivial (Below.refl _ _) (Nat.le_refl _) (by simp) ?_; (case hd => rfl); (case hg => rfl); (case hr => first | (go_simp; done) | (go_simp; rfl)); intro v5 w1 hro hb1 hg1 hat1; have HRO := Aside0.mk hro; have HB := Aside0.mk hb1; clear hro hb1 hg1 hat1) | (at_builtin; refine Kd.R_append_rows kE (Rr := kE.K w) (w0 := w) w.heap.size rfl (.tmp 5) (.tmp 6) 47 87 (.agg #[.int .u64 0, .int .u32 0, .int .u32 0, .string ⟨#[]⟩]) 32 rfl Tryz.underlying47 infoE rfl (by decide) (by decide) v5 [] l (some ad) l.length c (fun _ => True) (fun _ => False) rfl rfl HRO.out (ReadsRow.imp_ HR.out HB.out (fun _ _ h => h)) (fun _ _ h => kE_MK h) (fun _ h => h.elim) (fun _ _ => trivial) HB.out HB.out.size (by simp; omega) ?_; intro v7 w2 hro hb2 hg2 hat2; have HRO2 := Aside0.mk hro; have HB2 := Aside0.mk hb2; clear hro hb2 hg2 hat2))
    go_ret
    exact ⟨_, rfl, HRO2.out, HB2.out⟩
set_option maxHeartbeats 1000000 in
set_option maxRecDepth 100000 in
theorem isPast_any (e : Ent) (g : Nat) (s : Int) (w : World) (hg : w.heap[g]? = some (.cells #[.int .u64 s] 25 (0, 0))) :
    Calls Tryz.prog 127 #[.agg #[.int .u64 e.c, .int .u32 e.i, .int .u32 e.g, .string e.s], .pointer (some ⟨g, 0, none⟩)] w fun e' w' => e' = .returned (.bool (decide (s < e.c))) ∧ Below w.heap.size w w' := by
  have hcl := blk_cell hg 0
  have hal := blk_cell (blk_alloc hg (.cells #[.int .u64 e.c, .int .u32 e.i, .int .u32 e.g, .string e.s] 87)) 0
  clear hg
  go_enter Tryz.func127, Tryz.ntmps127
  go_wp2
  go_ret
  exact ⟨rfl, below_alloc (Below.refl _ _) _⟩
set_option maxHeartbeats 2000000 in
set_option maxRecDepth 100000 in
theorem IndexPast_any (A : Option Addr) (c : Nat) (l : List Ent) (g : Nat) (s : Int) (w : World) (hr : kE.C w A l.length l) (hc : l.length ≤ c) (hg : w.heap[g]? = some (.cells #[.int .u64 s] 25 (0, 0))) :
    Calls Tryz.prog 126 #[.slice A l.length c, .func (.func 127) #[] #[.pointer (some ⟨g, 0, none⟩)]] w fun e' w' => e' = .returned (.int .i64 (idxE (fun e => decide (s < e.c)) l)) ∧ Below w.heap.size w w' := by
  have HR := Aside0.mk hr
  have HG := Aside0.mk hg
  have hm := hr.2.1
  clear hr hg
  go_enter Tryz.func126, Tryz.ntmps126
  go_wp2
  go_loopg [8] l.length (fun kq v8 w' => ∃ k : Nat, k + kq = l.length ∧ v8 = .int .i64 k ∧ Aside0 (∀ e ∈ l.take k, decide (s < e.c) = false) ∧ Aside0 (Below w.heap.size w w'))
  case atStart => exact ⟨0, by omega, rfl, ⟨by simp⟩, ⟨Below.refl _ _⟩⟩
  case round =>
    obtain ⟨k, hk, rfl, HN, HB⟩ := hrel
    by_cases hlt : k < l.length
    · have hd : decide ((k : Int) < (l.length : Int)) = true := decide_eq_true (by omega)
      obtain ⟨e, he⟩ : ∃ e, l[k]? = some e := ⟨_, List.getElem?_eq_getElem hlt⟩
      obtain ⟨ad, e1, h1, h2, h3, h4⟩ := kE_at (Kd.C_below HR.out HB.out) k e he
      subst e1
      have p0 : (0 : Int) ≤ (k : Int) := by omega
      have p1 : (k : Int) < (l.length : Int) := by omega
      have HG2 := Aside0.mk (blk_below HG.out HB.out)
      have HE := Aside0.mk he
      clear he
      cases hs : decide (s < e.c) with
      | true =>
        have HS := Aside0.mk hs
        go_wp2_with fail
        (with_reducible refine (isPast_any e g s wr HG2.out).mono ?_)
        rintro e' w1 ⟨rfl, hb1⟩
        have HB1 := Aside0.mk (below_step HB.out hb1)
        clear hb1
        go_wp2
        go_ret
        exact ⟨by rw [idxE_hit _ l k e HE.out HS.out HN.out]; rfl, HB1.out⟩
      | false =>
        have HS := Aside0.mk hs
        go_wp2_with fail
        (with_reducible refine (isPast_any e g s wr HG2.out).mono ?_)
        rintro e' w1 ⟨rfl, hb1⟩
        have HB1 := Aside0.mk (below_step HB.out hb1)
        clear hb1
        go_wp2
        go_roundg (l.length - k - 1)
        case measure => omega
        case rel => exact ⟨k + 1, by omega, by go_num, ⟨none_step _ l k e HE.out HS.out HN.out⟩, HB1⟩
    · have hd : decide ((k : Int) < (l.length : Int)) = false := decide_eq_false (by omega)
      have hk' : k = l.length := by omega
      subst hk'
      go_wp2
      go_ret
      exact ⟨by rw [idxE_none _ l (by have h := HN.out; rw [List.take_length] at h; exact h)]; rfl, HB.out⟩
theorem kE_one {W : World} {b : Nat} {e : Ent} (hb : W.heap[b]? = some (.cells (entC e).toArray 87 (0, 0))) : kE.C W (some ⟨b, 0, none⟩) 1 [e] := by
  refine ⟨rfl, by decide, fun _ => ⟨_, rfl, fun j p hj => ?_⟩⟩
  have hj0 : j = 0 := by
    have := (List.getElem?_eq_some_iff.1 hj).1
    simpa using this
  subst hj0
  obtain rfl : e = p := by simpa using hj
  refine ⟨entC e, rfl, kE_of W e, fun i u hu => ?_⟩
  rw [add_plain, Nat.zero_mul, Nat.zero_add, cell_of_row W b i _ _ _ hb]
  simpa using hu
/-- With an entry behind all others: the entries, and the error. -/
def addM (l : List Ent) (e : Ent) : List Ent × Int :=
  if nameE (bytesOf e.s) ≠ 0 then ([], nameE (bytesOf e.s)) else if 0 ≤ idxE (fun x => x.s.toList == e.s.toList) l then ([], 61) else if e.c ≤ lastC l then ([], 70) else (l ++ [e], 0)
def entV (e : Ent) : Value := .agg #[.int .u64 e.c, .int .u32 e.i, .int .u32 e.g, .string e.s]
set_option maxHeartbeats 4000000 in
set_option maxRecDepth 100000 in
theorem Add_any (A : Option Addr) (c : Nat) (l : List Ent) (e : Ent) (r : List Ent) (n : Int) (w : World) (hr : kE.C w A l.length l) (hc : l.length ≤ c) (hl : l.length ≤ 4398046511000) (hm : addM l e = (r, n)) :
    Calls Tryz.prog 125 #[.slice A l.length c, .agg #[.int .u64 e.c, .int .u32 e.i, .int .u32 e.g, .string e.s]] w fun e' w' => ∃ v, e' = .returned (.tuple #[v, .int .i64 n]) ∧ kE.R 87 w' w.heap.size (fun _ => True) v r ∧ Below w.heap.size w w' := by
  have HR := Aside0.mk hr
  clear hr
  have hbx := blk_new w (.cells #[.int .u64 e.c, .int .u32 e.i, .int .u32 e.g, .string e.s] 87)
  have hcs := blk_cell hbx 2
  unfold addM at hm
  by_cases h1 : nameE (bytesOf e.s) = 0
  · rw [if_neg (by simp [h1])] at hm
    have H1 := Aside0.mk h1
    have HBX := Aside0.mk hbx
    obtain ⟨z, hz⟩ : ∃ z, idxE (fun x => x.s.toList == e.s.toList) l = z := ⟨_, rfl⟩
    rw [hz] at hm
    have HZ := Aside0.mk hz
    clear h1 hbx hz
    by_cases h2 : 0 ≤ z
    · rw [if_pos h2] at hm
      injection hm with g1 g2
      subst g1 g2
      go_enter Tryz.func125, Tryz.ntmps125
      go_wp2_with fail
      (with_reducible refine (Name_any e.s _).mono ?_)
      rintro e' w1 ⟨rfl, hb1⟩
      rw [H1.out]
      have HB1 := Aside0.mk (below_step (below_alloc (Below.refl _ _) _) hb1)
      have HX1 := Aside0.mk (blk_below HBX.out hb1)
      have hx0 := blk_cell HX1.out 0; have hx1 := blk_cell HX1.out 1; have hx2 := blk_cell HX1.out 2; have hx3 := blk_cell HX1.out 3
      clear hb1 hcs
      go_wp2_with fail
      (with_reducible refine (Find_any A c l e.s w1 (Kd.C_below HR.out HB1.out) hc).mono ?_)
      rintro e' w2 ⟨rfl, hb2⟩
      rw [HZ.out]
      have HB2 := Aside0.mk (below_step HB1.out hb2)
      have HX2 := Aside0.mk (blk_below HX1.out hb2)
      have HR2 := Aside0.mk (Kd.C_below HR.out HB2.out)
      clear hb2 hx0 hx1 hx2 hx3
      have hx0 := blk_cell HX2.out 0; have hx1 := blk_cell HX2.out 1; have hx2 := blk_cell HX2.out 2; have hx3 := blk_cell HX2.out 3
      go_wp2
      go_ret2
      exact ⟨_, rfl, Kd.R_nil _ _ _ _ _, HB2.out⟩
    · rw [if_neg h2] at hm
      have hz0 : z < 0 := by omega
      have HQ : ∀ W : World, kE.C W A l.length l → Calls Tryz.prog 149 #[.slice A l.length c] W fun e w' => e = .returned (.int .u64 (lastC l)) ∧ w' = W := fun W h => last_any A c l W h hc
      obtain ⟨q, hq⟩ : ∃ q, lastC l = q := ⟨_, rfl⟩
      rw [hq] at hm
      simp only [hq] at HQ
      have HQ2 := Aside0.mk HQ
      clear hq HQ
      by_cases h3 : e.c ≤ q
      · rw [if_pos h3] at hm
        injection hm with g1 g2
        subst g1 g2
        have hd3 : decide (e.c ≤ q) = true := decide_eq_true h3
        go_enter Tryz.func125, Tryz.ntmps125
        go_wp2_with fail
        (with_reducible refine (Name_any e.s _).mono ?_)
        rintro e' w1 ⟨rfl, hb1⟩
        rw [H1.out]
        have HB1 := Aside0.mk (below_step (below_alloc (Below.refl _ _) _) hb1)
        have HX1 := Aside0.mk (blk_below HBX.out hb1)
        have hx0 := blk_cell HX1.out 0; have hx1 := blk_cell HX1.out 1; have hx2 := blk_cell HX1.out 2; have hx3 := blk_cell HX1.out 3
        clear hb1 hcs
        go_wp2_with fail
        (with_reducible refine (Find_any A c l e.s w1 (Kd.C_below HR.out HB1.out) hc).mono ?_)
        rintro e' w2 ⟨rfl, hb2⟩
        rw [HZ.out]
        have HB2 := Aside0.mk (below_step HB1.out hb2)
        have HX2 := Aside0.mk (blk_below HX1.out hb2)
        have HR2 := Aside0.mk (Kd.C_below HR.out HB2.out)
        clear hb2 hx0 hx1 hx2 hx3
        have hx0 := blk_cell HX2.out 0; have hx1 := blk_cell HX2.out 1; have hx2 := blk_cell HX2.out 2; have hx3 := blk_cell HX2.out 3
        go_wp2
        go_quiet ((go_at_call 149; exact Calls.quiet_of_same (HQ2.out _ (Kd.C_drewN HR2.out _))))
        go_wp2
        go_ret2
        exact ⟨_, rfl, Kd.R_nil _ _ _ _ _, pw_below_drewN HB2.out _⟩
      · rw [if_neg h3] at hm
        injection hm with g1 g2
        subst g1 g2
        have hd3 : decide (e.c ≤ q) = false := decide_eq_false h3
        go_enter Tryz.func125, Tryz.ntmps125
        go_wp2_with fail
        (with_reducible refine (Name_any e.s _).mono ?_)
        rintro e' w1 ⟨rfl, hb1⟩
        rw [H1.out]
        have HB1 := Aside0.mk (below_step (below_alloc (Below.refl _ _) _) hb1)
        have HX1 := Aside0.mk (blk_below HBX.out hb1)
        have hx0 := blk_cell HX1.out 0; have hx1 := blk_cell HX1.out 1; have hx2 := blk_cell HX1.out 2; have hx3 := blk_cell HX1.out 3
        clear hb1 hcs
        go_wp2_with fail
        (with_reducible refine (Find_any A c l e.s w1 (Kd.C_below HR.out HB1.out) hc).mono ?_)
        rintro e' w2 ⟨rfl, hb2⟩
        rw [HZ.out]
        have HB2 := Aside0.mk (below_step HB1.out hb2)
        have HX2 := Aside0.mk (blk_below HX1.out hb2)
        have HR2 := Aside0.mk (Kd.C_below HR.out HB2.out)
        clear hb2 hx0 hx1 hx2 hx3
        have hx0 := blk_cell HX2.out 0; have hx1 := blk_cell HX2.out 1; have hx2 := blk_cell HX2.out 2; have hx3 := blk_cell HX2.out 3
        go_wp2
        go_quiet ((go_at_call 149; exact Calls.quiet_of_same (HQ2.out _ (Kd.C_drewN HR2.out _))))
        go_wp2
        obtain ⟨W0, hW0⟩ : ∃ x, w2.drewN nq = x := ⟨_, rfl⟩
        have HX0 := Aside0.mk (blk_drewN HX2.out nq)
        have HB0 := Aside0.mk (pw_below_drewN HB2.out nq)
        have HR0 := Aside0.mk (Kd.C_drewN HR2.out nq)
        rw [hW0] at HX0 HB0 HR0
        simp only [hW0]
        clear hW0 hx0 hx1 hx2 hx3
        have hmk : ∀ W : World, Below W0.heap.size W0 W → (Below W0.heap.size W0 W ∧ W.cell? ⟨w.heap.size, 0, none⟩ = some (.int .u64 e.c) ∧ W.cell? ⟨w.heap.size, 1, none⟩ = some (.int .u32 e.i) ∧ W.cell? ⟨w.heap.size, 2, none⟩ = some (.int .u32 e.g) ∧ W.cell? ⟨w.heap.size, 3, none⟩ = some (.string e.s)) := fun W hb => ⟨hb, blk_cell (blk_below HX0.out hb) 0, blk_cell (blk_below HX0.out hb) 1, blk_cell (blk_below HX0.out hb) 2, blk_cell (blk_below HX0.out hb) 3⟩
        have HMK := Aside0.mk hmk
        clear hmk
        go_region_held3 (fun W => Below W0.heap.size W0 W ∧ W.cell? ⟨w.heap.size, 0, none⟩ = some (.int .u64 e.c) ∧ W.cell? ⟨w.heap.size, 1, none⟩ = some (.int .u32 e.i) ∧ W.cell? ⟨w.heap.size, 2, none⟩ = some (.int .u32 e.g) ∧ W.cell? ⟨w.heap.size, 3, none⟩ = some (.string e.s)) (first | exact HMK.out _ (below_drew1 (Below.refl _ _)) | exact HMK.out _ ‹Below W0.heap.size W0 _› | exact HMK.out _ (below_alloc (And.left ‹_ ∧ _›) _) | exact HMK.out _ (below_step (And.left ‹_ ∧ _›) ‹Below (World.heap _).size _ _›) | fail)
          (first
            | (go_at_call 128; (with_reducible refine (CloneE_any A c l _ (Kd.C_below HR0.out (And.left ‹_ ∧ _›)) hc (by omega)).mono ?_); rintro e' w6 ⟨v6, rfl, hro, hb6⟩; dsimp only)
            | (refine Kd.R_append_rows_step (o := ⟨some 29, _, _, _, _, _⟩) kE (Rr := kE.K W0) (w0 := W0) W0.heap.size (by rfl) (.tmp 26) (.tmp 28) 47 87 (.agg #[.int .u64 0, .int .u32 0, .int .u32 0, .string ⟨#[]⟩]) 32 (by rfl) Tryz.underlying47 infoE rfl (by decide) (by decide) v6 l [e] (some ⟨w6.heap.size, 0, none⟩) 1 1 (fun _ => True) (fun _ => False) (by rfl) (by rfl) (Kd.R_below (Kd.R_lower hro (Nat.le_refl _)) (below_alloc (Below.refl _ _) _)) (kE_one (blk_new w6 (.cells #[.int .u64 e.c, .int .u32 e.i, .int .u32 e.g, .string e.s] 87))) (fun _ _ h => kE_MK h) (fun _ h => h.elim) (fun _ _ => trivial) (And.left ‹_ ∧ _›) (Below.size (And.left ‹_ ∧ _›)) (by omega) ?_; intro v7 w7 hro7 hb7 hg7 hat7)
            | (refine Kd.R_append_rows_step (o := ⟨some 29, _, _, _, _, _⟩) kE (Rr := kE.K W0) (w0 := W0) W0.heap.size (by rfl) (.tmp 26) (.tmp 28) 47 87 (.agg #[.int .u64 0, .int .u32 0, .int .u32 0, .string ⟨#[]⟩]) 32 (by rfl) Tryz.underlying47 infoE rfl (by decide) (by decide) v6 l [e] (some ⟨W0.heap.size, 0, none⟩) 1 1 (fun _ => True) (fun _ => False) (by rfl) (by rfl) (Kd.R_lower hro (Below.size (below_drew1 (below_alloc (Below.refl W0.heap.size W0) (.cells #[.int .u64 e.c, .int .u32 e.i, .int .u32 e.g, .string e.s] 87))))) (kE_one (blk_below (blk_below (blk_new W0 (.cells #[.int .u64 e.c, .int .u32 e.i, .int .u32 e.g, .string e.s] 87)) (below_drew1 (Below.refl _ _))) hb6)) (fun _ _ h => kE_MK h) (fun _ h => h.elim) (fun _ _ => trivial) (And.left ‹_ ∧ _›) (Below.size (And.left ‹_ ∧ _›)) (by omega) ?_; intro v7 w7 hro7 hb7 hg7 hat7)
            | fail)
        all_goals go_wp2
        all_goals go_ret2
        all_goals exact ⟨_, rfl, Kd.R_lower hro7 HB0.out.size, below_step HB0.out hb7⟩
  · rw [if_pos h1] at hm
    injection hm with g1 g2
    subst g1 g2
    have hd : ((nameE (bytesOf e.s) : Int) != 0) = true := by simp [h1]
    have H1 := Aside0.mk h1
    clear h1
    go_enter Tryz.func125, Tryz.ntmps125
    go_wp2_with fail
    (with_reducible refine (Name_any e.s _).mono ?_)
    rintro e' w1 ⟨rfl, hb1⟩
    have HB1 := Aside0.mk (below_step (below_alloc (Below.refl _ _) _) hb1)
    clear hb1
    go_wp2
    go_ret2
    exact ⟨_, rfl, Kd.R_nil _ _ _ _ _, HB1.out⟩
end Go.Proofs.YtanemmcddgkpdaaGreat.Hm
end
section
/- The Go package dir: the entries behind a cookie; conditions: those that each theorem names. -/
namespace Go.Proofs.YtanemmcddgkpdaaGreat.Hm
open Go.RowKit Go.Proofs.YtanemmcddgkpdaaGreatW.PrintWords Go.Proofs.YtanemmcddgkpdaaGreatW.PrintLast Go.Proofs.YtanemmcddgkpdaaGreatW.PrintMore
set_option linter.unusedVariables false
set_option linter.unusedSimpArgs false
theorem idxE_cases (p : Ent → Bool) (l : List Ent) : idxE p l = -1 ∨ ∃ k : Nat, k < l.length ∧ idxE p l = k := by
  unfold idxE
  cases h : l.findIdx? p with
  | none => exact .inl rfl
  | some i => exact .inr ⟨i, by have := (List.findIdx?_eq_some_iff_getElem.1 h).1; exact this, rfl⟩
/-- Those behind a cookie, so many at most; and whether they are all. -/
def afterM (l : List Ent) (s m : Int) : List Ent × Bool :=
  if idxE (fun e => decide (s < e.c)) l < 0 then ([], true) else ((l.take ((idxE (fun e => decide (s < e.c)) l).toNat + min m.toNat (l.length - (idxE (fun e => decide (s < e.c)) l).toNat))).drop (idxE (fun e => decide (s < e.c)) l).toNat, decide ((idxE (fun e => decide (s < e.c)) l).toNat + min m.toNat (l.length - (idxE (fun e => decide (s < e.c)) l).toNat) = l.length))
set_option maxHeartbeats 4000000 in
set_option maxRecDepth 100000 in
theorem After_any (A : Option Addr) (c : Nat) (l : List Ent) (s m : Int) (w : World) (hr : kE.C w A l.length l) (hc : l.length ≤ c) (hl : l.length ≤ 4398046511000) (hm0 : -9223372036854775808 ≤ m) (hm1 : m ≤ 9223372036854775807) :
    Calls Tryz.prog 86 #[.slice A l.length c, .int .u64 s, .int .i64 m] w fun e' w' => ∃ v, e' = .returned (.tuple #[v, .bool (afterM l s m).2]) ∧ kE.R 87 w' w.heap.size (fun _ => True) v (afterM l s m).1 ∧ Below w.heap.size w w' := by
  have HR := Aside0.mk hr
  have hbx := blk_new w (.cells #[.int .u64 s] 25 (0, 0))
  have HBX := Aside0.mk hbx
  clear hr hbx
  obtain ⟨z, hz⟩ : ∃ z, idxE (fun e => decide (s < e.c)) l = z := ⟨_, rfl⟩
  unfold afterM
  rw [hz]
  have HZ := Aside0.mk hz
  rcases idxE_cases (fun e => decide (s < e.c)) l with h1 | ⟨k, hk, h1⟩
  · rw [h1] at hz
    subst hz
    rw [if_pos (by decide)]
    go_enter Tryz.func86, Tryz.ntmps86
    go_wp2_with fail
    (with_reducible refine (IndexPast_any A c l w.heap.size s _ (Kd.C_alloc HR.out _) hc HBX.out).mono ?_)
    rintro e' w1 ⟨rfl, hb1⟩
    rw [HZ.out]
    have HB1 := Aside0.mk (below_step (below_alloc (Below.refl _ _) _) hb1)
    clear hb1
    go_wp2
    go_ret2
    exact ⟨_, rfl, Kd.R_nil _ _ _ _ _, HB1.out⟩
  · rw [h1] at hz
    subst hz
    rw [if_neg (by omega), Int.toNat_natCast]
    clear h1
    obtain ⟨n, hn⟩ : ∃ n, min m.toNat (l.length - k) = n := ⟨_, rfl⟩
    rw [hn]
    obtain ⟨M, hM⟩ : ∃ M : Int, max m 0 = M := ⟨_, rfl⟩
    obtain ⟨D, hD⟩ : ∃ D : Int, IntKind.i64.wrap ((l.length : Int) - (k : Int)) = D := ⟨_, rfl⟩
    have hD' : D = ((l.length - k : Nat) : Int) := by rw [← hD, IntKind.wrap_i64]; omega
    have hmx : (if m < 0 then 0 else m) = M := by split <;> omega
    have hmn : (if D < M then D else M) = (n : Int) := by split <;> omega
    have hadd : IntKind.i64.wrap ((k : Int) + (n : Int)) = ((k + n : Nat) : Int) := by rw [IntKind.wrap_i64]; omega
    have hkn : k + n ≤ l.length := by omega
    have hle : ((l.take (k + n)).drop k).length = n := by rw [List.length_drop, List.length_take]; omega
    have HN := Aside0.mk hn
    have HKN := Aside0.mk hkn
    have HLE := Aside0.mk hle
    clear hD' hn hkn hle
    have p0 : (0 : Int) ≤ (k : Int) := by omega
    have p1 : (0 : Int) ≤ (k : Int) + (n : Int) := by omega
    have p2 : (k : Int) + (n : Int) ≤ (c : Int) := by have := HKN.out; omega
    have hk2 := cut_mid (P := Tryz.prog) 47 87 .i64 .i64 Tryz.underlying47 (by rfl) 4 rfl A l.length c (k : Int) ((k + n : Nat) : Int) (by omega) (by omega) (by have := HKN.out; omega) hc
    rw [Int.toNat_natCast, Int.toNat_natCast, Nat.add_sub_cancel_left, if_neg (show ¬ c = k by omega)] at hk2
    obtain ⟨b, hb⟩ : ∃ b, decide (k + n = l.length) = b := ⟨_, rfl⟩
    rw [hb]
    have hbe : ((k : Int) + (n : Int) == (l.length : Int)) = b := by
      rw [← hb]
      by_cases h : k + n = l.length
      · rw [decide_eq_true h, beq_iff_eq]; omega
      · rw [decide_eq_false h, beq_eq_false_iff_ne]; omega
    have HB' := Aside0.mk hb
    clear hb
    go_enter Tryz.func86, Tryz.ntmps86
    go_wp2_with fail
    (with_reducible refine (IndexPast_any A c l w.heap.size s _ (Kd.C_alloc HR.out _) hc HBX.out).mono ?_)
    rintro e' w1 ⟨rfl, hb1⟩
    rw [HZ.out]
    have HB1 := Aside0.mk (below_step (below_alloc (Below.refl _ _) _) hb1)
    clear hb1
    go_wp2_with fail
    have hcl := Kd.C_mid (c := c) (Kd.C_below HR.out HB1.out) (Nat.le_add_right k n) HKN.out hc
    rw [HLE.out, if_neg (show ¬ c = k by omega)] at hcl
    have hcl2 : kE.C w1 (A.map (·.add (k * 4))) ((l.take (k + n)).drop k).length ((l.take (k + n)).drop k) := by rw [HLE.out]; exact hcl
    have hcal := CloneE_any (A.map (·.add (k * 4))) (c - k) ((l.take (k + n)).drop k) w1 hcl2 (by rw [HLE.out]; have := HKN.out; omega) (by rw [HLE.out]; have := HKN.out; omega)
    rw [HLE.out] at hcal
    (with_reducible refine hcal.mono ?_)
    rintro e' w2 ⟨v2, rfl, hro, hb2⟩
    have HRO := Aside0.mk (Kd.R_lower hro HB1.out.size)
    have HB2 := Aside0.mk (below_step HB1.out hb2)
    clear hro hb2 hcl hcl2 hcal
    go_wp2
    go_ret2
    exact ⟨_, rfl, HRO.out, HB2.out⟩
end Go.Proofs.YtanemmcddgkpdaaGreat.Hm
end
section
/- The Go package dir: entries without one; conditions: those that each theorem names. -/
namespace Go.Proofs.YtanemmcddgkpdaaGreat.Hm
open Go.RowKit Go.Proofs.YtanemmcddgkpdaaGreatW.PrintWords Go.Proofs.YtanemmcddgkpdaaGreatW.PrintLast Go.Proofs.YtanemmcddgkpdaaGreatW.PrintMore
set_option linter.unusedVariables false
set_option linter.unusedSimpArgs false
theorem R_tail {α : Type} (d : Kd α) {E : TypeId} {W : World} {base g n c : Nat} {ok : Nat → Prop} {xs : List α} (h : d.R E W base ok (.slice (some ⟨g, 0, none⟩) n c) xs) (zs : List Value) (hfit : n * d.sz + zs.length ≤ c * d.sz) :
    d.R E (W.setCells g (n * d.sz) zs) base ok (.slice (some ⟨g, 0, none⟩) n c) xs ∧ W.grownBy (W.setCells g (n * d.sz) zs) (some g) := by
  obtain ⟨hn, hnc, _⟩ := Kd.R_reads' h
  obtain ⟨hok, inner, hown, hr⟩ := h
  have hin : inner.length = n * d.sz := by rw [hr.1, hn]
  rcases hown.2 with ⟨hv, _⟩ | ⟨g', cap', cur, hv, hb, hh, h7, hcm, hcs, htake⟩
  · cases hv
  injection hv with ha hn' hc
  injection ha with ha
  injection ha with hg
  subst hg; subst hc
  rw [← hn] at htake
  obtain ⟨cur', h3, h4, h5⟩ := setCells_row zs (n * d.sz) W cur hh (by omega)
  obtain ⟨s1, s2, s3, s4⟩ := setCells_same g zs (n * d.sz) W
  have hfar : ∀ k', k' ≠ g → (W.setCells g (n * d.sz) zs).heap[k']? = W.heap[k']? := fun k' hk' => setCells_far zs _ k' hk'
  have hgo : ∀ m c, some g = (Value.slice (some ⟨g, 0, none⟩) m c).ownBlock := fun m c => by simp [Value.ownBlock]
  refine ⟨⟨hok, inner, ⟨hown.1, .inr ⟨g, c, cur', by rw [← hn], hb, h3, h7, hcm, by rw [h4, hcs], ?_⟩⟩, hr.imp_ (fun p q hp => d.M_move (fun k' hk' => hfar k' (fun he => hk'.2 (by rw [← hgo, he]))) hp)⟩, ⟨s1, s2, s3, by rw [s4]; exact Nat.le_refl _, fun k' _ hk' => hfar k' (fun he => hk' (by rw [he]))⟩⟩
  rw [← hn, h5, List.append_assoc, List.take_left' (by rw [List.length_take, Array.length_toList]; omega), htake]
set_option maxRecDepth 100000 in
theorem clearE_run {W : World} {base g m c : Nat} {ok : Nat → Prop} {xs : List Ent} (h : kE.R 87 W base ok (.slice (some ⟨g, 0, none⟩) m c) xs) (hm : m < c) (ty : TypeId) (c2 : Nat) :
    (Builtin.clear_ #[47] ty #[.slice (some ⟨g, m * 4, none⟩) 1 c2]).run Tryz.prog W = .ok (.tuple #[]) (W.setCells g (m * 4) [.int .u64 0, .int .u32 0, .int .u32 0, .string ⟨#[]⟩]) := by
  obtain ⟨i0, hi, hzz⟩ := Option.map_eq_some_iff.1 infoE
  simp only [Prod.mk.injEq] at hzz
  obtain ⟨hz0, hz1, hz2⟩ := hzz
  obtain ⟨hn, hnc, _⟩ := Kd.R_reads' h
  obtain ⟨hok, inner, hown, hr⟩ := h
  rcases hown.2 with ⟨hv, _⟩ | ⟨g', cap', cur, hv, hb, hh, h7, hcm, hcs, htake⟩
  · cases hv
  injection hv with ha hn' hc
  injection ha with ha
  injection ha with hg
  subst hg; subst hc
  have hst := run_storeCells_cells (P := Tryz.prog) g (m * 4) [.int .u64 0, .int .u32 0, .int .u32 0, .string ⟨#[]⟩] 0 W (fun j hj => by rw [cell_of_row W g _ cur 87 (0, 0) hh]; simp only [kE_sz] at hcs; simp only [List.length_cons, List.length_nil] at hj; rw [Array.getElem?_eq_getElem (by omega)]; rfl) (fun j _ => blk_frozen hh _) (by simp [Value.oneCell'])
  rw [Nat.add_zero] at hst
  have hzc : (Builtin.zeroCells (Value.cells (.agg #[.int .u64 0, .int .u32 0, .int .u32 0, .string ⟨#[]⟩])) 1).toList = [.int .u64 0, .int .u32 0, .int .u32 0, .string ⟨#[]⟩] := by kernel_rfl
  have hv : ∀ w, (zeroValue 87).run Tryz.prog w = .ok (.agg #[.int .u64 0, .int .u32 0, .int .u32 0, .string ⟨#[]⟩]) w := fun w => by simp [zeroValue, typeInfo, hi, hz0]
  simp [Builtin.clear_, run_underlying Tryz.underlying47, hv, hzc, hst]
set_option maxHeartbeats 1000000 in
set_option maxRecDepth 100000 in
theorem Delete_any (g cap k base n : Nat) (ok : Nat → Prop) (l : List Ent) (w : World) (hr : kE.R 87 w base ok (.slice (some ⟨g, 0, none⟩) n cap) l) (hk : k < n) (hb : base ≤ w.heap.size) (hl : l.length ≤ 4398046511000) :
    Calls Tryz.prog 147 #[.slice (some ⟨g, 0, none⟩) n cap, .int .i64 k, .int .i64 ((k : Int) + 1)] w fun e' w' => ∃ v, e' = .returned v ∧ kE.R 87 w' base ok v (l.eraseIdx k) ∧ Below base w w' := by
  have HR := Aside0.mk hr
  obtain ⟨hn, hnc, hcl⟩ := Kd.R_reads' hr
  have hcm := hcl.2.1
  have HL := Aside0.mk hn
  have p0 : (0 : Int) ≤ (k : Int) := by omega
  have p1 : (k : Int) + 1 ≤ (n : Int) := by omega
  have p2 : (k : Int) ≤ (k : Int) + 1 := by omega
  have p3 : (n : Int) ≤ (cap : Int) := by omega
  have p4 : ((k : Int) == (k : Int) + 1) = false := by rw [beq_eq_false_iff_ne]; omega
  have p5 : k ≤ cap := by omega
  have p6 : k + 1 ≤ n := by omega
  have p7 : (0 : Int) ≤ (k : Int) + 1 := by omega
  obtain ⟨m, hm⟩ : ∃ m, n - 1 = m := ⟨_, rfl⟩
  have p8 : (m : Int) ≤ (n : Int) := by omega
  have p9 : (0 : Int) ≤ (m : Int) := by omega
  have p10 : n - m = 1 := by omega
  have pm : ¬ cap = m := by omega
  obtain ⟨ad, had⟩ : ∃ ad : Addr, (if cap = k + 1 then (⟨g, 0, none⟩ : Addr) else ⟨g, (k + 1) * 4, none⟩) = ad := ⟨_, rfl⟩
  have hsome : (if cap = k + 1 then some (⟨g, 0, none⟩ : Addr) else some ⟨g, (k + 1) * 4, none⟩) = some ad := by rw [← had]; split <;> rfl
  have HA : Aside0 (some ad = (if cap = k + 1 then some ⟨g, 0, none⟩ else (some (⟨g, 0, none⟩ : Addr)).map (·.add ((k + 1) * kE.sz)))) := ⟨by
    rw [← hsome, kE_sz, Option.map_some]
    split
    · rfl
    · rw [add_plain]⟩
  clear hr hcl hn had
  go_enter Tryz.func147, Tryz.ntmps147
  go_wp2_with fail
  go_region_law ((refine Kd.R_delete_step kE (w0 := w) base (by rfl) (.tmp 22) (.tmp 25) 47 87 rfl Tryz.underlying47 rfl (by rfl) (by rfl) HA.out rfl (Kd.R_below HR.out (below_drew1 (Below.refl _ _))) hk (below_drew1 (Below.refl _ _)) hb ?_; intro w1 hr1 hb1 hg1; rw [hm] at hr1 ⊢; have HR1 := Aside0.mk hr1; have HB1 := Aside0.mk hb1; clear hr1 hb1 hg1))
  have hx := fun ty c2 => clearE_run HR1.out (by omega) ty c2
  obtain ⟨hr2, hg2⟩ := R_tail kE HR1.out [.int .u64 0, .int .u32 0, .int .u32 0, .string ⟨#[]⟩] (by rw [kE_sz]; simp only [List.length_cons, List.length_nil]; omega)
  rw [kE_sz] at hr2 hg2
  have HR2 := Aside0.mk hr2
  have HB2 := Aside0.mk (HB1.out.grown hg2 (by have := HB1.out.size; omega) (fun k hk => by injection hk with hk; subst hk; exact Kd.R_base HR1.out _ (by simp [Value.ownBlock])))
  clear hr2 hg2 hm
  go_wp2_with fail
  go_ret
  exact ⟨_, rfl, HR2.out, HB2.out⟩
end Go.Proofs.YtanemmcddgkpdaaGreat.Hm
end
section
/- The Go package dir: entries without a name; whether entries may be; conditions: those that each theorem names. -/
namespace Go.Proofs.YtanemmcddgkpdaaGreat.Hm
open Go.RowKit Go.Proofs.YtanemmcddgkpdaaGreatW.PrintWords Go.Proofs.YtanemmcddgkpdaaGreatW.PrintLast Go.Proofs.YtanemmcddgkpdaaGreatW.PrintMore
set_option linter.unusedVariables false
set_option linter.unusedSimpArgs false
/-- Without a name. -/
def removeM (l : List Ent) (s : ByteArray) : List Ent × Int :=
  if idxE (fun e => e.s.toList == s.toList) l < 0 then ([], 60) else (l.eraseIdx (idxE (fun e => e.s.toList == s.toList) l).toNat, 0)
set_option maxHeartbeats 1000000 in
set_option maxRecDepth 100000 in
theorem Remove_any (A : Option Addr) (c : Nat) (l : List Ent) (s : ByteArray) (w : World) (hr : kE.C w A l.length l) (hc : l.length ≤ c) (hl : l.length ≤ 4398046511000) :
    Calls Tryz.prog 123 #[.slice A l.length c, .string s] w fun e' w' => ∃ v, e' = .returned (.tuple #[v, .int .i64 (removeM l s).2]) ∧ kE.R 87 w' w.heap.size (fun _ => True) v (removeM l s).1 ∧ Below w.heap.size w w' := by
  have HR := Aside0.mk hr
  clear hr
  unfold removeM
  obtain ⟨z, hz⟩ : ∃ z, idxE (fun e => e.s.toList == s.toList) l = z := ⟨_, rfl⟩
  rw [hz]
  have HZ := Aside0.mk hz
  rcases idxE_cases (fun e => e.s.toList == s.toList) l with h1 | ⟨k, hk, h1⟩
  · rw [h1] at hz
    subst hz
    rw [if_pos (by decide)]
    go_enter Tryz.func123, Tryz.ntmps123
    go_wp2_with fail
    (with_reducible refine (Find_any A c l s w HR.out hc).mono ?_)
    rintro e' w1 ⟨rfl, hb1⟩
    rw [HZ.out]
    have HB1 := Aside0.mk hb1
    clear hb1
    go_wp2
    go_ret2
    exact ⟨_, rfl, Kd.R_nil _ _ _ _ _, HB1.out⟩
  · rw [h1] at hz
    subst hz
    rw [if_neg (by omega), Int.toNat_natCast]
    have p0 : (0 : Int) ≤ (k : Int) := by omega
    have p1 : decide ((k : Int) < 0) = false := decide_eq_false (by omega)
    have p2 : ¬ (k : Int) < 0 := by omega
    have p3 : IntKind.i64.wrap ((k : Int) + 1) = ((k + 1 : Nat) : Int) := by rw [IntKind.wrap_i64]; omega
    clear h1
    go_enter Tryz.func123, Tryz.ntmps123
    go_wp2_with fail
    (with_reducible refine (Find_any A c l s w HR.out hc).mono ?_)
    rintro e' w1 ⟨rfl, hb1⟩
    rw [HZ.out]
    have HB1 := Aside0.mk hb1
    have HR1 := Aside0.mk (Kd.C_below HR.out hb1)
    clear hb1
    go_wp2_with fail
    (with_reducible refine (CloneE_any A c l w1 HR1.out hc hl).mono ?_)
    rintro e' w2 ⟨v, rfl, hro, hb2⟩
    obtain ⟨g, cap, e1, -, -, -⟩ := Kd.R_form hro (by omega)
    subst e1
    have HRO := Aside0.mk (Kd.R_lower hro HB1.out.size)
    have HB2 := Aside0.mk (below_step HB1.out hb2)
    clear hro hb2
    go_wp2_with fail
    (with_reducible refine (Delete_any g cap k w.heap.size l.length (fun _ => True) l w2 HRO.out hk HB2.out.size hl).mono ?_)
    rintro e' w3 ⟨v3, rfl, hro, hb3⟩
    have HRO3 := Aside0.mk hro
    have HB3 := Aside0.mk (HB2.out.trans hb3)
    clear hro hb3
    go_wp2
    go_ret2
    exact ⟨_, rfl, HRO3.out, HB3.out⟩
end Go.Proofs.YtanemmcddgkpdaaGreat.Hm
end
