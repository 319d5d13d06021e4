/- Part F of the lemmas and walks of the Go functions that these statements reach; conditions: those that each theorem names. -/
import Derived.Test.YtpbhanpblmoepaaGreatJE
section
/- Chapter 1's reference: bytes are read; conditions: those that each theorem names. -/
namespace Go.Proofs.YtpbhanpblmoepaaGreat.Hm
open Go.RowKit Go.Proofs.YtpbhanpblmoepaaGreatW.PrintWords Go.Proofs.YtpbhanpblmoepaaGreatW.PrintLast Go.Proofs.YtpbhanpblmoepaaGreatW.PrintMore
set_option linter.unusedVariables false
set_option linter.unusedSimpArgs false

set_option maxHeartbeats 1000000 in
set_option maxRecDepth 100000 in
theorem raw_any (x : ByteArray) (e : Int) (n : Nat) (m : Int) (hq : m = (n : Int)) (w : World) (hn : n ≤ 1000000) (hx : x.size ≤ 4000000000) : Calls Tryz.prog 62 #[.agg #[.string x, .int .i64 e], .int .i64 m] w fun e' w' => e' = .returned (.tuple #[.agg #[.string (strOfNums (takeM (bytesOf x) e n).2.1), .int .i64 (takeM (bytesOf x) e n).2.2], .string (strOfNums (takeM (bytesOf x) e n).1)]) ∧ Below w.heap.size w w' := by
  subst hq
  by_cases he : e = 0
  · subst he
    have hlen : (bytesOf x).length = x.size := bytesOf_length x
    by_cases hl : x.size < n
    · have hd : decide ((x.size : Int) < (n : Int)) = true := decide_eq_true (by omega)
      have HT : Aside0 (takeM (bytesOf x) 0 n = ([], bytesOf x, 10)) := ⟨by unfold takeM; rw [if_neg (by simp), if_pos (by rw [hlen]; exact hl)]⟩
      clear hlen
      go_enter Tryz.func62, Tryz.ntmps62
      go_wp2
      exact bodyPost_ret (v := .tuple #[.agg #[.string x, .int .i64 10], .string ⟨#[]⟩]) (by simp [results, Tryz.f62, go_sem]) rfl ⟨by rw [HT.out]; dsimp only; rw [strOfNums_bytesOf]; rfl, below_alloc (below_alloc (Below.refl _ _) _) _⟩
    · have hd : decide ((x.size : Int) < (n : Int)) = false := decide_eq_false (by omega)
      have HT : Aside0 (takeM (bytesOf x) 0 n = ((bytesOf x).take n, (bytesOf x).drop n, 0)) := ⟨by unfold takeM; rw [if_neg (by simp), if_neg (by rw [hlen]; exact hl)]⟩
      have p0 : (0 : Int) ≤ (n : Int) := by omega
      have p1 : (n : Int) ≤ (x.size : Int) := by omega
      have p2 : n ≤ x.size := by omega
      clear hlen
      go_enter Tryz.func62, Tryz.ntmps62
      have e1 : strOfNums ((bytesOf x).take n) = x.extract 0 n := by
        have h := bytesOf_extract x 0 n
        rw [List.drop_zero] at h
        rw [← h, strOfNums_bytesOf]
      have e2 : strOfNums ((bytesOf x).drop n) = x.extract n x.size := by
        have h := bytesOf_extract x n x.size
        rw [List.take_of_length_le (by rw [bytesOf_length]; exact Nat.le_refl _)] at h
        rw [← h, strOfNums_bytesOf]
      have E1 := Aside0.mk e1
      have E2 := Aside0.mk e2
      clear e1 e2
      go_wp2
      exact bodyPost_ret (v := .tuple #[.agg #[.string (x.extract n x.size), .int .i64 0], .string (x.extract 0 n)]) (by simp [results, Tryz.f62, go_sem]) rfl ⟨by rw [HT.out]; dsimp only; rw [E1.out, E2.out], below_alloc (below_alloc (Below.refl _ _) _) _⟩
  · have hd : (e != 0) = true := by simpa using he
    have HT : Aside0 (takeM (bytesOf x) e n = ([], bytesOf x, e)) := ⟨by unfold takeM; rw [if_pos he]⟩
    clear he
    go_enter Tryz.func62, Tryz.ntmps62
    go_wp2
    exact bodyPost_ret (v := .tuple #[.agg #[.string x, .int .i64 e], .string ⟨#[]⟩]) (by simp [results, Tryz.f62, go_sem]) rfl ⟨by rw [HT.out]; dsimp only; rw [strOfNums_bytesOf]; rfl, below_alloc (below_alloc (Below.refl _ _) _) _⟩
end Go.Proofs.YtpbhanpblmoepaaGreat.Hm
end
section
/- Chapter 1's reference: the number of bytes; conditions: those that each theorem names. -/
namespace Go.Proofs.YtpbhanpblmoepaaGreat.Hm
open Go.RowKit Go.Proofs.YtpbhanpblmoepaaGreatW.PrintWords Go.Proofs.YtpbhanpblmoepaaGreatW.PrintLast Go.Proofs.YtpbhanpblmoepaaGreatW.PrintMore
set_option linter.unusedVariables false
set_option linter.unusedSimpArgs false

theorem numN_small (l : List Int) (hb : bytesB l = true) (k : Nat) (hl : l.length = k) (hk : k ≤ 7) : 0 ≤ numN 0 l ∧ numN 0 l < 72057594037927936 := by
  have h := numN_range l hb 0 0 (by decide) (by decide)
  rw [hl, Nat.zero_add] at h
  have := p256 k hk
  omega
set_option maxHeartbeats 1000000 in
set_option maxRecDepth 100000 in
theorem number_any (s : ByteArray) (w : World) (hs : s.size ≤ 8) : Calls Tryz.prog 63 #[.string s] w fun e w' => e = .returned (.int .u64 (numN 0 (bytesOf s))) ∧ w' = w := by
  go_enter Tryz.func63, Tryz.ntmps63
  go_wp2
  go_loopg [3, 4] s.size (fun kq v3 v4 w' => ∃ k : Nat, k + kq = s.size ∧ v4 = .int .i64 k ∧ v3 = .int .u64 (numN 0 ((bytesOf s).take k)) ∧ w' = w)
  case atStart => exact ⟨0, by omega, rfl, rfl, rfl⟩
  case round =>
    obtain ⟨k, hk, rfl, rfl, rfl⟩ := hrel
    obtain ⟨x, hx⟩ : ∃ x, numN 0 ((bytesOf s).take k) = x := ⟨_, rfl⟩
    have HX := Aside0.mk hx
    simp only [hx]
    by_cases hlt : k < s.size
    · have hd : decide ((k : Int) < (s.size : Int)) = true := decide_eq_true (by omega)
      have p0 : (0 : Int) ≤ (k : Int) := by omega
      have p1 : (k : Int) < (s.size : Int) := by omega
      have hxr := numN_small ((bytesOf s).take k) (bytesB_take _ _ (bytesOf_range s)) k (by rw [List.length_take, bytesOf_length]; omega) (by omega)
      rw [hx] at hxr
      have hy : ((s[k]'hlt).toNat : Int) < 256 := by have := (s[k]'hlt).toNat_lt; omega
      have hy0 : (0 : Int) ≤ ((s[k]'hlt).toNat : Int) := by omega
      have q1 : IntKind.u64.wrap (x * 256) = x * 256 := u64w _ (by omega) (by omega)
      have q2 : IntKind.u64.wrap (x * 256 + ((s[k]'hlt).toNat : Int)) = x * 256 + ((s[k]'hlt).toNat : Int) := u64w _ (by omega) (by omega)
      have q3 : IntKind.u64.wrap ((s[k]'hlt).toNat : Int) = ((s[k]'hlt).toNat : Int) := u64w _ (by omega) (by omega)
      have HS : Aside0 (numN 0 ((bytesOf s).take (k + 1)) = x * 256 + ((s[k]'hlt).toNat : Int)) := ⟨by
        have hl2 : k < (bytesOf s).length := by rw [bytesOf_length]; exact hlt
        rw [List.take_succ_eq_append_getElem hl2, numN_snoc, hx, byte_rd s k hlt, rd_at _ k hl2]⟩
      have HLT := Aside0.mk hlt
      clear hx hxr hy hy0
      go_wp2
      go_roundg (s.size - k - 1)
      case measure => omega
      case rel => exact ⟨k + 1, by omega, by go_num, by rw [HS.out], rfl⟩
    · have hd : decide ((k : Int) < (s.size : Int)) = false := decide_eq_false (by omega)
      have hk' : k = s.size := by omega
      subst hk'
      have HN : Aside0 (numN 0 (bytesOf s) = x) := ⟨by rw [← HX.out, List.take_of_length_le (by rw [bytesOf_length]; exact Nat.le_refl _)]⟩
      clear hx
      go_wp2
      go_ret
      exact ⟨by rw [HN.out]; rfl, rfl⟩
end Go.Proofs.YtpbhanpblmoepaaGreat.Hm
end
section
/- Chapter 1's reference: numbers are read; conditions: those that each theorem names. -/
namespace Go.Proofs.YtpbhanpblmoepaaGreat.Hm
open Go.RowKit Go.Proofs.YtpbhanpblmoepaaGreatW.PrintWords Go.Proofs.YtpbhanpblmoepaaGreatW.PrintLast Go.Proofs.YtpbhanpblmoepaaGreatW.PrintMore
set_option linter.unusedVariables false
set_option linter.unusedSimpArgs false

set_option maxHeartbeats 2000000 in
set_option maxRecDepth 100000 in
theorem Read64_any (x : ByteArray) (e : Int) (w : World) (hx : x.size ≤ 4000000000) : Calls Tryz.prog 64 #[.agg #[.string x, .int .i64 e]] w fun e' w' => e' = .returned (.tuple #[.agg #[.string (strOfNums (rdM (bytesOf x) e 8).2.1), .int .i64 (rdM (bytesOf x) e 8).2.2], .int .u64 (rdM (bytesOf x) e 8).1]) ∧ Below w.heap.size w w' := by
  obtain ⟨⟨r, ys, e2⟩, hm⟩ : ∃ r, takeM (bytesOf x) e 8 = r := ⟨_, rfl⟩
  have hm2 : rdM (bytesOf x) e 8 = (numN 0 r, ys, e2) := by unfold rdM; rw [hm]
  rw [hm2]
  have hrb := takeM_bytes (bytesOf x) e 8 (bytesOf_range x)
  rw [hm] at hrb
  have HRB := Aside0.mk hrb
  have HM := Aside0.mk hm
  clear hm hm2 hrb
  go_enter Tryz.func64, Tryz.ntmps64
  go_wp2_with fail
  have h1 := raw_any x e 8 8 rfl ((w.alloc (.cells #[.string x, .int .i64 e] 78)).alloc (.cells #[.string ⟨#[]⟩, .int .i64 0] 78)) (by decide) hx
  rw [HM.out] at h1
  (with_reducible refine h1.mono ?_)
  rintro e' w1 ⟨rfl, hb1⟩
  have HX := Aside0.mk (blk_below (blk_alloc (blk_new w (.cells #[.string x, .int .i64 e] 78)) (.cells #[.string ⟨#[]⟩, .int .i64 0] 78)) hb1)
  have hz := blk_new (w.alloc (.cells #[.string x, .int .i64 e] 78)) (.cells #[.string ⟨#[]⟩, .int .i64 0] 78)
  rw [World.size_alloc] at hz
  have HZ := Aside0.mk (blk_below hz hb1)
  have hx0 := blk_cell HX.out 0; have hx1 := blk_cell HX.out 1; have hf0 := blk_frozen HX.out 0; have hf1 := blk_frozen HX.out 1
  have HB1 := Aside0.mk (below_step (below_alloc (below_alloc (Below.refl _ _) _) _) hb1)
  clear h1 hb1 hz
  have HQ : Aside0 (∀ W : World, Calls Tryz.prog 63 #[.string (strOfNums r)] W fun e' w' => e' = .returned (.int .u64 (numN 0 r)) ∧ w' = W) := ⟨fun W => by
    have h := number_any (strOfNums r) W (by rw [size_strOfNums]; exact HRB.out.2)
    rw [bytesOf_strOfNums _ HRB.out.1] at h
    exact h⟩
  go_wp2_with fail
  obtain ⟨W2, hW2⟩ : ∃ W2, World.setCell (World.setCell w1 ⟨w.heap.size, 0, none⟩ (.string (strOfNums ys))) ⟨w.heap.size, 1, none⟩ (.int .i64 e2) = W2 := ⟨_, rfl⟩
  simp only [hW2]
  have HX2 : Aside0 (W2.heap[w.heap.size]? = some (.cells #[.string (strOfNums ys), .int .i64 e2] 78 (0, 0))) := ⟨by rw [← hW2]; exact blk_set (blk_set HX.out 0 _) 1 _⟩
  have HZ2 : Aside0 (W2.heap[w.heap.size + 1]? = some (.cells #[.string ⟨#[]⟩, .int .i64 0] 78 (0, 0))) := ⟨by rw [← hW2]; exact blk_far (blk_far HZ.out (p := ⟨w.heap.size, 0, none⟩) (by simp) _) (p := ⟨w.heap.size, 1, none⟩) (by simp) _⟩
  have HB2 : Aside0 (Below w.heap.size w W2) := ⟨by rw [← hW2]; exact (HB1.out.setCell (p := ⟨w.heap.size, 0, none⟩) (Nat.le_refl _) _).setCell (p := ⟨w.heap.size, 1, none⟩) (Nat.le_refl _) _⟩
  clear hW2 hx0 hx1 hf0 hf1
  have hx0 := blk_cell HX2.out 0; have hx1 := blk_cell HX2.out 1
  have hz0 := blk_cell HZ2.out 0; have hz1 := blk_cell HZ2.out 1; have hg0 := blk_frozen HZ2.out 0; have hg1 := blk_frozen HZ2.out 1
  go_region_with ((go_at_call 63; (with_reducible refine (HQ.out _).mono ?_); rintro e' w' ⟨rfl, rfl⟩))
  all_goals go_wp2
  all_goals (try simp only [Act.put, List.setIfInBounds_toArray, List.set_cons_zero, List.set_cons_succ])
  all_goals (try dsimp only [List.getElem_toArray, List.getElem_cons_succ, List.getElem_cons_zero, Act.put])
  all_goals (
    have hzf := blk_drew (blk_set (blk_set HZ2.out 0 (.string (strOfNums ys))) 1 (.int .i64 e2))
    have hc0 := blk_cell hzf 0
    have hc1 := blk_cell hzf 1
    simp only [List.set_cons_succ, List.set_cons_zero]
    exact bodyPost_ret (v := .tuple #[.agg #[.string (strOfNums ys), .int .i64 e2], .int .u64 (numN 0 r)]) (by simp [results, Tryz.f64, go_sem, hc0, hc1]) rfl ⟨rfl, below_drew1 ((HB2.out.setCell (p := ⟨w.heap.size + 1, 0, none⟩) (by simp) _).setCell (p := ⟨w.heap.size + 1, 1, none⟩) (by simp) _)⟩)
end Go.Proofs.YtpbhanpblmoepaaGreat.Hm
end
section
/- Chapter 1's reference: numbers are read; conditions: those that each theorem names. -/
namespace Go.Proofs.YtpbhanpblmoepaaGreat.Hm
open Go.RowKit Go.Proofs.YtpbhanpblmoepaaGreatW.PrintWords Go.Proofs.YtpbhanpblmoepaaGreatW.PrintLast Go.Proofs.YtpbhanpblmoepaaGreatW.PrintMore
set_option linter.unusedVariables false
set_option linter.unusedSimpArgs false

theorem p256s' (i : Nat) (h : i ≤ 4) : (256 : Int) ^ i ≤ 4294967296 := by
  rcases i with _ | _ | _ | _ | _ | i <;> first | decide | omega
set_option maxHeartbeats 2000000 in
set_option maxRecDepth 100000 in
theorem Read32_any (x : ByteArray) (e : Int) (w : World) (hx : x.size ≤ 4000000000) : Calls Tryz.prog 25 #[.agg #[.string x, .int .i64 e]] w fun e' w' => e' = .returned (.tuple #[.agg #[.string (strOfNums (rdM (bytesOf x) e 4).2.1), .int .i64 (rdM (bytesOf x) e 4).2.2], .int .u32 (rdM (bytesOf x) e 4).1]) ∧ Below w.heap.size w w' := by
  obtain ⟨⟨r, ys, e2⟩, hm⟩ : ∃ r, takeM (bytesOf x) e 4 = r := ⟨_, rfl⟩
  have hm2 : rdM (bytesOf x) e 4 = (numN 0 r, ys, e2) := by unfold rdM; rw [hm]
  rw [hm2]
  have hrb := takeM_bytes (bytesOf x) e 4 (bytesOf_range x)
  rw [hm] at hrb
  have HRB := Aside0.mk hrb
  have HM := Aside0.mk hm
  clear hm hm2 hrb
  go_enter Tryz.func25, Tryz.ntmps25
  go_wp2_with fail
  have h1 := raw_any x e 4 4 rfl ((w.alloc (.cells #[.string x, .int .i64 e] 78)).alloc (.cells #[.string ⟨#[]⟩, .int .i64 0] 78)) (by decide) hx
  rw [HM.out] at h1
  (with_reducible refine h1.mono ?_)
  rintro e' w1 ⟨rfl, hb1⟩
  have HX := Aside0.mk (blk_below (blk_alloc (blk_new w (.cells #[.string x, .int .i64 e] 78)) (.cells #[.string ⟨#[]⟩, .int .i64 0] 78)) hb1)
  have hz := blk_new (w.alloc (.cells #[.string x, .int .i64 e] 78)) (.cells #[.string ⟨#[]⟩, .int .i64 0] 78)
  rw [World.size_alloc] at hz
  have HZ := Aside0.mk (blk_below hz hb1)
  have hx0 := blk_cell HX.out 0; have hx1 := blk_cell HX.out 1; have hf0 := blk_frozen HX.out 0; have hf1 := blk_frozen HX.out 1
  have HB1 := Aside0.mk (below_step (below_alloc (below_alloc (Below.refl _ _) _) _) hb1)
  clear h1 hb1 hz
  have HQ : Aside0 (∀ W : World, Calls Tryz.prog 63 #[.string (strOfNums r)] W fun e' w' => e' = .returned (.int .u64 (numN 0 r)) ∧ w' = W) := ⟨fun W => by
    have h := number_any (strOfNums r) W (by rw [size_strOfNums]; have := HRB.out.2; omega)
    rw [bytesOf_strOfNums _ HRB.out.1] at h
    exact h⟩
  have hn0 := numN_small r HRB.out.1 r.length rfl (by have := HRB.out.2; omega)
  have hn4 := numN_range r HRB.out.1 0 0 (by decide) (by decide)
  rw [Nat.zero_add] at hn4
  have hq4 : IntKind.u32.wrap (numN 0 r) = numN 0 r := by
    have h5 := p256s' r.length HRB.out.2
    exact u32w _ hn4.1 (by omega)
  clear hn0 hn4
  go_wp2_with fail
  obtain ⟨W2, hW2⟩ : ∃ W2, World.setCell (World.setCell w1 ⟨w.heap.size, 0, none⟩ (.string (strOfNums ys))) ⟨w.heap.size, 1, none⟩ (.int .i64 e2) = W2 := ⟨_, rfl⟩
  simp only [hW2]
  have HX2 : Aside0 (W2.heap[w.heap.size]? = some (.cells #[.string (strOfNums ys), .int .i64 e2] 78 (0, 0))) := ⟨by rw [← hW2]; exact blk_set (blk_set HX.out 0 _) 1 _⟩
  have HZ2 : Aside0 (W2.heap[w.heap.size + 1]? = some (.cells #[.string ⟨#[]⟩, .int .i64 0] 78 (0, 0))) := ⟨by rw [← hW2]; exact blk_far (blk_far HZ.out (p := ⟨w.heap.size, 0, none⟩) (by simp) _) (p := ⟨w.heap.size, 1, none⟩) (by simp) _⟩
  have HB2 : Aside0 (Below w.heap.size w W2) := ⟨by rw [← hW2]; exact (HB1.out.setCell (p := ⟨w.heap.size, 0, none⟩) (Nat.le_refl _) _).setCell (p := ⟨w.heap.size, 1, none⟩) (Nat.le_refl _) _⟩
  clear hW2 hx0 hx1 hf0 hf1
  have hx0 := blk_cell HX2.out 0; have hx1 := blk_cell HX2.out 1
  have hz0 := blk_cell HZ2.out 0; have hz1 := blk_cell HZ2.out 1; have hg0 := blk_frozen HZ2.out 0; have hg1 := blk_frozen HZ2.out 1
  go_region_with ((go_at_call 63; (with_reducible refine (HQ.out _).mono ?_); rintro e' w' ⟨rfl, rfl⟩))
  all_goals go_wp2
  all_goals (try simp only [Act.put, List.setIfInBounds_toArray, List.set_cons_zero, List.set_cons_succ])
  all_goals (try dsimp only [List.getElem_toArray, List.getElem_cons_succ, List.getElem_cons_zero, Act.put])
  all_goals (
    have hzf := blk_drew (blk_set (blk_set HZ2.out 0 (.string (strOfNums ys))) 1 (.int .i64 e2))
    have hc0 := blk_cell hzf 0
    have hc1 := blk_cell hzf 1
    simp only [List.set_cons_succ, List.set_cons_zero]
    exact bodyPost_ret (v := .tuple #[.agg #[.string (strOfNums ys), .int .i64 e2], .int .u32 (numN 0 r)]) (by simp [results, Tryz.f25, go_sem, hc0, hc1]) rfl ⟨rfl, below_drew1 ((HB2.out.setCell (p := ⟨w.heap.size + 1, 0, none⟩) (by simp) _).setCell (p := ⟨w.heap.size + 1, 1, none⟩) (by simp) _)⟩)
end Go.Proofs.YtpbhanpblmoepaaGreat.Hm
end
section
/- Chapter 1's reference: bytes behind their number are read; conditions: those that each theorem names. -/
namespace Go.Proofs.YtpbhanpblmoepaaGreat.Hm
open Go.RowKit Go.Proofs.YtpbhanpblmoepaaGreatW.PrintWords Go.Proofs.YtpbhanpblmoepaaGreatW.PrintLast Go.Proofs.YtpbhanpblmoepaaGreatW.PrintMore
set_option linter.unusedVariables false
set_option linter.unusedSimpArgs false

theorem takeM_rest (xs : List Int) (e : Int) (n : Nat) (hb : bytesB xs = true) : bytesB (takeM xs e n).2.1 = true := by
  unfold takeM
  split
  · exact hb
  · split
    · exact hb
    · exact bytesB_drop _ _ hb
set_option maxHeartbeats 4000000 in
set_option maxRecDepth 100000 in
theorem ReadOpaque_any (x : ByteArray) (e : Int) (r ys : List Int) (e2 : Int) (most : Int) (hk0 : 0 ≤ most) (hk1 : most ≤ 100000) (w : World) (hx : x.size ≤ 4000000000) (hm : opM (bytesOf x) e most = (r, ys, e2)) : Calls Tryz.prog 26 #[.agg #[.string x, .int .i64 e], .int .i64 most] w fun e' w' => e' = .returned (.tuple #[.agg #[.string (strOfNums ys), .int .i64 e2], .string (strOfNums r)]) ∧ Below w.heap.size w w' := by
  obtain ⟨⟨n, y1, e1⟩, h1⟩ : ∃ r, rdM (bytesOf x) e 4 = r := ⟨_, rfl⟩
  unfold opM at hm
  rw [h1] at hm
  dsimp only at hm
  have H1 := Aside0.mk h1
  clear h1
  by_cases he : e1 = 0
  · rw [if_neg (by simp [he])] at hm
    subst he
    have hnr := rdM_range (bytesOf x) e 4 (bytesOf_range x)
    rw [H1.out] at hnr
    dsimp only at hnr
    have hnr2 : 0 ≤ n ∧ n < 4294967296 := ⟨hnr.1, by have := hnr.2; omega⟩
    clear hnr
    have q64 : IntKind.u64.wrap n = n := u64w _ hnr2.1 (by omega)
    have q64b : IntKind.u64.wrap most = most := u64w _ hk0 (by omega)
    have hd0 : decide (most < 0) = false := decide_eq_false (by omega)
    by_cases hmost : most < n
    · rw [if_pos hmost] at hm
      injection hm with g1 g2
      injection g2 with g2 g3
      subst g1 g2 g3
      have hd : decide (most < n) = true := decide_eq_true hmost
      go_enter Tryz.func26, Tryz.ntmps26
      go_wp2_with fail
      have h2 := Read32_any x e ((w.alloc (.cells #[.string x, .int .i64 e] 78)).alloc (.cells #[.string ⟨#[]⟩, .int .i64 0] 78)) hx
      rw [H1.out] at h2
      (with_reducible refine h2.mono ?_)
      rintro e' w1 ⟨rfl, hb1⟩
      have HX := Aside0.mk (blk_below (blk_alloc (blk_new w (.cells #[.string x, .int .i64 e] 78)) (.cells #[.string ⟨#[]⟩, .int .i64 0] 78)) hb1)
      have hz := blk_new (w.alloc (.cells #[.string x, .int .i64 e] 78)) (.cells #[.string ⟨#[]⟩, .int .i64 0] 78)
      rw [World.size_alloc] at hz
      have HZ := Aside0.mk (blk_below hz hb1)
      have hx0 := blk_cell HX.out 0; have hx1 := blk_cell HX.out 1; have hf0 := blk_frozen HX.out 0; have hf1 := blk_frozen HX.out 1
      have hz0 := blk_cell HZ.out 0; have hz1 := blk_cell HZ.out 1; have hg0 := blk_frozen HZ.out 0; have hg1 := blk_frozen HZ.out 1
      have HB1 := Aside0.mk (below_step (below_alloc (below_alloc (Below.refl _ _) _) _) hb1)
      clear h2 hb1 hz
      go_upto_region 2 with fail
      obtain ⟨W2, hW2⟩ : ∃ W2, World.setCell (World.setCell w1 ⟨w.heap.size, 0, none⟩ (.string (strOfNums y1))) ⟨w.heap.size, 1, none⟩ (.int .i64 0) = W2 := ⟨_, rfl⟩
      simp only [hW2]
      have HX2 : Aside0 (W2.heap[w.heap.size]? = some (.cells #[.string (strOfNums y1), .int .i64 0] 78 (0, 0))) := ⟨by rw [← hW2]; exact blk_set (blk_set HX.out 0 _) 1 _⟩
      have HZ2 : Aside0 (W2.heap[w.heap.size + 1]? = some (.cells #[.string ⟨#[]⟩, .int .i64 0] 78 (0, 0))) := ⟨by rw [← hW2]; exact blk_far (blk_far HZ.out (p := ⟨w.heap.size, 0, none⟩) (by simp) _) (p := ⟨w.heap.size, 1, none⟩) (by simp) _⟩
      have HB2 : Aside0 (Below w.heap.size w W2) := ⟨by rw [← hW2]; exact (HB1.out.setCell (p := ⟨w.heap.size, 0, none⟩) (Nat.le_refl _) _).setCell (p := ⟨w.heap.size, 1, none⟩) (Nat.le_refl _) _⟩
      clear hW2 hx0 hx1 hf0 hf1 hz0 hz1 hg0 hg1
      have hx0 := blk_cell HX2.out 0; have hx1 := blk_cell HX2.out 1; have hf0 := blk_frozen HX2.out 0; have hf1 := blk_frozen HX2.out 1
      have hz0 := blk_cell HZ2.out 0; have hz1 := blk_cell HZ2.out 1; have hg0 := blk_frozen HZ2.out 0; have hg1 := blk_frozen HZ2.out 1
      go_wp2_with fail
      have hzf := blk_set (blk_set (blk_far HZ2.out (p := ⟨w.heap.size, 1, none⟩) (by simp) (.int .i64 13)) 0 (.string (strOfNums y1))) 1 (.int .i64 13)
      have hc0 := blk_cell hzf 0
      have hc1 := blk_cell hzf 1
      exact bodyPost_ret (v := .tuple #[.agg #[.string (strOfNums y1), .int .i64 13], .string ⟨#[]⟩]) (by simp [results, Tryz.f26, go_sem, hc0, hc1]) rfl ⟨rfl, ((HB2.out.setCell (p := ⟨w.heap.size, 1, none⟩) (Nat.le_refl _) _).setCell (p := ⟨w.heap.size + 1, 0, none⟩) (by simp) _).setCell (p := ⟨w.heap.size + 1, 1, none⟩) (by simp) _⟩
    · rw [if_neg hmost] at hm
      have hd : decide (most < n) = false := decide_eq_false hmost
      obtain ⟨m, hmn⟩ : ∃ m : Nat, n = (m : Int) := ⟨n.toNat, by omega⟩
      subst hmn
      rw [Int.toNat_natCast] at hm
      have hm24 : m ≤ 100000 := by omega
      have q63 : IntKind.i64.wrap (m : Int) = (m : Int) := by rw [IntKind.wrap_i64]; omega
      go_enter Tryz.func26, Tryz.ntmps26
      go_wp2_with fail
      have h2 := Read32_any x e ((w.alloc (.cells #[.string x, .int .i64 e] 78)).alloc (.cells #[.string ⟨#[]⟩, .int .i64 0] 78)) hx
      rw [H1.out] at h2
      (with_reducible refine h2.mono ?_)
      rintro e' w1 ⟨rfl, hb1⟩
      have HX := Aside0.mk (blk_below (blk_alloc (blk_new w (.cells #[.string x, .int .i64 e] 78)) (.cells #[.string ⟨#[]⟩, .int .i64 0] 78)) hb1)
      have hz := blk_new (w.alloc (.cells #[.string x, .int .i64 e] 78)) (.cells #[.string ⟨#[]⟩, .int .i64 0] 78)
      rw [World.size_alloc] at hz
      have HZ := Aside0.mk (blk_below hz hb1)
      have hx0 := blk_cell HX.out 0; have hx1 := blk_cell HX.out 1; have hf0 := blk_frozen HX.out 0; have hf1 := blk_frozen HX.out 1
      have hz0 := blk_cell HZ.out 0; have hz1 := blk_cell HZ.out 1; have hg0 := blk_frozen HZ.out 0; have hg1 := blk_frozen HZ.out 1
      have HB1 := Aside0.mk (below_step (below_alloc (below_alloc (Below.refl _ _) _) _) hb1)
      clear h2 hb1 hz
      go_upto_region 2 with fail
      obtain ⟨W2, hW2⟩ : ∃ W2, World.setCell (World.setCell w1 ⟨w.heap.size, 0, none⟩ (.string (strOfNums y1))) ⟨w.heap.size, 1, none⟩ (.int .i64 0) = W2 := ⟨_, rfl⟩
      simp only [hW2]
      have HX2 : Aside0 (W2.heap[w.heap.size]? = some (.cells #[.string (strOfNums y1), .int .i64 0] 78 (0, 0))) := ⟨by rw [← hW2]; exact blk_set (blk_set HX.out 0 _) 1 _⟩
      have HZ2 : Aside0 (W2.heap[w.heap.size + 1]? = some (.cells #[.string ⟨#[]⟩, .int .i64 0] 78 (0, 0))) := ⟨by rw [← hW2]; exact blk_far (blk_far HZ.out (p := ⟨w.heap.size, 0, none⟩) (by simp) _) (p := ⟨w.heap.size, 1, none⟩) (by simp) _⟩
      have HB2 : Aside0 (Below w.heap.size w W2) := ⟨by rw [← hW2]; exact (HB1.out.setCell (p := ⟨w.heap.size, 0, none⟩) (Nat.le_refl _) _).setCell (p := ⟨w.heap.size, 1, none⟩) (Nat.le_refl _) _⟩
      clear hW2 hx0 hx1 hf0 hf1 hz0 hz1 hg0 hg1
      have hx0 := blk_cell HX2.out 0; have hx1 := blk_cell HX2.out 1; have hf0 := blk_frozen HX2.out 0; have hf1 := blk_frozen HX2.out 1
      have hz0 := blk_cell HZ2.out 0; have hz1 := blk_cell HZ2.out 1; have hg0 := blk_frozen HZ2.out 0; have hg1 := blk_frozen HZ2.out 1
      go_upto_region 9 with fail
      obtain ⟨pad, hpad⟩ : ∃ pad, (4 - m % 4) % 4 = pad := ⟨_, rfl⟩
      go_loopg [8] pad (fun kq v8 w' => ∃ q : Nat, q + kq = m + pad ∧ v8 = .int .i64 (q : Int) ∧ m ≤ q ∧ w' = W2)
      case atStart => exact ⟨m, by omega, rfl, Nat.le_refl _, rfl⟩
      case round =>
        obtain ⟨q, hq, rfl, hmq, hw⟩ := hrel
        have hw2 := hw.symm
        subst hw2
        clear hw
        by_cases hqp : q < m + pad
        · have hd5 : (((q : Int) % 4) != 0) = true := by simp; omega
          go_wp2
          go_roundg (m + pad - q - 1)
          case measure => omega
          case rel => exact ⟨q + 1, by omega, by go_num, by omega, rfl⟩
        · have hd5 : (((q : Int) % 4) != 0) = false := by simp; omega
          have hqe : m + (4 - m % 4) % 4 = q := by omega
          rw [hqe] at hm
          obtain ⟨⟨rb, zs, e3⟩, hm3⟩ : ∃ r, takeM y1 0 q = r := ⟨_, rfl⟩
          rw [hm3] at hm
          dsimp only at hm
          have HM3 := Aside0.mk hm3
          have hy1 : bytesB y1 = true := by have h := takeM_rest (bytesOf x) e 4 (bytesOf_range x); have h9 := H1.out; unfold rdM at h9; injection h9 with _ h9; injection h9 with h9 _; rw [h9] at h; exact h
          have hyl : y1.length ≤ x.size := by have h := takeM_le (bytesOf x) e 4; have h9 := H1.out; unfold rdM at h9; injection h9 with _ h9; injection h9 with h9 _; rw [h9, bytesOf_length] at h; exact h
          have hrb := takeM_bytes y1 0 q hy1
          rw [hm3] at hrb
          have HRB := Aside0.mk hrb
          have hraw := raw_any (strOfNums y1) 0 q q rfl W2 (by omega) (by rw [size_strOfNums]; omega)
          rw [bytesOf_strOfNums _ hy1, hm3] at hraw
          go_wp2_with fail
          (with_reducible refine hraw.mono ?_)
          rintro e' w3 ⟨rfl, hb3⟩
          have HX3 := Aside0.mk (blk_below HX2.out hb3)
          have HZ3 := Aside0.mk (blk_below HZ2.out hb3)
          have HB3 := Aside0.mk (below_step HB2.out hb3)
          clear hraw hb3 hx0 hx1 hf0 hf1 hz0 hz1 hg0 hg1
          have hx0 := blk_cell HX3.out 0; have hx1 := blk_cell HX3.out 1; have hf0 := blk_frozen HX3.out 0; have hf1 := blk_frozen HX3.out 1
          go_upto_region 12 with fail
          obtain ⟨W4, hW4⟩ : ∃ W4, World.setCell (World.setCell w3 ⟨w.heap.size, 0, none⟩ (.string (strOfNums zs))) ⟨w.heap.size, 1, none⟩ (.int .i64 e3) = W4 := ⟨_, rfl⟩
          simp only [hW4]
          have HX4 : Aside0 (W4.heap[w.heap.size]? = some (.cells #[.string (strOfNums zs), .int .i64 e3] 78 (0, 0))) := ⟨by rw [← hW4]; exact blk_set (blk_set HX3.out 0 _) 1 _⟩
          have HZ4 : Aside0 (W4.heap[w.heap.size + 1]? = some (.cells #[.string ⟨#[]⟩, .int .i64 0] 78 (0, 0))) := ⟨by rw [← hW4]; exact blk_far (blk_far HZ3.out (p := ⟨w.heap.size, 0, none⟩) (by simp) _) (p := ⟨w.heap.size, 1, none⟩) (by simp) _⟩
          have HB4 : Aside0 (Below w.heap.size w W4) := ⟨by rw [← hW4]; exact (HB3.out.setCell (p := ⟨w.heap.size, 0, none⟩) (Nat.le_refl _) _).setCell (p := ⟨w.heap.size, 1, none⟩) (Nat.le_refl _) _⟩
          clear hW4 hx0 hx1 hf0 hf1
          have hx0 := blk_cell HX4.out 0; have hx1 := blk_cell HX4.out 1; have hf0 := blk_frozen HX4.out 0; have hf1 := blk_frozen HX4.out 1
          have hz0 := blk_cell HZ4.out 0; have hz1 := blk_cell HZ4.out 1; have hg0 := blk_frozen HZ4.out 0; have hg1 := blk_frozen HZ4.out 1
          by_cases he3 : e3 = 0
          · rw [if_neg (by simp [he3])] at hm
            subst he3
            have hql := takeM_len y1 q (by rw [hm3])
            rw [hm3] at hql
            dsimp only at hql
            obtain ⟨t, ht⟩ : ∃ t, strOfNums rb = t := ⟨_, rfl⟩
            have hts : t.size = q := by rw [← ht, size_strOfNums, hql]
            have HT := Aside0.mk ht
            have HQL := Aside0.mk hql
            have HTS := Aside0.mk hts
            have HMM := Aside0.mk hm
            have HMQ := Aside0.mk hmq
            have HQ100 : Aside0 (q ≤ 100100) := ⟨by omega⟩
            simp only [ht]
            clear hm hm3 hql ht hts hqp hqe hq hmost hd5
            go_upto_region 15 with fail
            go_loopg [10] (q - m) (fun kq v10 w' => ∃ i : Nat, i + kq = q ∧ v10 = .int .i64 (i : Int) ∧ Aside0 (m ≤ i) ∧ Aside0 (nzB ((rb.take i).drop m) = false) ∧ w' = W4)
            case atStart => exact ⟨m, by have := HMQ.out; omega, rfl, ⟨Nat.le_refl _⟩, ⟨by rw [List.drop_take_self]; rfl⟩, rfl⟩
            case round =>
              obtain ⟨i, hi, rfl, HMI, HNZ, hw⟩ := hrel
              have hw2 := hw.symm
              subst hw2
              clear hw
              by_cases hiq : i < q
              · have hd7 : decide ((i : Int) < (q : Int)) = true := decide_eq_true (by omega)
                have his : i < t.size := by rw [HTS.out]; exact hiq
                have p0 : (0 : Int) ≤ (i : Int) := by omega
                have p1 : (i : Int) < (t.size : Int) := by omega
                have hir : i < rb.length := by rw [HQL.out]; exact hiq
                have hbt : ((t[i]'his).toNat : Int) = rb[i] := by
                  have hb9 : bytesOf t = rb := by rw [← HT.out, bytesOf_strOfNums _ HRB.out.1]
                  rw [byte_rd t i his, hb9, rd_at rb i hir]
                by_cases hc : (t[i]'his).toNat = 0
                · have q7 : (((t[i]'his).toNat : Int) != 0) = false := by rw [hc]; rfl
                  have HS : Aside0 (nzB ((rb.take (i + 1)).drop m) = false) := ⟨by
                    rw [List.take_succ_eq_append_getElem hir, List.drop_append_of_le_length (by rw [List.length_take]; have := HMI.out; omega)]
                    have h9 := HNZ.out
                    unfold nzB at h9 ⊢
                    rw [List.any_append, h9, ← hbt, hc]
                    rfl⟩
                  have HMI2 : Aside0 (m ≤ i + 1) := ⟨Nat.le_succ_of_le HMI.out⟩
                  have HIQ := Aside0.mk hiq
                  clear hbt hir
                  go_wp2
                  go_roundg (q - i - 1)
                  case measure => have := HIQ.out; omega
                  case rel => exact ⟨i + 1, by have := HIQ.out; omega, by have h5 := HQ100.out; have h6 := HIQ.out; have h7 := wrap_up (i : Int) (by omega) (by omega); rw [h7]; rfl, HMI2, HS, rfl⟩
                · have q7 : (((t[i]'his).toNat : Int) != 0) = true := by simpa using hc
                  have HNN : Aside0 (nzB (rb.drop m) = true) := ⟨by
                    unfold nzB
                    rw [List.any_eq_true]
                    refine ⟨rb[i], ?_, by rw [← hbt]; simpa using hc⟩
                    rw [List.mem_iff_getElem]
                    have h7 : m + (i - m) = i := by have := HMI.out; omega
                    exact ⟨i - m, by rw [List.length_drop]; have h8 := hir; have h9 := HMI.out; omega, by rw [List.getElem_drop]; congr 1⟩⟩
                  have hmm := HMM.out
                  rw [if_pos HNN.out] at hmm
                  injection hmm with g1 g2
                  injection g2 with g2 g3
                  subst g1 g2 g3
                  clear hbt hir hc
                  go_wp2_with fail
                  have hzf := blk_set (blk_set (blk_far HZ4.out (p := ⟨w.heap.size, 1, none⟩) (by simp) (.int .i64 11)) 0 (.string (strOfNums zs))) 1 (.int .i64 11)
                  have hc0 := blk_cell hzf 0
                  have hc1 := blk_cell hzf 1
                  exact bodyPost_ret (v := .tuple #[.agg #[.string (strOfNums zs), .int .i64 11], .string ⟨#[]⟩]) (by simp [results, Tryz.f26, go_sem, hc0, hc1]) rfl ⟨rfl, ((HB4.out.setCell (p := ⟨w.heap.size, 1, none⟩) (Nat.le_refl _) _).setCell (p := ⟨w.heap.size + 1, 0, none⟩) (by simp) _).setCell (p := ⟨w.heap.size + 1, 1, none⟩) (by simp) _⟩
              · have hd7 : decide ((i : Int) < (q : Int)) = false := decide_eq_false (by omega)
                have hiq2 : i = q := by omega
                have HNN : Aside0 (nzB (rb.drop m) = false) := ⟨by have h9 := HNZ.out; rw [List.take_of_length_le (by rw [HQL.out, hiq2]; exact Nat.le_refl _)] at h9; exact h9⟩
                have hmm := HMM.out
                rw [if_neg (by rw [HNN.out]; decide)] at hmm
                injection hmm with g1 g2
                injection g2 with g2 g3
                subst g1 g2 g3
                have HEX : Aside0 (strOfNums (rb.take m) = t.extract 0 m) := ⟨by
                  have h := bytesOf_extract t 0 m
                  rw [List.drop_zero, show bytesOf t = rb by rw [← HT.out, bytesOf_strOfNums _ HRB.out.1]] at h
                  rw [← h, strOfNums_bytesOf]⟩
                have r0 : (0 : Int) ≤ (m : Int) := by omega
                have r1 : (m : Int) ≤ (t.size : Int) := by have h1 := HTS.out; have h2 := HMQ.out; omega
                have r2 : m ≤ t.size := by omega
                have hd8 : decide (i < q) = false := decide_eq_false hiq
                clear hiq2
                go_wp2_with fail
                go_region_with (fail)
                all_goals go_wp2
                all_goals (try simp only [Act.put, List.setIfInBounds_toArray, List.set_cons_zero, List.set_cons_succ])
                all_goals (try dsimp only [List.getElem_toArray, List.getElem_cons_succ, List.getElem_cons_zero, Act.put])
                all_goals (
                  have hzf := blk_drew (blk_set (blk_set HZ4.out 0 (.string (strOfNums zs))) 1 (.int .i64 0))
                  have hc0 := blk_cell hzf 0
                  have hc1 := blk_cell hzf 1
                  simp only [List.set_cons_succ, List.set_cons_zero]
                  exact bodyPost_ret (v := .tuple #[.agg #[.string (strOfNums zs), .int .i64 0], .string (t.extract 0 m)]) (by simp [results, Tryz.f26, go_sem, hc0, hc1]) rfl ⟨by rw [HEX.out], below_drew1 ((HB4.out.setCell (p := ⟨w.heap.size + 1, 0, none⟩) (by simp) _).setCell (p := ⟨w.heap.size + 1, 1, none⟩) (by simp) _)⟩)
          · rw [if_pos he3] at hm
            injection hm with g1 g2
            injection g2 with g2 g3
            subst g1 g2 g3
            have hd3 : (e3 != 0) = true := by simpa using he3
            clear hqp hqe hq hmost hd5 he3
            go_wp2_with fail
            have hzf := blk_set (blk_set HZ4.out 0 (.string (strOfNums zs))) 1 (.int .i64 e3)
            have hc0 := blk_cell hzf 0
            have hc1 := blk_cell hzf 1
            exact bodyPost_ret (v := .tuple #[.agg #[.string (strOfNums zs), .int .i64 e3], .string ⟨#[]⟩]) (by simp [results, Tryz.f26, go_sem, hc0, hc1]) rfl ⟨rfl, (HB4.out.setCell (p := ⟨w.heap.size + 1, 0, none⟩) (by simp) _).setCell (p := ⟨w.heap.size + 1, 1, none⟩) (by simp) _⟩
  · rw [if_pos he] at hm
    injection hm with g1 g2
    injection g2 with g2 g3
    subst g1 g2 g3
    have hd3 : (e1 != 0) = true := by simpa using he
    clear he
    go_enter Tryz.func26, Tryz.ntmps26
    go_wp2_with fail
    have h2 := Read32_any x e ((w.alloc (.cells #[.string x, .int .i64 e] 78)).alloc (.cells #[.string ⟨#[]⟩, .int .i64 0] 78)) hx
    rw [H1.out] at h2
    (with_reducible refine h2.mono ?_)
    rintro e' w1 ⟨rfl, hb1⟩
    have HX := Aside0.mk (blk_below (blk_alloc (blk_new w (.cells #[.string x, .int .i64 e] 78)) (.cells #[.string ⟨#[]⟩, .int .i64 0] 78)) hb1)
    have hz := blk_new (w.alloc (.cells #[.string x, .int .i64 e] 78)) (.cells #[.string ⟨#[]⟩, .int .i64 0] 78)
    rw [World.size_alloc] at hz
    have HZ := Aside0.mk (blk_below hz hb1)
    have hx0 := blk_cell HX.out 0; have hx1 := blk_cell HX.out 1; have hf0 := blk_frozen HX.out 0; have hf1 := blk_frozen HX.out 1
    have hz0 := blk_cell HZ.out 0; have hz1 := blk_cell HZ.out 1; have hg0 := blk_frozen HZ.out 0; have hg1 := blk_frozen HZ.out 1
    have HB1 := Aside0.mk (below_step (below_alloc (below_alloc (Below.refl _ _) _) _) hb1)
    clear h2 hb1 hz
    go_upto_region 2 with fail
    obtain ⟨W2, hW2⟩ : ∃ W2, World.setCell (World.setCell w1 ⟨w.heap.size, 0, none⟩ (.string (strOfNums y1))) ⟨w.heap.size, 1, none⟩ (.int .i64 e1) = W2 := ⟨_, rfl⟩
    simp only [hW2]
    have HX2 : Aside0 (W2.heap[w.heap.size]? = some (.cells #[.string (strOfNums y1), .int .i64 e1] 78 (0, 0))) := ⟨by rw [← hW2]; exact blk_set (blk_set HX.out 0 _) 1 _⟩
    have HZ2 : Aside0 (W2.heap[w.heap.size + 1]? = some (.cells #[.string ⟨#[]⟩, .int .i64 0] 78 (0, 0))) := ⟨by rw [← hW2]; exact blk_far (blk_far HZ.out (p := ⟨w.heap.size, 0, none⟩) (by simp) _) (p := ⟨w.heap.size, 1, none⟩) (by simp) _⟩
    have HB2 : Aside0 (Below w.heap.size w W2) := ⟨by rw [← hW2]; exact (HB1.out.setCell (p := ⟨w.heap.size, 0, none⟩) (Nat.le_refl _) _).setCell (p := ⟨w.heap.size, 1, none⟩) (Nat.le_refl _) _⟩
    clear hW2 hx0 hx1 hf0 hf1 hz0 hz1 hg0 hg1
    have hx0 := blk_cell HX2.out 0; have hx1 := blk_cell HX2.out 1; have hf0 := blk_frozen HX2.out 0; have hf1 := blk_frozen HX2.out 1
    have hz0 := blk_cell HZ2.out 0; have hz1 := blk_cell HZ2.out 1; have hg0 := blk_frozen HZ2.out 0; have hg1 := blk_frozen HZ2.out 1
    go_wp2_with fail
    have hzf := blk_set (blk_set HZ2.out 0 (.string (strOfNums y1))) 1 (.int .i64 e1)
    have hc0 := blk_cell hzf 0
    have hc1 := blk_cell hzf 1
    exact bodyPost_ret (v := .tuple #[.agg #[.string (strOfNums y1), .int .i64 e1], .string ⟨#[]⟩]) (by simp [results, Tryz.f26, go_sem, hc0, hc1]) rfl ⟨rfl, (HB2.out.setCell (p := ⟨w.heap.size + 1, 0, none⟩) (by simp) _).setCell (p := ⟨w.heap.size + 1, 1, none⟩) (by simp) _⟩
end Go.Proofs.YtpbhanpblmoepaaGreat.Hm
end
