/- The Go type xdr.Reader: what its functions read of the bytes that are left, and the first error; conditions: those that each theorem names. -/
import Derived.Test.YtlpjchighfdomaaGw
namespace Go.Proofs.Ytlpjchighfdomaa.Hm
open Go.RowKit Go.Proofs.YtlpjchighfdomaaW.PrintWords Go.Proofs.YtlpjchighfdomaaW.PrintLast Go.Proofs.YtlpjchighfdomaaW.PrintMore
set_option linter.unusedVariables false
set_option linter.unusedSimpArgs false

theorem infoI : ∃ i, Try.prog.info? 5 = some i ∧ i.size = 1 := by
  obtain ⟨i0, hi, hzz⟩ := Option.map_eq_some_iff.1 infoB
  simp only [Prod.mk.injEq] at hzz
  exact ⟨i0, hi, hzz.2.1⟩
/-- Block p is a reader: the bytes xs are left, and e is the first error. -/
structure Rd (w : World) (B p L : Nat) (xs : List Int) (e : Int) : Prop where
  le : B ≤ p
  ex : ∃ A c, w.heap[p]? = some (.cells #[.slice A xs.length c, .int .i64 e] 127 (0, 0)) ∧ xs.length ≤ c ∧ Kd.F (Kd.int .u8) w (fun k => k ≠ p ∧ k < L) A xs.length xs
  by_ : bytesB xs = true
  mx : xs.length ≤ 140737488355328
theorem Rd.lt {w : World} {B p L : Nat} {xs : List Int} {e : Int} (h : Rd w B p L xs e) : p < w.heap.size := by
  obtain ⟨A, c, hb, _⟩ := h.ex
  exact blk_lt hb
theorem Rd.below {w w' : World} {B p L : Nat} {xs : List Int} {e : Int} (h : Rd w B p L xs e) (hb : Below w.heap.size w w') : Rd w' B p L xs e := by
  obtain ⟨A, c, h1, h2, h3⟩ := h.ex
  exact ⟨h.le, ⟨A, c, blk_below h1 hb, h2, Kd.F_below h3 hb⟩, h.by_, h.mx⟩
theorem Kept.imp' {w w1 : World} {S S' : Nat → Prop} (h : Kept w w1 S) (hs : ∀ k, S k → S' k) : Kept w w1 S' := ⟨h.1, fun i hi hn => h.2 i hi (fun hk => hn (hs i hk))⟩
theorem Kept.below0 {w w1 : World} {S : Nat → Prop} (hb : Below w.heap.size w w1) : Kept w w1 S := ⟨hb.size, fun i hi _ => hb.block i hi⟩
set_option maxHeartbeats 1000000 in
theorem NewReader_any (A : Option Addr) (c : Nat) (l : List Int) (w : World) (hr : Kd.C (Kd.int .u8) w A l.length l) (hc : l.length ≤ c) (hb : bytesB l = true) (hl : l.length ≤ 140737488355000) :
    Calls Try.prog 44 #[.slice A l.length c] w fun e w' => ∃ p, e = .returned (.pointer (some ⟨p, 0, none⟩)) ∧ Rd w' w.heap.size p w'.heap.size l 0 ∧ Below w.heap.size w w' := by
  have HR := Aside0.mk hr
  have HB := Aside0.mk hb
  clear hr hb
  go_enter Try.func44, Try.ntmps44
  go_wp2_with fail
  (with_reducible refine (slices_Clone.calls A c l l w HR.out hc (by unfold slices_Clone.f; rw [if_pos (by omega)])).mono ?_)
  rintro e w1 ⟨v0, rfl, hro, hb1⟩
  obtain ⟨A1, c1, e1, hc1, hr1⟩ := Kd.R_reads hro
  subst e1
  have HRO := Aside0.mk hro
  have HB1 := Aside0.mk hb1
  clear hro hr1 hb1
  go_wp2
  go_ret
  exact ⟨_, rfl, ⟨HB1.out.size, ⟨A1, c1, blk_new _ _, hc1, Kd.F_alloc (Kd.F_mono (Kd.F_bound (Kd.R_F HRO.out)) (fun k hk => by have := hk.2; rw [World.size_alloc]; omega)) _⟩, HB.out, by omega⟩, below_alloc HB1.out _⟩
theorem Rd.stored {w : World} {B p L : Nat} {xs ys : List Int} {e e' : Int} {A A' : Option Addr} {c c' : Nat} {u : Value} {j : Nat} (hbk : w.heap[p]? = some (.cells #[.slice A xs.length c, .int .i64 e] 127 (0, 0))) (hle : B ≤ p) (hb : bytesB ys = true) (hm : ys.length ≤ 140737488355328)
    (hc : ys.length ≤ c') (hF : Kd.F (Kd.int .u8) w (fun k => k ≠ p ∧ k < L) A' ys.length ys) (hj : (#[.slice A xs.length c, .int .i64 e] : Array Value).setIfInBounds j u = #[.slice A' ys.length c', .int .i64 e']) : Rd (w.setCell ⟨p, j, none⟩ u) B p L ys e' :=
  ⟨hle, ⟨A', c', blk_put hbk j u hj, hc, Kd.F_far hF (fun k hk => hk.1) u⟩, hb, hm⟩
def failM (e n : Int) : Int := if e = 0 then n else e
theorem failM_0 (n : Int) : failM 0 n = n := rfl
theorem failM_e {e : Int} (n : Int) (h : ¬ e = 0) : failM e n = e := if_neg h
set_option maxHeartbeats 1000000 in
theorem fail_any (B p L : Nat) (xs : List Int) (e n : Int) (w : World) (hr : Rd w B p L xs e) :
    Calls Try.prog 83 #[.pointer (some ⟨p, 0, none⟩), .int .i64 n] w fun e' w' => e' = .returned (.tuple #[]) ∧ Rd w' B p L xs (failM e n) ∧ Kept w w' (fun k => k = p) ∧ Below B w w' := by
  have HR := Aside0.mk hr
  obtain ⟨A, c, hbk, hc, hF⟩ := hr.ex
  have HBK := Aside0.mk hbk
  have HF := Aside0.mk hF
  have hcl := blk_cell hbk 1
  have hfz := blk_frozen hbk 1
  clear hr hbk hF
  by_cases he : e = 0
  · subst he
    go_enter Try.func83, Try.ntmps83
    go_wp2
    go_end0
    exact ⟨rfl, by rw [failM_0]; exact Rd.stored HBK.out HR.out.le HR.out.by_ HR.out.mx hc HF.out rfl, Kept.put' (S := fun k => k = p) (Kept.refl' _ _) rfl _ _, below_out (Below.refl _ _) HR.out.le _ _⟩
  · have hd : ((e : Int) == 0) = false := by simp [he]
    have HE := Aside0.mk he
    clear he
    go_enter Try.func83, Try.ntmps83
    go_wp2
    go_end0
    exact ⟨rfl, by rw [failM_e n HE.out]; exact HR.out, Kept.refl' _ _, Below.refl _ _⟩
/-- The next n bytes, what is left then, and the first error. -/
def takeM (xs : List Int) (e : Int) (n : Nat) : List Int × List Int × Int := if e ≠ 0 then ([], xs, e) else if xs.length < n then ([], xs, 10) else (xs.take n, xs.drop n, 0)
theorem Err_any (B p L : Nat) (xs : List Int) (e : Int) (w : World) (hr : Rd w B p L xs e) :
    Calls Try.prog 49 #[.pointer (some ⟨p, 0, none⟩)] w fun e' w' => e' = .returned (.int .i64 e) ∧ w' = w := by
  obtain ⟨A, c, hbk, hc, hF⟩ := hr.ex
  have hcl := blk_cell hbk 1
  clear hr hbk hF
  go_enter Try.func49, Try.ntmps49
  go_wp2
  go_ret
  exact ⟨rfl, rfl⟩
theorem Left_any (B p L : Nat) (xs : List Int) (e : Int) (w : World) (hr : Rd w B p L xs e) :
    Calls Try.prog 45 #[.pointer (some ⟨p, 0, none⟩)] w fun e' w' => e' = .returned (.int .i64 (xs.length : Int)) ∧ w' = w := by
  obtain ⟨A, c, hbk, hc, hF⟩ := hr.ex
  have hcl := blk_cell hbk 0
  clear hr hbk hF
  go_enter Try.func45, Try.ntmps45
  go_wp2
  go_ret
  exact ⟨rfl, rfl⟩
/-- The first error, or that bytes are left. -/
def endM (xs : List Int) (e : Int) : Int := if e ≠ 0 then e else if 0 < xs.length then 12 else 0
set_option maxHeartbeats 1000000 in
theorem End_any (B p L : Nat) (xs : List Int) (e : Int) (w : World) (hr : Rd w B p L xs e) :
    Calls Try.prog 78 #[.pointer (some ⟨p, 0, none⟩)] w fun e' w' => e' = .returned (.int .i64 (endM xs e)) ∧ w' = w := by
  obtain ⟨A, c, hbk, hc, hF⟩ := hr.ex
  have hcl := blk_cell hbk 0
  have HR := Aside0.mk hr
  clear hr hbk hF
  by_cases he : e = 0
  · subst he
    by_cases hx : 0 < xs.length
    · have hd : decide (0 < xs.length) = true := decide_eq_true hx
      have HX := Aside0.mk hx
      clear hx
      go_enter Try.func78, Try.ntmps78
      go_wp2_with ((go_at_call 49; (with_reducible refine (Err_any B p L xs 0 w HR.out).mono ?_); rintro e1 w1 ⟨rfl, rfl⟩))
      go_ret
      exact ⟨by rw [show endM xs 0 = 12 from by unfold endM; rw [if_neg (by simp), if_pos HX.out]]; rfl, rfl⟩
    · have hd : decide (0 < xs.length) = false := decide_eq_false hx
      have HX := Aside0.mk hx
      clear hx
      go_enter Try.func78, Try.ntmps78
      go_wp2_with ((go_at_call 49; (with_reducible refine (Err_any B p L xs 0 w HR.out).mono ?_); rintro e1 w1 ⟨rfl, rfl⟩))
      go_ret
      exact ⟨by rw [show endM xs 0 = 0 from by unfold endM; rw [if_neg (by simp), if_neg HX.out]]; rfl, rfl⟩
  · have hd : ((e : Int) != 0) = true := by simp [he]
    have HE := Aside0.mk he
    clear he
    go_enter Try.func78, Try.ntmps78
    go_wp2_with ((go_at_call 49; (with_reducible refine (Err_any B p L xs e w HR.out).mono ?_); rintro e1 w1 ⟨rfl, rfl⟩))
    go_ret
    exact ⟨by rw [show endM xs e = e from by unfold endM; rw [if_pos HE.out]]; rfl, rfl⟩
set_option maxHeartbeats 2000000 in
set_option maxRecDepth 100000 in
theorem take_any (B p L : Nat) (xs : List Int) (e : Int) (n : Nat) (m : Int) (hq : m = (n : Int)) (r ys : List Int) (e2 : Int) (w : World) (hr : Rd w B p L xs e) (hn : n ≤ 1000000) (hm : takeM xs e n = (r, ys, e2)) :
    Calls Try.prog 84 #[.pointer (some ⟨p, 0, none⟩), .int .i64 m] w fun e' w' => ∃ A c, e' = .returned (.slice A r.length c) ∧ r.length ≤ c ∧ Kd.F (Kd.int .u8) w' (fun k => k ≠ p ∧ k < L) A r.length r ∧ Rd w' B p L ys e2 ∧ Kept w w' (fun k => k = p) ∧ Below B w w' := by
  subst hq
  have HR := Aside0.mk hr
  obtain ⟨A, c, hbk, hc, hF⟩ := hr.ex
  have HBK := Aside0.mk hbk
  have HF := Aside0.mk hF
  have hc0 := blk_cell hbk 0
  have hc1 := blk_cell hbk 1
  have hmx := hr.mx
  clear hr hbk hF
  unfold takeM at hm
  by_cases he : e = 0
  · subst he
    rw [if_neg (by simp)] at hm
    by_cases hx : xs.length < n
    · rw [if_pos hx] at hm
      injection hm with h1 h2
      injection h2 with h2 h3
      subst h1 h2 h3
      have hd : decide ((xs.length : Int) < (n : Int)) = true := decide_eq_true (by omega)
      have hd2 : decide (xs.length < n) = true := decide_eq_true hx
      go_enter Try.func84, Try.ntmps84
      go_wp2_with fail
      (with_reducible refine (fail_any B p L xs 0 10 w HR.out).mono ?_)
      rintro e1 w1 ⟨rfl, hr1, hk1, hb1⟩
      rw [failM_0] at hr1
      have HR1 := Aside0.mk hr1
      obtain ⟨A1, c1, hbk1, _, _⟩ := hr1.ex
      have hc11 := blk_cell hbk1 1
      have HK1 := Aside0.mk hk1
      have HB1 := Aside0.mk hb1
      clear hr1 hk1 hb1 hbk1 hc0 hc1
      go_wp2
      go_ret
      exact ⟨none, 0, rfl, Nat.le_refl _, Kd.F_nil _ _ _, HR1.out, HK1.out, HB1.out⟩
    · rw [if_neg hx] at hm
      injection hm with h1 h2
      injection h2 with h2 h3
      subst h1 h2 h3
      have hd : decide ((xs.length : Int) < (n : Int)) = false := decide_eq_false (by omega)
      have hd2 : decide (xs.length < n) = false := decide_eq_false hx
      have hn0 : (0 : Int) ≤ (n : Int) := by omega
      have hn1 : (n : Int) ≤ (c : Int) := by omega
      have hn2 : (n : Int) ≤ (xs.length : Int) := by omega
      obtain ⟨A', hcut, hAr, hAc⟩ := print_drop_of (P := Try.prog) (Value.int .u8) (0 : Int) 22 5 .i64 Try.underlying22 infoI.choose_spec.1 infoI.choose_spec.2 A c xs (n : Int) hn0 hn2 hc
      have htl : (xs.take n).length = n := by rw [List.length_take]; omega
      have HTL := Aside0.mk htl
      have hfz := blk_frozen HBK.out 0
      have HAR := Aside0.mk hAr
      rw [Int.toNat_natCast] at hAc
      simp only [Int.toNat_natCast] at hcut
      clear htl hAr
      go_enter Try.func84, Try.ntmps84
      go_wp2
      go_ret
      refine ⟨A, n, by rw [HTL.out]; rfl, by rw [HTL.out]; exact Nat.le_refl _, ?_, Rd.stored (A' := A') (c' := c - n) (e' := 0) HBK.out HR.out.le (bytesB_drop _ _ HR.out.by_) (by simp; omega) hAc ?_ (by simp), Kept.put' (S := fun k => k = p) (Kept.refl' _ _) rfl _ _, below_out (Below.refl _ _) HR.out.le _ _⟩
      · refine Kd.F_far ?_ (fun k hk => hk.1) _
        rw [HTL.out]
        exact fun W hW => Kd.C_of_reads (d := (0 : Int)) (h1 := fun _ => rfl) ((Kd.reads_of_C (d := (0 : Int)) (HF.out W hW)).take_ n (by omega))
      · intro W hW
        have h := HAR.out W (Kd.reads_of_C (d := (0 : Int)) (HF.out W hW))
        rw [Int.toNat_natCast] at h
        exact Kd.C_of_reads (d := (0 : Int)) (h1 := fun _ => rfl) h
  · have hd3 : ((e : Int) != 0) = true := by simp [he]
    have HE := Aside0.mk he
    rw [if_pos he] at hm
    injection hm with h1 h2
    injection h2 with h2 h3
    subst h1 h2 h3
    clear he
    by_cases hx : xs.length < n
    · have hd : decide ((xs.length : Int) < (n : Int)) = true := decide_eq_true (by omega)
      have hd2 : decide (xs.length < n) = true := decide_eq_true hx
      go_enter Try.func84, Try.ntmps84
      go_wp2_with fail
      (with_reducible refine (fail_any B p L xs e 10 w HR.out).mono ?_)
      rintro e1 w1 ⟨rfl, hr1, hk1, hb1⟩
      rw [failM_e 10 HE.out] at hr1
      have HR1 := Aside0.mk hr1
      obtain ⟨A1, c1, hbk1, _, _⟩ := hr1.ex
      have hc11 := blk_cell hbk1 1
      have HK1 := Aside0.mk hk1
      have HB1 := Aside0.mk hb1
      clear hr1 hk1 hb1 hbk1 hc0 hc1
      go_wp2
      go_ret
      exact ⟨none, 0, rfl, Nat.le_refl _, Kd.F_nil _ _ _, HR1.out, HK1.out, HB1.out⟩
    · have hd : decide ((xs.length : Int) < (n : Int)) = false := decide_eq_false (by omega)
      have hd2 : decide (xs.length < n) = false := decide_eq_false hx
      go_enter Try.func84, Try.ntmps84
      go_wp2
      go_ret
      exact ⟨none, 0, rfl, Nat.le_refl _, Kd.F_nil _ _ _, HR.out, Kept.refl' _ _, Below.refl _ _⟩
/-- A number of n bytes that is read. -/
def rdM (xs : List Int) (e : Int) (n : Nat) : Int × List Int × Int := (numN 0 (takeM xs e n).1, (takeM xs e n).2.1, (takeM xs e n).2.2)
theorem numN_snoc (x : Int) (l : List Int) (c : Int) : numN x (l ++ [c]) = numN x l * 256 + c := by simp [numN]
theorem numN_range (l : List Int) (hb : bytesB l = true) : ∀ (x : Int) (n : Nat), 0 ≤ x → x < 256 ^ n → 0 ≤ numN x l ∧ numN x l < 256 ^ (n + l.length) := by
  induction l with
  | nil => intro x n h0 h1; exact ⟨h0, h1⟩
  | cons c l ih =>
    intro x n h0 h1
    have hc := (bytesB_iff (c :: l)).1 hb c (by simp)
    have hl : bytesB l = true := (bytesB_iff l).2 fun y hy => (bytesB_iff (c :: l)).1 hb y (by simp [hy])
    have h2 : x * 256 + c < 256 ^ (n + 1) := by rw [Int.pow_succ]; omega
    have h := ih hl (x * 256 + c) (n + 1) (by omega) h2
    refine ⟨h.1, ?_⟩
    rw [List.length_cons, show n + (l.length + 1) = n + 1 + l.length by omega]
    exact h.2
set_option maxHeartbeats 2000000 in
set_option maxRecDepth 100000 in
theorem get32_any (B p L : Nat) (xs : List Int) (e : Int) (w : World) (hr : Rd w B p L xs e) :
    Calls Try.prog 82 #[.pointer (some ⟨p, 0, none⟩), .int .i64 4] w fun e' w' => e' = .returned (.int .u32 (rdM xs e 4).1) ∧ Rd w' B p L (rdM xs e 4).2.1 (rdM xs e 4).2.2 ∧ Kept w w' (fun k => k = p) ∧ Below B w w' := by
  obtain ⟨⟨r, ys, e2⟩, hm⟩ : ∃ r, takeM xs e 4 = r := ⟨_, rfl⟩
  have hm2 : rdM xs e 4 = (numN 0 r, ys, e2) := by unfold rdM; rw [hm]
  have hrb : bytesB r = true := by
    unfold takeM at hm
    split at hm
    · injection hm with h1 _; subst h1; rfl
    · split at hm
      · injection hm with h1 _; subst h1; rfl
      · injection hm with h1 _; subst h1; exact bytesB_take _ _ hr.by_
  have hrl : r.length ≤ 4 := by
    unfold takeM at hm
    split at hm
    · injection hm with h1 _; subst h1; simp
    · split at hm
      · injection hm with h1 _; subst h1; simp
      · injection hm with h1 _; subst h1; simp; omega
  rw [hm2]
  have HR := Aside0.mk hr
  have HM := Aside0.mk hm
  have HRB := Aside0.mk hrb
  clear hr hm hm2 hrb
  go_enter Try.func82, Try.ntmps82
  go_wp2_with fail
  (with_reducible refine (take_any B p L xs e 4 4 rfl r ys e2 w HR.out (by omega) HM.out).mono ?_)
  rintro e1 w1 ⟨A, c, rfl, hc, hF, hr1, hk1, hb1⟩
  have HF := Aside0.mk hF
  have HR1 := Aside0.mk hr1
  have HK1 := Aside0.mk hk1
  have HB1 := Aside0.mk hb1
  clear hF hr1 hk1 hb1
  go_wp2
  go_loopg [16, 5] r.length (fun kq v16 v5 w' => ∃ k : Nat, k + kq = r.length ∧ v16 = .int .i64 k ∧ v5 = .int .u32 (numN 0 (r.take k)) ∧ w' = w1)
  case atStart => exact ⟨0, by omega, rfl, rfl, rfl⟩
  case round =>
    obtain ⟨k, hk, rfl, rfl, rfl⟩ := hrel
    by_cases hlt : k < r.length
    · have hd : decide ((k : Int) < (r.length : Int)) = true := decide_eq_true (by omega)
      obtain ⟨ad0, hA0, hcell0⟩ := Kd.at_int (Kd.F_now HF.out) (k : Int) (by omega) (by omega)
      subst hA0
      rw [Int.toNat_natCast] at hcell0
      have p0 : (0 : Int) ≤ (k : Int) := by omega
      have p1 : (k : Int) < (r.length : Int) := by omega
      have hcr := rd_range r HRB.out k hlt
      have hnr := numN_range (r.take k) (bytesB_take _ _ HRB.out) 0 0 (by omega) (by omega)
      have hsn : numN 0 (r.take (k + 1)) = numN 0 (r.take k) * 256 + rd r (k : Int) := by rw [List.take_succ_eq_append_getElem hlt, numN_snoc, rd_at r k hlt]
      have hlk : (r.take k).length = k := by rw [List.length_take]; omega
      rw [hlk, Nat.zero_add] at hnr
      have hbd : numN 0 (r.take k) < 16777216 := Int.lt_of_lt_of_le hnr.2 (p256s k (by omega))
      have hb0 := hnr.1
      obtain ⟨z, hz⟩ : ∃ z, numN 0 (r.take k) = z := ⟨_, rfl⟩
      obtain ⟨q, hq⟩ : ∃ q, rd r (k : Int) = q := ⟨_, rfl⟩
      rw [hz] at hbd hb0 hsn
      rw [hq] at hcr hcell0 hsn
      simp only [hz]
      have hor := u32_or8' z q hb0 (by omega) hcr.1 hcr.2
      have HSN := Aside0.mk hsn
      clear hsn hz hq hlk hnr
      have hq0 := hcr.1
      have hq1 := hcr.2
      go_wp2
      go_roundg (r.length - k - 1)
      case measure => omega
      case rel => exact ⟨k + 1, by omega, by go_num, by rw [HSN.out], rfl⟩
    · have hd : decide ((k : Int) < (r.length : Int)) = false := decide_eq_false (by omega)
      have hk' : k = r.length := by omega
      subst hk'
      go_wp2
      go_ret
      exact ⟨by rw [List.take_length]; rfl, HR1.out, HK1.out, HB1.out⟩
set_option maxHeartbeats 2000000 in
set_option maxRecDepth 100000 in
theorem get64_any (B p L : Nat) (xs : List Int) (e : Int) (w : World) (hr : Rd w B p L xs e) :
    Calls Try.prog 81 #[.pointer (some ⟨p, 0, none⟩), .int .i64 8] w fun e' w' => e' = .returned (.int .u64 (rdM xs e 8).1) ∧ Rd w' B p L (rdM xs e 8).2.1 (rdM xs e 8).2.2 ∧ Kept w w' (fun k => k = p) ∧ Below B w w' := by
  obtain ⟨⟨r, ys, e2⟩, hm⟩ : ∃ r, takeM xs e 8 = r := ⟨_, rfl⟩
  have hm2 : rdM xs e 8 = (numN 0 r, ys, e2) := by unfold rdM; rw [hm]
  have hrb : bytesB r = true := by
    unfold takeM at hm
    split at hm
    · injection hm with h1 _; subst h1; rfl
    · split at hm
      · injection hm with h1 _; subst h1; rfl
      · injection hm with h1 _; subst h1; exact bytesB_take _ _ hr.by_
  have hrl : r.length ≤ 8 := by
    unfold takeM at hm
    split at hm
    · injection hm with h1 _; subst h1; simp
    · split at hm
      · injection hm with h1 _; subst h1; simp
      · injection hm with h1 _; subst h1; simp; omega
  rw [hm2]
  have HR := Aside0.mk hr
  have HM := Aside0.mk hm
  have HRB := Aside0.mk hrb
  clear hr hm hm2 hrb
  go_enter Try.func81, Try.ntmps81
  go_wp2_with fail
  (with_reducible refine (take_any B p L xs e 8 8 rfl r ys e2 w HR.out (by omega) HM.out).mono ?_)
  rintro e1 w1 ⟨A, c, rfl, hc, hF, hr1, hk1, hb1⟩
  have HF := Aside0.mk hF
  have HR1 := Aside0.mk hr1
  have HK1 := Aside0.mk hk1
  have HB1 := Aside0.mk hb1
  clear hF hr1 hk1 hb1
  go_wp2
  go_loopg [16, 5] r.length (fun kq v16 v5 w' => ∃ k : Nat, k + kq = r.length ∧ v16 = .int .i64 k ∧ v5 = .int .u64 (numN 0 (r.take k)) ∧ w' = w1)
  case atStart => exact ⟨0, by omega, rfl, rfl, rfl⟩
  case round =>
    obtain ⟨k, hk, rfl, rfl, rfl⟩ := hrel
    by_cases hlt : k < r.length
    · have hd : decide ((k : Int) < (r.length : Int)) = true := decide_eq_true (by omega)
      obtain ⟨ad0, hA0, hcell0⟩ := Kd.at_int (Kd.F_now HF.out) (k : Int) (by omega) (by omega)
      subst hA0
      rw [Int.toNat_natCast] at hcell0
      have p0 : (0 : Int) ≤ (k : Int) := by omega
      have p1 : (k : Int) < (r.length : Int) := by omega
      have hcr := rd_range r HRB.out k hlt
      have hnr := numN_range (r.take k) (bytesB_take _ _ HRB.out) 0 0 (by omega) (by omega)
      have hsn : numN 0 (r.take (k + 1)) = numN 0 (r.take k) * 256 + rd r (k : Int) := by rw [List.take_succ_eq_append_getElem hlt, numN_snoc, rd_at r k hlt]
      have hlk : (r.take k).length = k := by rw [List.length_take]; omega
      rw [hlk, Nat.zero_add] at hnr
      have hbd : numN 0 (r.take k) < 72057594037927936 := Int.lt_of_lt_of_le hnr.2 (p256 k (by omega))
      have hb0 := hnr.1
      obtain ⟨z, hz⟩ : ∃ z, numN 0 (r.take k) = z := ⟨_, rfl⟩
      obtain ⟨q, hq⟩ : ∃ q, rd r (k : Int) = q := ⟨_, rfl⟩
      rw [hz] at hbd hb0 hsn
      rw [hq] at hcr hcell0 hsn
      simp only [hz]
      have hor := u64_or8' z q hb0 (by omega) hcr.1 hcr.2
      have HSN := Aside0.mk hsn
      clear hsn hz hq hlk hnr
      have hq0 := hcr.1
      have hq1 := hcr.2
      go_wp2
      go_roundg (r.length - k - 1)
      case measure => omega
      case rel => exact ⟨k + 1, by omega, by go_num, by rw [HSN.out], rfl⟩
    · have hd : decide ((k : Int) < (r.length : Int)) = false := decide_eq_false (by omega)
      have hk' : k = r.length := by omega
      subst hk'
      go_wp2
      go_ret
      exact ⟨by rw [List.take_length]; rfl, HR1.out, HK1.out, HB1.out⟩
theorem rdM_range (xs : List Int) (e : Int) (n : Nat) (hb : bytesB xs = true) : 0 ≤ (rdM xs e n).1 ∧ (rdM xs e n).1 < 256 ^ n := by
  have h0 : ∀ m : Nat, (0 : Int) < 256 ^ m := fun m => Int.pow_pos (by decide)
  unfold rdM takeM
  split
  · exact ⟨by simp [numN], by simp [numN]; exact h0 n⟩
  · split
    · exact ⟨by simp [numN], by simp [numN]; exact h0 n⟩
    · have h := numN_range (xs.take n) (bytesB_take _ _ hb) 0 0 (by omega) (by omega)
      rw [Nat.zero_add, List.length_take, Nat.min_eq_left (by omega)] at h
      exact h
theorem RU32_any (B p L : Nat) (xs : List Int) (e : Int) (w : World) (hr : Rd w B p L xs e) :
    Calls Try.prog 47 #[.pointer (some ⟨p, 0, none⟩)] w fun e' w' => e' = .returned (.int .u32 (rdM xs e 4).1) ∧ Rd w' B p L (rdM xs e 4).2.1 (rdM xs e 4).2.2 ∧ Kept w w' (fun k => k = p) ∧ Below B w w' := by
  go_enter Try.func47, Try.ntmps47
  go_wp2_with fail
  (with_reducible refine (get32_any B p L xs e w hr).mono ?_)
  rintro e1 w1 ⟨rfl, h1, h2, h3⟩
  have H1 := Aside0.mk h1
  have H2 := Aside0.mk h2
  have H3 := Aside0.mk h3
  clear h1 h2 h3 hr
  go_wp2
  go_ret
  exact ⟨rfl, H1.out, H2.out, H3.out⟩
theorem RU64_any (B p L : Nat) (xs : List Int) (e : Int) (w : World) (hr : Rd w B p L xs e) :
    Calls Try.prog 46 #[.pointer (some ⟨p, 0, none⟩)] w fun e' w' => e' = .returned (.int .u64 (rdM xs e 8).1) ∧ Rd w' B p L (rdM xs e 8).2.1 (rdM xs e 8).2.2 ∧ Kept w w' (fun k => k = p) ∧ Below B w w' := by
  go_enter Try.func46, Try.ntmps46
  go_wp2_with fail
  (with_reducible refine (get64_any B p L xs e w hr).mono ?_)
  rintro e1 w1 ⟨rfl, h1, h2, h3⟩
  have H1 := Aside0.mk h1
  have H2 := Aside0.mk h2
  have H3 := Aside0.mk h3
  clear h1 h2 h3 hr
  go_wp2
  go_ret
  exact ⟨rfl, H1.out, H2.out, H3.out⟩
/-- Is a byte no nought? -/
def nzB (l : List Int) : Bool := l.any (fun c => decide (c ≠ 0))
theorem isnz_any (c : Int) (w : World) : Calls Try.prog 87 #[.int .u8 c] w fun e' w' => e' = .returned (.bool (c != 0)) ∧ w' = w := by
  go_enter Try.func87, Try.ntmps87
  go_wp2
  go_ret
  exact ⟨rfl, rfl⟩
set_option maxHeartbeats 2000000 in
set_option maxRecDepth 100000 in
theorem IndexNz_any (A : Option Addr) (c : Nat) (l : List Int) (w : World) (hr : Kd.C (Kd.int .u8) w A l.length l) (hc : l.length ≤ c) :
    Calls Try.prog 94 #[.slice A l.length c, .func (.func 87) #[] #[]] w fun e' w' => ∃ z : Int, e' = .returned (.int .i64 z) ∧ (decide (0 ≤ z) = nzB l) ∧ w' = w := by
  have HR := Aside0.mk hr
  have hm := Kd.C_max hr
  clear hr
  go_enter Try.func94, Try.ntmps94
  go_wp2
  go_loopg [8] l.length (fun kq v8 w' => ∃ k : Nat, k + kq = l.length ∧ v8 = .int .i64 k ∧ Aside0 (nzB (l.take k) = false) ∧ w' = w)
  case atStart => exact ⟨0, by omega, rfl, ⟨rfl⟩, rfl⟩
  case round =>
    obtain ⟨k, hk, rfl, HN, rfl⟩ := hrel
    by_cases hlt : k < l.length
    · have hd : decide ((k : Int) < (l.length : Int)) = true := decide_eq_true (by omega)
      obtain ⟨ad0, hA0, hcell0⟩ := Kd.at_int HR.out (k : Int) (by omega) (by omega)
      subst hA0
      rw [Int.toNat_natCast] at hcell0
      have p0 : (0 : Int) ≤ (k : Int) := by omega
      have p1 : (k : Int) < (l.length : Int) := by omega
      obtain ⟨q, hq⟩ : ∃ q, rd l (k : Int) = q := ⟨_, rfl⟩
      rw [hq] at hcell0
      have hq2 : l[k] = q := by rw [← rd_at l k hlt]; exact hq
      have HNS := Aside0.mk (show nzB (l.take (k + 1)) = (nzB (l.take k) || decide (q ≠ 0)) by rw [List.take_succ_eq_append_getElem hlt, hq2]; simp [nzB])
      clear hq hq2
      by_cases hz : q = 0
      · have hz1 : ((q : Int) != 0) = false := by simp [hz]
        have HZ := Aside0.mk hz
        clear hz
        go_wp2_with (go_at_call 87; (with_reducible refine (isnz_any q _).mono ?_); rintro e w1 ⟨rfl, rfl⟩)
        go_roundg (l.length - k - 1)
        case measure => omega
        case rel => exact ⟨k + 1, by omega, by go_num, ⟨by rw [HNS.out, HN.out, HZ.out]; rfl⟩, rfl⟩
      · have hz1 : ((q : Int) != 0) = true := by simp [hz]
        have HZ := Aside0.mk hz
        clear hz
        go_wp2_with (go_at_call 87; (with_reducible refine (isnz_any q _).mono ?_); rintro e w1 ⟨rfl, rfl⟩)
        go_ret
        refine ⟨(k : Int), rfl, ?_, rfl⟩
        rw [decide_eq_true (by omega)]
        have h := HNS.out
        rw [HN.out, decide_eq_true HZ.out] at h
        have h2 : nzB l = (nzB (l.take (k + 1)) || nzB (l.drop (k + 1))) := by
          conv => lhs; rw [← List.take_append_drop (k + 1) l]
          simp only [nzB, List.any_append]
        rw [h2, h]
        rfl
    · have hd : decide ((k : Int) < (l.length : Int)) = false := decide_eq_false (by omega)
      have hk' : k = l.length := by omega
      subst hk'
      go_wp2
      go_ret
      exact ⟨-1, rfl, by have h := HN.out; rw [List.take_length] at h; rw [h]; rfl, rfl⟩
theorem ContainsNz_any (A : Option Addr) (c : Nat) (l : List Int) (w : World) (hr : Kd.C (Kd.int .u8) w A l.length l) (hc : l.length ≤ c) :
    Calls Try.prog 86 #[.slice A l.length c, .func (.func 87) #[] #[]] w fun e' w' => e' = .returned (.bool (nzB l)) ∧ w' = w := by
  go_enter Try.func86, Try.ntmps86
  go_wp2_with fail
  (with_reducible refine (IndexNz_any A c l w hr hc).mono ?_)
  rintro e w1 ⟨z, rfl, hz, rfl⟩
  cases hn : nzB l with
  | true =>
    rw [hn] at hz
    have HZ := Aside0.mk hz
    go_wp2
    go_ret
    exact ⟨by rw [hn]; rfl, rfl⟩
  | false =>
    rw [hn] at hz
    have HZ := Aside0.mk hz
    go_wp2
    go_ret
    exact ⟨by rw [hn]; rfl, rfl⟩
/-- What is read as bytes, so many at most: the bytes, what is left, and the first error. -/
def opM (xs : List Int) (e : Int) (most : Int) : List Int × List Int × Int :=
  match rdM xs e 4 with
  | (n, ys, e1) =>
    if e1 ≠ 0 then ([], ys, e1) else if most < n then ([], ys, 13) else
      match takeM ys 0 (n.toNat + (4 - n.toNat % 4) % 4) with
      | (b, zs, e2) => if e2 ≠ 0 then ([], zs, e2) else if nzB (b.drop n.toNat) = true then ([], zs, 11) else (b.take n.toNat, zs, 0)
theorem takeM_bytes (xs : List Int) (e : Int) (n : Nat) (hb : bytesB xs = true) : bytesB (takeM xs e n).1 = true ∧ (takeM xs e n).1.length ≤ n := by
  unfold takeM
  split
  · exact ⟨rfl, by simp⟩
  · split
    · exact ⟨rfl, by simp⟩
    · exact ⟨bytesB_take _ _ hb, by simp; omega⟩
theorem takeM_len (xs : List Int) (n : Nat) (h : (takeM xs 0 n).2.2 = 0) : (takeM xs 0 n).1.length = n := by
  unfold takeM at h ⊢
  rw [if_neg (by simp)] at h ⊢
  by_cases hx : xs.length < n
  · rw [if_pos hx] at h; simp at h
  · rw [if_neg hx]; simp; omega
set_option maxHeartbeats 4000000 in
set_option maxRecDepth 100000 in
theorem ROpaque_any (B p L : Nat) (xs : List Int) (e most : Int) (r ys : List Int) (e2 : Int) (w : World) (hr : Rd w B p L xs e) (h0 : 0 ≤ most) (h1 : most ≤ 100000) (hm : opM xs e most = (r, ys, e2)) :
    Calls Try.prog 48 #[.pointer (some ⟨p, 0, none⟩), .int .i64 most] w fun e' w' => ∃ v, e' = .returned v ∧ Kd.R (Kd.int .u8) 5 w' B (fun k => k ≠ p) v r ∧ Rd w' B p L ys e2 ∧ Kept w w' (fun k => k = p) ∧ Below B w w' := by
  obtain ⟨⟨n, ys1, e1⟩, hm1⟩ : ∃ r, rdM xs e 4 = r := ⟨_, rfl⟩
  have hn := rdM_range xs e 4 hr.by_
  have hc1 := RU32_any B p L xs e w hr
  rw [hm1] at hc1 hn
  have HC1 := Aside0.mk hc1
  have hn0 := hn.1
  have hn1 : n < 4294967296 := hn.2
  unfold opM at hm
  rw [hm1] at hm
  dsimp only at hm
  have HLT := Aside0.mk hr.lt
  clear hr hm1 hc1 hn
  by_cases hc : e1 = 0
  · subst hc
    rw [if_neg (by simp)] at hm
    by_cases hmn : most < n
    · rw [if_pos hmn] at hm
      injection hm with g1 g2
      injection g2 with g2 g3
      subst g1 g2 g3
      have hd : decide (most < n) = true := decide_eq_true hmn
      have hd0 : decide (most < 0) = false := decide_eq_false (by omega)
      go_enter Try.func48, Try.ntmps48
      go_wp2_with fail
      (with_reducible refine HC1.out.mono ?_)
      rintro e' w1 ⟨rfl, k1, k2, k3⟩
      have HR1 := Aside0.mk k1
      have HK1 := Aside0.mk k2
      have HB1 := Aside0.mk k3
      clear k1 k2 k3
      go_wp2_with fail
      (with_reducible refine (Err_any B p L ys1 0 w1 HR1.out).mono ?_)
      rintro e' w2 ⟨rfl, rfl⟩
      go_wp2_with fail
      (with_reducible refine (fail_any B p L ys1 0 13 w2 HR1.out).mono ?_)
      rintro e' w9 ⟨rfl, k1, k2, k3⟩
      have HR9 := Aside0.mk k1
      have HK9 := Aside0.mk (Kept.trans' HK1.out k2)
      have HB9 := Aside0.mk (Below.trans HB1.out k3)
      clear k1 k2 k3
      go_wp2
      go_ret
      exact ⟨_, rfl, Kd.R_nil _ _ _ _ _, HR9.out, HK9.out, HB9.out⟩
    · rw [if_neg hmn] at hm
      obtain ⟨⟨b, zs, e3⟩, hm2⟩ : ∃ r, takeM ys1 0 (n.toNat + (4 - n.toNat % 4) % 4) = r := ⟨_, rfl⟩
      rw [hm2] at hm
      dsimp only at hm
      have hd : decide (most < n) = false := decide_eq_false hmn
      have hd0 : decide (most < 0) = false := decide_eq_false (by omega)
      obtain ⟨m, rfl⟩ := Int.eq_ofNat_of_zero_le hn0
      rw [Int.toNat_natCast] at hm hm2
      have hm0 : m ≤ 100000 := by omega
      have hsum : (m : Int) + (((4 - m % 4) % 4 : Nat) : Int) = ((m + (4 - m % 4) % 4 : Nat) : Int) := by omega
      have HSUM := Aside0.mk hsum
      have HM2 := Aside0.mk hm2
      clear hm2 hmn hsum
      by_cases he3 : e3 = 0
      · subst he3
        rw [if_neg (by simp)] at hm
        have hbl := takeM_len ys1 (m + (4 - m % 4) % 4) (by rw [HM2.out])
        rw [HM2.out] at hbl
        dsimp only at hbl
        have hmb : m ≤ b.length := by omega
        have hmi : (m : Int) ≤ (b.length : Int) := by omega
        have HBL := Aside0.mk hbl
        clear hbl
        by_cases hz : nzB (b.drop m) = true
        · rw [if_pos hz] at hm
          injection hm with g1 g2
          injection g2 with g2 g3
          subst g1 g2 g3
          have HNZ := Aside0.mk hz
          clear hz
          go_enter Try.func48, Try.ntmps48
          go_wp2_with fail
          (with_reducible refine HC1.out.mono ?_)
          rintro e' w1 ⟨rfl, k1, k2, k3⟩
          have HR1 := Aside0.mk k1
          have HK1 := Aside0.mk k2
          have HB1 := Aside0.mk k3
          clear k1 k2 k3
          go_wp2_with fail
          (with_reducible refine (Err_any B p L ys1 0 w1 HR1.out).mono ?_)
          rintro e' w2 ⟨rfl, rfl⟩
          go_wp2_with (go_at_call 85; (with_reducible refine (fill_any m _ (by omega)).mono ?_); rintro e' w3 ⟨rfl, rfl⟩)
          (with_reducible refine (take_any B p L ys1 0 (m + (4 - m % 4) % 4) _ (by omega) b zs 0 w3 HR1.out (by omega) HM2.out).mono ?_)
          rintro e' w4 ⟨A4, c4, rfl, hc4, k0, k1, k2, k3⟩
          obtain ⟨A5, c5, hbk, _, _⟩ := k1.ex
          have hcl := blk_cell hbk 1
          have HF4 := Aside0.mk k0
          have HR4 := Aside0.mk k1
          have HK4 := Aside0.mk (Kept.trans' HK1.out k2)
          have HB4 := Aside0.mk (Below.trans HB1.out k3)
          clear k0 k1 k2 k3 hbk
          obtain ⟨A6, hcut, hAr, hAc⟩ := print_drop_of (P := Try.prog) (Value.int .u8) (0 : Int) 22 5 .i64 Try.underlying22 infoI.choose_spec.1 infoI.choose_spec.2 A4 c4 b (m : Int) hn0 hmi hc4
          have HD := Aside0.mk (Kd.C_of_reads (d := (0 : Int)) (h1 := fun _ => rfl) (hAr w4 (Kd.reads_of_C (d := (0 : Int)) (Kd.F_now HF4.out))))
          rw [Int.toNat_natCast] at hAc HD
          simp only [Int.toNat_natCast] at hcut
          have hmc : (m : Int) ≤ (c4 : Int) := by omega
          clear hAr
          go_wp2_with fail
          have hdl : b.length - m = (b.drop m).length := by rw [List.length_drop]
          have hcon := ContainsNz_any A6 (c4 - m) (b.drop m) w4 HD.out hAc
          rw [← hdl] at hcon
          (with_reducible refine hcon.mono ?_)
          rintro e' w5 ⟨rfl, rfl⟩
          rw [HNZ.out]
          clear hcon hdl hcut hcl
          go_wp2_with fail
          (with_reducible refine (fail_any B p L zs 0 11 _ HR4.out).mono ?_)
          rintro e' w9 ⟨rfl, k1, k2, k3⟩
          have HR9 := Aside0.mk k1
          have HK9 := Aside0.mk (Kept.trans' HK4.out k2)
          have HB9 := Aside0.mk (Below.trans HB4.out k3)
          clear k1 k2 k3
          go_wp2
          go_ret
          exact ⟨_, rfl, Kd.R_nil _ _ _ _ _, HR9.out, HK9.out, HB9.out⟩
        · rw [if_neg hz] at hm
          injection hm with g1 g2
          injection g2 with g2 g3
          subst g1 g2 g3
          have HNZ := Aside0.mk (Bool.eq_false_iff.2 hz)
          clear hz
          go_enter Try.func48, Try.ntmps48
          go_wp2_with fail
          (with_reducible refine HC1.out.mono ?_)
          rintro e' w1 ⟨rfl, k1, k2, k3⟩
          have HR1 := Aside0.mk k1
          have HK1 := Aside0.mk k2
          have HB1 := Aside0.mk k3
          clear k1 k2 k3
          go_wp2_with fail
          (with_reducible refine (Err_any B p L ys1 0 w1 HR1.out).mono ?_)
          rintro e' w2 ⟨rfl, rfl⟩
          go_wp2_with (go_at_call 85; (with_reducible refine (fill_any m _ (by omega)).mono ?_); rintro e' w3 ⟨rfl, rfl⟩)
          (with_reducible refine (take_any B p L ys1 0 (m + (4 - m % 4) % 4) _ (by omega) b zs 0 w3 HR1.out (by omega) HM2.out).mono ?_)
          rintro e' w4 ⟨A4, c4, rfl, hc4, k0, k1, k2, k3⟩
          obtain ⟨A5, c5, hbk, _, _⟩ := k1.ex
          have hcl := blk_cell hbk 1
          have HF4 := Aside0.mk k0
          have HR4 := Aside0.mk k1
          have HK4 := Aside0.mk (Kept.trans' HK1.out k2)
          have HB4 := Aside0.mk (Below.trans HB1.out k3)
          clear k0 k1 k2 k3 hbk
          obtain ⟨A6, hcut, hAr, hAc⟩ := print_drop_of (P := Try.prog) (Value.int .u8) (0 : Int) 22 5 .i64 Try.underlying22 infoI.choose_spec.1 infoI.choose_spec.2 A4 c4 b (m : Int) hn0 hmi hc4
          have HD := Aside0.mk (Kd.C_of_reads (d := (0 : Int)) (h1 := fun _ => rfl) (hAr w4 (Kd.reads_of_C (d := (0 : Int)) (Kd.F_now HF4.out))))
          rw [Int.toNat_natCast] at hAc HD
          simp only [Int.toNat_natCast] at hcut
          have hmc : (m : Int) ≤ (c4 : Int) := by omega
          clear hAr
          go_wp2_with fail
          have hdl : b.length - m = (b.drop m).length := by rw [List.length_drop]
          have hcon := ContainsNz_any A6 (c4 - m) (b.drop m) w4 HD.out hAc
          rw [← hdl] at hcon
          (with_reducible refine hcon.mono ?_)
          rintro e' w5 ⟨rfl, rfl⟩
          rw [HNZ.out]
          clear hcon hdl hcut hcl
          go_wp2_with fail
          have htl : (b.take m).length = m := by rw [List.length_take]; omega
          have hC5 : Kd.C (Kd.int .u8) w5 A4 (b.take m).length (b.take m) := by rw [htl]; exact Kd.C_of_reads (d := (0 : Int)) (h1 := fun _ => rfl) ((Kd.reads_of_C (d := (0 : Int)) (Kd.F_now HF4.out)).take_ m (by omega))
          have hcl2 := slices_Clone.calls A4 c4 (b.take m) (b.take m) w5 hC5 (by omega) (by unfold slices_Clone.f; rw [if_pos (by omega)])
          rw [htl] at hcl2
          (with_reducible refine hcl2.mono ?_)
          rintro e' w9 ⟨v9, rfl, k1, k2⟩
          have hlt := HR4.out.lt
          have hle := HR4.out.le
          have HO9 := Aside0.mk (Kd.R_mono (Kd.R_lower (Kd.R_bound k1) (show B ≤ w5.heap.size by omega)) (ok' := fun k => k ≠ p) (fun k hk => by have := hk.2.1; omega))
          have HR9 := Aside0.mk (Rd.below HR4.out k2)
          have HK9 := Aside0.mk (Kept.below' HK4.out k2)
          have HB9 := Aside0.mk (below_then HB4.out (show B ≤ w5.heap.size by omega) k2)
          clear k1 k2 hcl2 htl hC5
          go_wp2
          go_ret
          exact ⟨_, rfl, HO9.out, HR9.out, HK9.out, HB9.out⟩
      · rw [if_pos he3] at hm
        injection hm with g1 g2
        injection g2 with g2 g3
        subst g1 g2 g3
        have hd3 : ((e3 : Int) != 0) = true := by simp [he3]
        have HE := Aside0.mk he3
        clear he3
        go_enter Try.func48, Try.ntmps48
        go_wp2_with fail
        (with_reducible refine HC1.out.mono ?_)
        rintro e' w1 ⟨rfl, k1, k2, k3⟩
        have HR1 := Aside0.mk k1
        have HK1 := Aside0.mk k2
        have HB1 := Aside0.mk k3
        clear k1 k2 k3
        go_wp2_with fail
        (with_reducible refine (Err_any B p L ys1 0 w1 HR1.out).mono ?_)
        rintro e' w2 ⟨rfl, rfl⟩
        go_wp2_with (go_at_call 85; (with_reducible refine (fill_any m _ (by omega)).mono ?_); rintro e' w3 ⟨rfl, rfl⟩)
        (with_reducible refine (take_any B p L ys1 0 (m + (4 - m % 4) % 4) _ (by omega) b zs e3 w3 HR1.out (by omega) HM2.out).mono ?_)
        rintro e' w4 ⟨A4, c4, rfl, hc4, k0, k1, k2, k3⟩
        obtain ⟨A5, c5, hbk, _, _⟩ := k1.ex
        have hcl := blk_cell hbk 1
        have HF4 := Aside0.mk k0
        have HR4 := Aside0.mk k1
        have HK4 := Aside0.mk (Kept.trans' HK1.out k2)
        have HB4 := Aside0.mk (Below.trans HB1.out k3)
        clear k0 k1 k2 k3 hbk
        go_wp2
        go_ret
        exact ⟨_, rfl, Kd.R_nil _ _ _ _ _, HR4.out, HK4.out, HB4.out⟩
  · have hd : ((e1 : Int) != 0) = true := by simp [hc]
    rw [if_pos hc] at hm
    injection hm with g1 g2
    injection g2 with g2 g3
    subst g1 g2 g3
    have HE := Aside0.mk hc
    clear hc
    go_enter Try.func48, Try.ntmps48
    go_wp2_with fail
    (with_reducible refine HC1.out.mono ?_)
    rintro e' w1 ⟨rfl, k1, k2, k3⟩
    have HR1 := Aside0.mk k1
    have HK1 := Aside0.mk k2
    have HB1 := Aside0.mk k3
    clear k1 k2 k3
    go_wp2_with fail
    (with_reducible refine (Err_any B p L ys1 e1 w1 HR1.out).mono ?_)
    rintro e' w2 ⟨rfl, rfl⟩
    go_wp2
    go_ret
    exact ⟨_, rfl, Kd.R_nil _ _ _ _ _, HR1.out, HK1.out, HB1.out⟩
theorem Rd.step {w w' : World} {B p L : Nat} {xs : List Int} {e : Int} (h : Rd w B p L xs e) (hp : w'.heap[p]? = w.heap[p]?) (hm : ∀ k, k < L → k ≠ p → k < w.heap.size → w'.heap[k]? = w.heap[k]?) : Rd w' B p L xs e := by
  obtain ⟨A, c, h1, h2, h3⟩ := h.ex
  exact ⟨h.le, ⟨A, c, hp.trans h1, h2, Kd.F_step h3 (fun k hk hlt => hm k hk.2 hk.1 hlt)⟩, h.by_, h.mx⟩
/-- A store into a block that was made since. -/
theorem Rd.put {w : World} {B p L g : Nat} {xs : List Int} {e : Int} (h : Rd w B p L xs e) (hg : L ≤ g) (hne : p ≠ g) (j : Nat) (u : Value) : Rd (w.setCell ⟨g, j, none⟩ u) B p L xs e :=
  h.step (Below.heap_setCell w ⟨g, j, none⟩ u p hne) (fun k hk _ _ => Below.heap_setCell w ⟨g, j, none⟩ u k (by show k ≠ g; omega))
/-- A row made since has grown. -/
theorem Rd.grown {w w' : World} {B p L : Nat} {xs : List Int} {e : Int} {row : Option Nat} (h : Rd w B p L xs e) (hg : w.grownBy w' row) (hrow : ∀ k, row = some k → L ≤ k ∧ k ≠ p) : Rd w' B p L xs e :=
  h.step (hg.block p h.lt (fun e' => (hrow p e'.symm).2 rfl)) (fun k hk _ hlt => hg.block k hlt (fun e' => by have := (hrow k e'.symm).1; omega))
end Go.Proofs.Ytlpjchighfdomaa.Hm
