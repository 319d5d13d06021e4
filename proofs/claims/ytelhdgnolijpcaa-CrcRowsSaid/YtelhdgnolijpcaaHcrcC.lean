/- The Go functions slices.Clone (of bytes), crc.Of, crc.Sealed and crc.Right return what plain Lean functions of lists compute; conditions: the numbers are bytes, the lengths fit. -/
import Derived.Test.YtelhdgnolijpcaaHcrcB
namespace Go.Proofs.Ytelhdgnolijpcaa.Hm
open Go.RowKit Go.Proofs.YtelhdgnolijpcaaW.PrintWords Go.Proofs.YtelhdgnolijpcaaW.PrintLast Go.Proofs.YtelhdgnolijpcaaW.PrintMore
set_option linter.unusedVariables false
set_option linter.unusedSimpArgs false

/-- slices.Clone of bytes. -/
def slices_Clone.f (l : List Int) : Option (List Int) := if l.length ≤ 140737488355327 then some l else none
set_option maxHeartbeats 1000000 in
theorem slices_Clone.calls (A0 : Option Addr) (c0 : Nat) (l0 : List Int) (r : List Int) (w : World) (hr0 : Kd.C (Kd.int .u8) w A0 l0.length l0) (hc0 : l0.length ≤ c0) (h : slices_Clone.f l0 = some r) :
    Calls Try.prog 29 #[.slice A0 l0.length c0] w fun e w' => ∃ v0_ : Value, e = .returned v0_ ∧ Kd.R (Kd.int .u8) 5 w' w.heap.size (fun _ => True) v0_ r ∧ Below w.heap.size w w' := by
  unfold slices_Clone.f at h
  by_cases hl : l0.length ≤ 140737488355327
  · rw [if_pos hl] at h
    obtain rfl := Option.some.inj h
    clear h
    have HR := Aside0.mk hr0
    clear hr0
    have hn := fun (w : World) => Lib.run_eql_slice_nil (P := Try.prog) w 23 5 A0 l0.length c0 0 0 Try.underlying23
    cases A0 with
    | none =>
      have e : l0.length = 0 := by
        rcases Nat.eq_zero_or_pos l0.length with h0 | h0
        · exact h0
        · obtain ⟨ad, h1, _⟩ := Kd.at_int HR.out 0 (by omega) (by omega)
          cases h1
      have e' : l0 = [] := List.eq_nil_of_length_eq_zero e
      subst e'
      clear hn
      have hn := fun (w : World) => Lib.run_eql_slice_nil (P := Try.prog) w 23 5 none 0 c0 0 0 Try.underlying23
      go_enter Try.func29, Try.ntmps29
      go_wp2
      go_ret
      exact ⟨_, rfl, Kd.R_nil _ _ _ _ _, Below.refl _ _⟩
    | some ad =>
      go_enter Try.func29, Try.ntmps29
      go_wp2_with (first | ((with_reducible refine gate_dst (N := 5) rfl ?_); refine Kd.R_lit (Kd.int .u8) (w0 := w) w.heap.size 5 ?hg (N := 5) ?hd (xs := []) (inner := []) (ok := fun _ => True) (okp := fun _ => True) ?hr (Reps.none _ _) (fun _ hk => hk) trivial (Below.refl _ _) (Nat.le_refl _) (by simp) ?_; (case hd => rfl); (case hg => rfl); (case hr => first | (go_simp; done) | (go_simp; rfl)); intro v5 w1 hro hb1 hg1 hat1; have HRO := Aside0.mk hro; have HB := Aside0.mk hb1; clear hro hb1 hg1 hat1) | (at_builtin; refine Kd.R_append_row (Value.int .u8) 0 (w0 := w) w.heap.size rfl (.tmp 5) (.tmp 6) 23 5 (.int .u8 0) 1 rfl Try.underlying23 infoB rfl (by decide) v5 [] l0 (some ad) l0.length c0 (fun _ => True) rfl rfl (fun _ _ => trivial) HRO.out (Kd.C_below HR.out HB.out) HB.out HB.out.size (by simp; omega) ?_; intro v7 w2 hro hb2 hg2 hat2; have HRO2 := Aside0.mk hro; have HB2 := Aside0.mk hb2; clear hro hb2 hg2 hat2))
      go_ret
      exact ⟨_, rfl, HRO2.out, HB2.out⟩
  · rw [if_neg hl] at h
    cases h

def bytesB (l : List Int) : Bool := l.all fun x => decide (0 ≤ x) && decide (x < 256)
theorem bytesB_iff (l : List Int) : bytesB l = true ↔ ∀ x ∈ l, 0 ≤ x ∧ x < 256 := by
  simp [bytesB]
def crcM (a : Int) (l : List Int) : Int := 4294967295 - crcRaw (4294967295 - a) l
theorem crcM_range (a : Int) (l : List Int) (h0 : 0 ≤ a) (h1 : a < 4294967296) (hl : ∀ x ∈ l, 0 ≤ x ∧ x < 256) : 0 ≤ crcM a l ∧ crcM a l < 4294967296 := by
  have h := crcRaw_range l (4294967295 - a) (by omega) (by omega) hl
  unfold crcM
  omega
/-- crc.More. -/
def crc_More.f (a : Int) (l : List Int) : Option Int := if 0 ≤ a ∧ a < 4294967296 ∧ bytesB l = true then some (crcM a l) else none
theorem crc_More.calls (a0 : Int) (A1 : Option Addr) (c1 : Nat) (l1 : List Int) (r : Int) (w : World) (hr1 : Kd.C (Kd.int .u8) w A1 l1.length l1) (hc1 : l1.length ≤ c1) (h : crc_More.f a0 l1 = some r) :
    Calls Try.prog 16 #[.int .u32 a0, .slice A1 l1.length c1] w fun e w' => e = .returned (.int .u32 r) ∧ Below w.heap.size w w' := by
  unfold crc_More.f at h
  split at h
  · rename_i hc
    obtain rfl := Option.some.inj h
    exact more_any a0 A1 c1 l1 w hr1 hc1 hc.1 hc.2.1 ((bytesB_iff l1).1 hc.2.2)
  · cases h
/-- crc.Of. -/
def crc_Of.f (l : List Int) : Option Int := if bytesB l = true then some (crcM 0 l) else none
set_option maxHeartbeats 400000 in
theorem crc_Of.calls (A0 : Option Addr) (c0 : Nat) (l0 : List Int) (r : Int) (w : World) (hr0 : Kd.C (Kd.int .u8) w A0 l0.length l0) (hc0 : l0.length ≤ c0) (h : crc_Of.f l0 = some r) :
    Calls Try.prog 14 #[.slice A0 l0.length c0] w fun e w' => e = .returned (.int .u32 r) ∧ Below w.heap.size w w' := by
  unfold crc_Of.f at h
  split at h
  · rename_i hb
    obtain rfl := Option.some.inj h
    have hm := Aside0.mk (crc_More.calls 0 A0 c0 l0 (crcM 0 l0) w hr0 hc0 (by unfold crc_More.f; rw [if_pos ⟨by omega, by omega, hb⟩]))
    clear hr0 h hb
    go_enter Try.func14, Try.ntmps14
    go_wp2_with (go_at_call 16; refine hm.out.mono ?_; rintro e w' ⟨rfl, hb⟩)
    go_ret
    exact ⟨rfl, hb⟩
  · cases h
def be32 (x : Int) : List Int := [x / 16777216 % 256, x / 65536 % 256, x / 256 % 256, x % 256]
/-- crc.Sealed. -/
def crc_Sealed.f (l : List Int) : Option (List Int) := if bytesB l = true ∧ l.length ≤ 140737488355000 then some (l ++ be32 (crcM 0 l)) else none
set_option maxHeartbeats 1000000 in
theorem crc_Sealed.calls (A0 : Option Addr) (c0 : Nat) (l0 : List Int) (r : List Int) (w : World) (hr0 : Kd.C (Kd.int .u8) w A0 l0.length l0) (hc0 : l0.length ≤ c0) (h : crc_Sealed.f l0 = some r) :
    Calls Try.prog 18 #[.slice A0 l0.length c0] w fun e w' => ∃ v0_ : Value, e = .returned v0_ ∧ Kd.R (Kd.int .u8) 5 w' w.heap.size (fun _ => True) v0_ r ∧ Below w.heap.size w w' := by
  unfold crc_Sealed.f at h
  split at h
  · rename_i hc
    obtain rfl := Option.some.inj h
    obtain ⟨hb, hl⟩ := hc
    have HR := Aside0.mk hr0
    have hx := crcM_range 0 l0 (by omega) (by omega) ((bytesB_iff l0).1 hb)
    obtain ⟨x, hX⟩ : ∃ x, crcM 0 l0 = x := ⟨_, rfl⟩
    rw [hX] at hx
    have HX := Aside0.mk hX
    have HB0 := Aside0.mk hb
    clear hr0 h hb hX
    obtain ⟨hx0, hx1⟩ := hx
    go_enter Try.func18, Try.ntmps18
    go_wp2_with fail
    refine (crc_Of.calls A0 c0 l0 x w HR.out hc0 (by unfold crc_Of.f; rw [if_pos HB0.out, HX.out])).mono ?_
    rintro e w1 ⟨rfl, hb1⟩
    have HB1 := Aside0.mk hb1
    clear hb1
    go_wp2_with fail
    refine (slices_Clone.calls A0 c0 l0 l0 w1 (Kd.C_below HR.out HB1.out) hc0 (by unfold slices_Clone.f; rw [if_pos (by omega)])).mono ?_
    rintro e w2 ⟨v7, rfl, hro, hb2⟩
    have HRO := Aside0.mk hro
    have HB2 := Aside0.mk (below_then HB1.out HB1.out.size hb2)
    clear hro hb2
    have HRO' := Aside0.mk (Kd.R_lower HRO.out HB1.out.size)
    clear HRO
    go_wp2_with (first | ((with_reducible refine gate_dst (N := 19) rfl ?_); refine Kd.R_lit (Kd.int .u8) (w0 := w) w.heap.size 5 ?hg (N := 19) ?hd (xs := [x / 16777216, x / 65536 % 256, x / 256 % 256, x % 256]) (inner := [.int .u8 (x / 16777216), .int .u8 (x / 65536 % 256), .int .u8 (x / 256 % 256), .int .u8 (x % 256)]) (ok := fun _ => True) (okp := fun _ => True) ?hr (Reps.one (show Kd.M (Kd.int .u8) _ _ _ _ [_] from rfl) (Reps.one (show Kd.M (Kd.int .u8) _ _ _ _ [_] from rfl) (Reps.one (show Kd.M (Kd.int .u8) _ _ _ _ [_] from rfl) (Reps.one (show Kd.M (Kd.int .u8) _ _ _ _ [_] from rfl) (Reps.none _ _))))) (fun _ hk => hk) trivial HB2.out HB2.out.size (by simp) ?_; (case hd => rfl); (case hg => rfl); (case hr => first | (go_simp; done) | (go_simp; rfl)); intro v19 w3 hrl hb3 hg3 hat3; have HRL := Aside0.mk hrl; have HB3 := Aside0.mk hb3; have HRO := Aside0.mk (Kd.R_grown HRO'.out hg3 (fun _ _ => by simp)); clear hrl hb3 hg3 hat3; obtain ⟨A19, c19, e19, _, hc19⟩ := Kd.R_reads HRL.out; subst e19; have HC19 := Aside0.mk hc19; clear hc19) | (at_builtin; refine Kd.R_append_row (Value.int .u8) 0 (w0 := w) w.heap.size rfl (.tmp 7) (.tmp 19) 23 5 (.int .u8 0) 1 rfl Try.underlying23 infoB rfl (by decide) v7 l0 [x / 16777216, x / 65536 % 256, x / 256 % 256, x % 256] A19 4 c19 (fun _ => True) rfl rfl (fun _ _ => trivial) HRO.out HC19.out HB3.out HB3.out.size (by omega) ?_; intro v20 w4 hro4 hb4 hg4 hat4; have HRO4 := Aside0.mk hro4; have HB4 := Aside0.mk hb4; clear hro4 hb4 hg4 hat4))
    go_ret
    refine ⟨_, rfl, ?_, HB4.out⟩
    rw [be32, HX.out, Int.emod_eq_of_lt (a := x / 16777216) (by omega) (by omega)]
    exact HRO4.out
  · cases h
end Go.Proofs.Ytelhdgnolijpcaa.Hm
