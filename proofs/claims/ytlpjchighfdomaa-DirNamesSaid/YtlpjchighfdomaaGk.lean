/- The Go package dir: entries' bytes; conditions: those that each theorem names. -/
import Derived.Test.YtlpjchighfdomaaGj
namespace Go.Proofs.Ytlpjchighfdomaa.Hm
open Go.RowKit Go.Proofs.YtlpjchighfdomaaW.PrintWords Go.Proofs.YtlpjchighfdomaaW.PrintLast Go.Proofs.YtlpjchighfdomaaW.PrintMore
set_option linter.unusedVariables false
set_option linter.unusedSimpArgs false

/-- Numbers in their kinds. -/
structure Ent.wf (e : Ent) : Prop where
  c0 : 0 ≤ e.c
  c1 : e.c < 18446744073709551616
  i0 : 0 ≤ e.i
  i1 : e.i < 4294967296
  g0 : 0 ≤ e.g
  g1 : e.g < 4294967296
def encE (e : Ent) : List Int := be64 e.c ++ be32 e.i ++ be32 e.g ++ opq (bytesOf e.s)
def putM (l : List Ent) : List Int × Int := if mayB l = true then (l.flatMap encE, 0) else ([], 11)
theorem name_len {s : List Int} (h : nameE s = 0) : s.length ≤ 24 := by
  unfold nameE nameB at h
  by_cases hl : s.length ≤ 24
  · exact hl
  · simp [hl] at h
theorem addM_name {l : List Ent} {e : Ent} (h : (addM l e).2 = 0) : nameE (bytesOf e.s) = 0 := by
  unfold addM at h
  split at h
  · exact h
  · rename_i h1
    exact Decidable.not_not.1 h1
theorem mayOk_len {l : List Ent} (h : mayOk l) (e : Ent) (he : e ∈ l) : (bytesOf e.s).length ≤ 24 := by
  obtain ⟨k, hk, rfl⟩ := List.mem_iff_getElem.1 he
  exact name_len (addM_name (h k _ (List.getElem?_eq_getElem hk)))
theorem encE_len (e : Ent) (h : (bytesOf e.s).length ≤ 24) : (encE e).length ≤ 48 := by
  simp only [encE, be64, be32, opq, List.length_append, List.length_cons, List.length_nil, List.length_replicate]
  omega
theorem flat_len (l : List Ent) (h : ∀ e ∈ l, (bytesOf e.s).length ≤ 24) : (l.flatMap encE).length ≤ 48 * l.length := by
  induction l with
  | nil => exact Nat.le_refl _
  | cons e r ih =>
    rw [List.flatMap_cons, List.length_append, List.length_cons]
    have h1 := encE_len e (h e List.mem_cons_self)
    have h2 := ih (fun x hx => h x (List.mem_cons_of_mem _ hx))
    omega
theorem Kept.size' {w w' : World} {S : Nat → Prop} (h : Kept w w' S) : w.heap.size ≤ w'.heap.size := h.1
theorem Kept.blk' {w w' : World} {S : Nat → Prop} (h : Kept w w' S) (i : Nat) (hi : i < w.heap.size) (hs : ¬ S i) : w'.heap[i]? = w.heap[i]? := h.2 i hi hs
set_option maxHeartbeats 4000000 in
set_option maxRecDepth 100000 in
theorem Put_any (A : Option Addr) (c : Nat) (l : List Ent) (w : World) (hr : kE.C w A l.length l) (hc : l.length ≤ c) (hl : l.length ≤ 1000000) (hw : ∀ e ∈ l, e.wf) :
    Calls Try.prog 21 #[.slice A l.length c] w fun e' w' => ∃ v, e' = .returned (.tuple #[v, .int .i64 (putM l).2]) ∧ Kd.R (Kd.int .u8) 5 w' w.heap.size (fun _ => True) v (putM l).1 ∧ Below w.heap.size w w' := by
  have HR := Aside0.mk hr
  have HW := Aside0.mk hw
  clear hr hw
  unfold putM
  cases hm : mayB l with
  | false =>
    rw [if_neg (by decide)]
    have HM := Aside0.mk hm
    clear hm
    go_enter Try.func21, Try.ntmps21
    go_wp2_with fail
    (with_reducible refine (may_any A c l w HR.out hc (by omega)).mono ?_)
    rintro e' w1 ⟨rfl, hb1⟩
    rw [HM.out]
    have HB1 := Aside0.mk hb1
    clear hb1
    go_wp2
    go_ret2
    exact ⟨_, rfl, Kd.R_nil _ _ _ _ _, HB1.out⟩
  | true =>
    rw [if_pos rfl]
    have HM := Aside0.mk hm
    have HOK := Aside0.mk ((mayB_iff l).1 hm)
    have HLN := Aside0.mk (mayOk_len ((mayB_iff l).1 hm))
    clear hm
    go_enter Try.func21, Try.ntmps21
    go_wp2_with fail
    (with_reducible refine (may_any A c l w HR.out hc (by omega)).mono ?_)
    rintro e' w1 ⟨rfl, hb1⟩
    rw [HM.out]
    have HB1 := Aside0.mk hb1
    clear hb1
    go_wp2_with fail
    (with_reducible refine (NewWriter_any w1).mono ?_)
    rintro e' w2 ⟨rfl, hw2, hb2⟩
    obtain ⟨P, hP⟩ : ∃ P, w1.heap.size = P := ⟨_, rfl⟩
    rw [hP] at hw2 hb2 ⊢
    have HW2 := Aside0.mk hw2
    have HP := Aside0.mk (by rw [← hP]; exact HB1.out.size : w.heap.size ≤ P)
    have HB2 := Aside0.mk (HB1.out.trans (hb2.mono HP.out))
    clear hw2 hb2 hP
    go_wp2
    go_loopg [13] l.length (fun kq v13 w' => ∃ k : Nat, k + kq = l.length ∧ v13 = .int .i64 k ∧ Aside0 (Wr w' P P (fun _ => True) ((l.take k).flatMap encE)) ∧ Aside0 (Below w.heap.size w w'))
    case atStart => exact ⟨0, by omega, rfl, HW2, HB2⟩
    case round =>
      obtain ⟨k, hk, rfl, HWr, HB⟩ := hrel
      by_cases hlt : k < l.length
      · have hd : decide ((k : Int) < (l.length : Int)) = true := decide_eq_true (by omega)
        obtain ⟨e, he⟩ : ∃ e, l[k]? = some e := ⟨_, List.getElem?_eq_getElem hlt⟩
        obtain ⟨ad, e1, c0, c1, c2, c3⟩ := kE_at (Kd.C_below HR.out HB.out) k e he
        subst e1
        have p0 : (0 : Int) ≤ (k : Int) := by omega
        have p1 : (k : Int) < (l.length : Int) := by omega
        have HE := Aside0.mk he
        have HME := Aside0.mk (List.mem_of_getElem? he)
        have HBX := Aside0.mk (blk_new wr (.cells #[.int .u64 e.c, .int .u32 e.i, .int .u32 e.g, .string e.s] 41))
        have HBa := Aside0.mk (below_alloc HB.out (.cells #[.int .u64 e.c, .int .u32 e.i, .int .u32 e.g, .string e.s] 41))
        have HA := Aside0.mk (Wr.apart HWr.out (below_alloc (Below.refl _ _) (.cells #[.int .u64 e.c, .int .u32 e.i, .int .u32 e.g, .string e.s] 41)))
        have hx0 := blk_cell HBX.out 0
        have HT := Aside0.mk (flat_len (l.take k) (fun x hx => HLN.out x (List.mem_of_mem_take hx)))
        have HTL := Aside0.mk (List.length_take_le' k l)
        have HTK := Aside0.mk (List.length_take_le k l)
        clear he
        have HPlt := Aside0.mk HWr.out.lt
        have HF := Aside0.mk (by have h1 := HT.out; have h2 := HTL.out; omega : ((l.take k).flatMap encE).length ≤ 48000000)
        have HNS : Aside0 (¬ ((wr.heap.size < wr.heap.size ∨ (wr.alloc (.cells #[.int .u64 e.c, .int .u32 e.i, .int .u32 e.g, .string e.s] 41)).heap.size ≤ wr.heap.size) ∨ wr.heap.size = P)) := ⟨by have := HPlt.out; rw [World.size_alloc]; omega⟩
        have HLT : Aside0 (wr.heap.size < (wr.alloc (.cells #[.int .u64 e.c, .int .u32 e.i, .int .u32 e.g, .string e.s] 41)).heap.size) := ⟨by rw [World.size_alloc]; omega⟩
        go_wp2_with fail
        (with_reducible refine (U64_any P P _ _ e.c _ HA.out (fun k hk => .inr hk) (HW.out e HME.out).c0 (HW.out e HME.out).c1 (by have := HF.out; omega)).mono ?_)
        rintro e' w3 ⟨rfl, hw3, hk3, hb3⟩
        have HW3 := Aside0.mk hw3
        have HK3 := Aside0.mk hk3
        have HB3 := Aside0.mk (HBa.out.trans (hb3.mono HP.out))
        have HBX3 := Aside0.mk ((hk3.2 wr.heap.size HLT.out HNS.out).trans HBX.out)
        have hx1 := blk_cell HBX3.out 1
        clear hw3 hk3 hb3 hx0
        go_wp2_with fail
        (with_reducible refine (U32_any P P _ _ e.i _ HW3.out (fun k hk => .inr (Nat.le_trans (Kept.size' HK3.out) hk)) (HW.out e HME.out).i0 (HW.out e HME.out).i1 (by have := HF.out; simp only [List.length_append, be64, be32, List.length_cons, List.length_nil]; omega)).mono ?_)
        rintro e' w4 ⟨rfl, hw4, hk4, hb4⟩
        have HW4 := Aside0.mk hw4
        have HK4 := Aside0.mk (Kept.trans' HK3.out hk4)
        have HB4 := Aside0.mk (HB3.out.trans (hb4.mono HP.out))
        have HBX4 := Aside0.mk ((Kept.blk' HK4.out wr.heap.size HLT.out HNS.out).trans HBX.out)
        clear hw4 hk4 hb4 hx1
        have hx2 := blk_cell HBX4.out 2
        go_wp2_with fail
        (with_reducible refine (U32_any P P _ _ e.g _ HW4.out (fun k hk => .inr (Nat.le_trans (Kept.size' HK4.out) hk)) (HW.out e HME.out).g0 (HW.out e HME.out).g1 (by have := HF.out; simp only [List.length_append, be64, be32, List.length_cons, List.length_nil]; omega)).mono ?_)
        rintro e' w5 ⟨rfl, hw5, hk5, hb5⟩
        have HW5 := Aside0.mk hw5
        have HK5 := Aside0.mk (Kept.trans' HK4.out hk5)
        have HB5 := Aside0.mk (HB4.out.trans (hb5.mono HP.out))
        have HBX5 := Aside0.mk ((Kept.blk' HK5.out wr.heap.size HLT.out HNS.out).trans HBX.out)
        clear hw5 hk5 hb5 hx2
        have hx3 := blk_cell HBX5.out 3
        have hsz : e.s.size ≤ 9223372036854775807 := by have := HLN.out e HME.out; rw [bytesOf_length] at this; omega
        go_wp2_with (first | ((with_reducible refine gate_dst (N := 34) rfl ?_); refine V_conv_str ?hg (N' := 34) ?hd _ rfl e.s ?hx ?hl ?_; (case hd => rfl); (case hg => rfl); (case hx => rfl); (case hl => exact hsz); intro v34 w6 hv hb6; have HV := Aside0.mk hv; have HA6 := Aside0.mk (Wr.apart HW5.out hb6); have HB6 := Aside0.mk hb6; clear hv hb6; obtain ⟨A34, c34, e34, hc34, hF34⟩ := HV.out; subst e34) | fail)
        (with_reducible refine (Opaque_any P P _ _ _ A34 c34 (bytesOf e.s) w6 HA6.out (fun k hk => .inr hk) hF34 hc34 (fun k h1 h2 => by have := HW5.out.lt; omega) (bytesOf_range _) (by have := HF.out; simp only [List.length_append, be64, be32, List.length_cons, List.length_nil]; omega) (by have := HLN.out e HME.out; omega)).mono ?_)
        rintro e' w7 ⟨rfl, hw7, hk7, hb7⟩
        have HW7 := Aside0.mk (hw7.mono (S' := fun _ => True) (fun _ _ => trivial))
        have HB7 := Aside0.mk ((below_step HB5.out HB6.out).trans (hb7.mono HP.out))
        clear hw7 hk7 hb7 hx3
        go_wp2
        go_roundg (l.length - k - 1)
        case measure => omega
        case rel => exact ⟨k + 1, by omega, by go_num, ⟨HW7.out.len (by
          obtain ⟨hlt', hv⟩ := List.getElem?_eq_some_iff.1 HE.out
          rw [List.take_succ_eq_append_getElem hlt', hv, List.flatMap_append, List.flatMap_singleton, encE]
          simp only [List.append_assoc])⟩, HB7⟩
      · have hd : decide ((k : Int) < (l.length : Int)) = false := decide_eq_false (by omega)
        have hk' : k = l.length := by omega
        subst hk'
        have HWl := Aside0.mk (HWr.out.len (show (l.take l.length).flatMap encE = l.flatMap encE by rw [List.take_length]))
        have HF := Aside0.mk (by have := flat_len l HLN.out; omega : (l.flatMap encE).length ≤ 48000000)
        go_wp2_with fail
        (with_reducible refine (Out_any P P _ _ wr HWl.out (by have := HF.out; omega)).mono ?_)
        rintro e' w3 ⟨v3, rfl, hr3, hb3⟩
        have HR3 := Aside0.mk (Kd.R_lower hr3 HB.out.size)
        have HB3 := Aside0.mk (below_step HB.out hb3)
        clear hr3 hb3
        go_wp2
        go_ret2
        exact ⟨_, rfl, HR3.out, HB3.out⟩
end Go.Proofs.Ytlpjchighfdomaa.Hm
