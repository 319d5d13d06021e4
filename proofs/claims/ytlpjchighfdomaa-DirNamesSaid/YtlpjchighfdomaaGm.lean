/- The Go package dir at the document's example; conditions: those that each theorem names. -/
import Derived.Test.YtlpjchighfdomaaGl
namespace Go.Proofs.Ytlpjchighfdomaa.Hm
open Go.RowKit Go.Proofs.YtlpjchighfdomaaW.PrintWords Go.Proofs.YtlpjchighfdomaaW.PrintLast Go.Proofs.YtlpjchighfdomaaW.PrintMore
set_option linter.unusedVariables false
set_option linter.unusedSimpArgs false

theorem same_name (s t : ByteArray) : (s.toList == t.toList) = (bytesOf s == bytesOf t) := by
  rw [Bool.eq_iff_iff, beq_iff_eq, beq_iff_eq]
  exact toList_iff s t
/-- The place of a name. -/
def idxN (l : List Ent) (s : List Int) : Int := idxE (fun e => bytesOf e.s == s) l
theorem idxE_N (l : List Ent) (s : ByteArray) : idxE (fun e => e.s.toList == s.toList) l = idxN l (bytesOf s) := by
  unfold idxN
  rw [show (fun e : Ent => e.s.toList == s.toList) = (fun e => bytesOf e.s == bytesOf s) from funext fun e => same_name e.s s]
def addN (l : List Ent) (e : Ent) : List Ent × Int :=
  if nameE (bytesOf e.s) ≠ 0 then ([], nameE (bytesOf e.s)) else if 0 ≤ idxN l (bytesOf e.s) then ([], 61) else if e.c ≤ lastC l then ([], 70) else (l ++ [e], 0)
theorem addM_N (l : List Ent) (e : Ent) : addM l e = addN l e := by
  unfold addM addN
  rw [idxE_N]
def mayN (l : List Ent) : Bool := (List.range l.length).all fun k => match l[k]? with | some e => (addN (l.take k) e).2 == 0 | none => true
theorem mayB_N (l : List Ent) : mayB l = mayN l := by
  unfold mayB mayN
  simp only [addM_N]
  try rfl
def removeN (l : List Ent) (s : List Int) : List Ent × Int := if idxN l s < 0 then ([], 60) else (l.eraseIdx (idxN l s).toNat, 0)
theorem removeM_N (l : List Ent) (s : ByteArray) : removeM l s = removeN l (bytesOf s) := by
  unfold removeM removeN
  rw [idxE_N]
def xa : Ent := ⟨1, 0, 0, ⟨#[97]⟩⟩
def xb : Ent := ⟨2, 0, 0, ⟨#[98]⟩⟩
def xc : Ent := ⟨3, 0, 0, ⟨#[99]⟩⟩
def xd : Ent := ⟨3, 0, 0, ⟨#[100]⟩⟩
def xbytes : List Int := [0,0,0,0,0,0,0,1,0,0,0,0,0,0,0,0,0,0,0,1,97,0,0,0,0,0,0,0,0,0,0,2,0,0,0,0,0,0,0,0,0,0,0,1,98,0,0,0,0,0,0,0,0,0,0,3,0,0,0,0,0,0,0,0,0,0,0,1,99,0,0,0]
theorem ex_after : afterM [xa, xb, xc] 1 1 = ([xb], false) := by kernel_rfl
theorem ex_may : mayB [xa, xb, xc] = true := by rw [mayB_N]; kernel_rfl
theorem ex_put : putM [xa, xb, xc] = (xbytes, 0) := by
  unfold putM
  rw [if_pos ex_may]
  kernel_rfl
theorem ex_getL : getL 73 xbytes [] = ([xa, xb, xc], 0) := by kernel_rfl
theorem ex_get : getM xbytes = ([xa, xb, xc], 0) := by
  unfold getM
  rw [show xbytes.length + 1 = 73 from rfl, ex_getL, if_neg (by simp), if_pos ex_may]
theorem ex_remove : removeM [xa, xb, xc] ⟨#[98]⟩ = ([xa, xc], 0) := by rw [removeM_N]; kernel_rfl
theorem ex_add : addM [xa, xc] xd = ([], 70) := by rw [addM_N]; kernel_rfl
theorem ex_find : idxE (fun e => e.s.toList == (⟨#[99]⟩ : ByteArray).toList) [xa, xb, xc] = 2 := by rw [idxE_N]; kernel_rfl
theorem ex_name : nameE (bytesOf ⟨#[46, 46]⟩) = 67 := by kernel_rfl
theorem flat_entC (l : List Ent) : ∀ (j : Nat) (p : Ent), l[j]? = some p → ∀ i u, (entC p)[i]? = some u → (l.flatMap entC)[j * 4 + i]? = some u := by
  induction l with
  | nil => intro j p h; simp at h
  | cons e r ih =>
    intro j p h i u hu
    rw [List.flatMap_cons]
    cases j with
    | zero =>
      obtain rfl : e = p := by simpa using h
      rw [Nat.zero_mul, Nat.zero_add, List.getElem?_append_left (List.getElem?_eq_some_iff.1 hu).1]
      exact hu
    | succ j =>
      rw [List.getElem?_cons_succ] at h
      rw [List.getElem?_append_right (by simp [entC]; omega)]
      have h2 := ih j p h i u hu
      rw [show (j + 1) * 4 + i - (entC e).length = j * 4 + i by simp [entC]; omega]
      exact h2
theorem kE_row {W : World} {b : Nat} {l : List Ent} {cells : Array Value} (hb : W.heap[b]? = some (.cells cells 41 (0, 0))) (hc : cells = (l.flatMap entC).toArray) (hl : l.length ≤ 9223372036854775807) : kE.C W (some ⟨b, 0, none⟩) l.length l := by
  refine ⟨rfl, hl, fun _ => ⟨_, rfl, fun j p hj => ?_⟩⟩
  refine ⟨entC p, rfl, kE_of W p, fun i u hu => ?_⟩
  rw [add_plain, cell_of_row W b _ _ _ _ hb, hc, kE_sz]
  simpa using flat_entC l j p hj i u hu
theorem kE_cell {w : World} {g : Nat} {l : List Ent} (h : kE.C w (some ⟨g, 0, none⟩) l.length l) (k : Nat) (e : Ent) (hk : l[k]? = some e) : w.cell? ⟨g, k * 4, none⟩ = some (.int .u64 e.c) ∧ w.cell? ⟨g, k * 4 + 3, none⟩ = some (.string e.s) := by
  obtain ⟨ad, e1, h0, _, _, h3⟩ := kE_at h k e hk
  injection e1 with e1
  subst e1
  rw [add_plain] at h0 h3
  exact ⟨h0, h3⟩
set_option maxHeartbeats 4000000 in
set_option maxRecDepth 100000 in
theorem awake_any (w : World) : Calls Try.prog 16 #[] w fun e w' => e = .returned (.bool true) ∧ Below w.heap.size w w' := by
  obtain ⟨W0, hW0⟩ : ∃ x, w.alloc (.cells #[.int .u64 1, .int .u32 0, .int .u32 0, .string ⟨#[97]⟩, .int .u64 2, .int .u32 0, .int .u32 0, .string ⟨#[98]⟩, .int .u64 3, .int .u32 0, .int .u32 0, .string ⟨#[99]⟩] 41) = x := ⟨_, rfl⟩
  have HL0 : Aside0 (kE.C W0 (some ⟨w.heap.size, 0, none⟩) 3 [xa, xb, xc]) := ⟨by rw [← hW0]; exact kE_row (l := [xa, xb, xc]) (blk_new _ _) (by kernel_rfl) (by decide)⟩
  have HB0 : Aside0 (Below w.heap.size w W0) := ⟨by rw [← hW0]; exact below_alloc (Below.refl _ _) _⟩
  have HW0 := Aside0.mk hW0
  clear hW0
  go_enter Try.func16, Try.ntmps16
  go_wp2_with fail
  rw [HW0.out]
  have h1 := After_any (some ⟨w.heap.size, 0, none⟩) 3 [xa, xb, xc] 1 1 W0 HL0.out (by decide) (by decide) (by decide) (by decide)
  rw [ex_after] at h1
  simp only [List.length_cons, List.length_nil, Nat.zero_add, Nat.reduceAdd, xd] at h1
  (with_reducible refine h1.mono ?_)
  rintro e' w1 ⟨v1, rfl, hr1, hb1⟩
  obtain ⟨g1, cap1, e1, -, -, -⟩ := Kd.R_form hr1 (by decide)
  simp only [List.length_cons, List.length_nil, Nat.zero_add, Nat.reduceAdd] at e1
  subst e1
  have HR1 := Aside0.mk hr1
  have HB1 := Aside0.mk (below_step HB0.out hb1)
  have HL1 := Aside0.mk (Kd.C_below HL0.out hb1)
  clear h1 hr1 hb1
  go_wp2_with fail
  have h2 := Put_any (some ⟨w.heap.size, 0, none⟩) 3 [xa, xb, xc] w1 HL1.out (by decide) (by decide) (by intro e he; simp at he; rcases he with rfl | rfl | rfl <;> exact ⟨by decide, by decide, by decide, by decide, by decide, by decide⟩)
  rw [ex_put] at h2
  simp only [List.length_cons, List.length_nil, Nat.zero_add, Nat.reduceAdd, xd] at h2
  (with_reducible refine h2.mono ?_)
  rintro e' w2 ⟨v2, rfl, hr2, hb2⟩
  obtain ⟨A2, c2, e2, hc2, hC2⟩ := Kd.R_reads hr2
  rw [show xbytes.length = 72 from rfl] at e2
  subst e2
  have HB2 := Aside0.mk (below_step HB1.out hb2)
  have HL2 := Aside0.mk (Kd.C_below HL1.out hb2)
  have HR1b := Aside0.mk (Kd.R_below HR1.out hb2)
  have HC2 := Aside0.mk hC2
  clear h2 hr2 hb2 hC2
  go_wp2_with fail
  have h3 := Get_any A2 c2 xbytes w2 HC2.out hc2 (by decide) (by decide)
  rw [ex_get, show xbytes.length = 72 from rfl] at h3
  (with_reducible refine h3.mono ?_)
  rintro e' w3 ⟨v3, rfl, hr3, hb3⟩
  obtain ⟨g3, cap3, e3, -, -, -⟩ := Kd.R_form hr3 (by decide)
  simp only [List.length_cons, List.length_nil, Nat.zero_add, Nat.reduceAdd] at e3
  subst e3
  have HB3 := Aside0.mk (below_step HB2.out hb3)
  have HL3 := Aside0.mk (Kd.C_below HL2.out hb3)
  have HR1c := Aside0.mk (Kd.R_below HR1b.out hb3)
  have HR3 := Aside0.mk hr3
  clear h3 hr3 hb3
  go_wp2_with fail
  have h4 := Remove_any (some ⟨w.heap.size, 0, none⟩) 3 [xa, xb, xc] ⟨#[98]⟩ w3 HL3.out (by decide) (by decide)
  rw [ex_remove] at h4
  simp only [List.length_cons, List.length_nil, Nat.zero_add, Nat.reduceAdd, xd] at h4
  (with_reducible refine h4.mono ?_)
  rintro e' w4 ⟨v4, rfl, hr4, hb4⟩
  obtain ⟨g4, cap4, e4, -, -, -⟩ := Kd.R_form hr4 (by decide)
  simp only [List.length_cons, List.length_nil, Nat.zero_add, Nat.reduceAdd] at e4
  subst e4
  have HB4 := Aside0.mk (below_step HB3.out hb4)
  have HL4 := Aside0.mk (Kd.C_below HL3.out hb4)
  have HR1d := Aside0.mk (Kd.R_below HR1c.out hb4)
  have HR3d := Aside0.mk (Kd.R_below HR3.out hb4)
  have HR4 := Aside0.mk hr4
  clear h4 hr4 hb4
  go_wp2_with fail
  have h5 := Add_any (some ⟨g4, 0, none⟩) cap4 [xa, xc] xd [] 70 w4 (Kd.R_reads' HR4.out).2.2 (Kd.R_reads' HR4.out).2.1 (by decide) ex_add
  simp only [List.length_cons, List.length_nil, Nat.zero_add, Nat.reduceAdd, xd] at h5
  (with_reducible refine h5.mono ?_)
  rintro e' w5 ⟨v5, rfl, hr5, hb5⟩
  obtain ⟨A5, c5, e5⟩ := Kd.R_slice hr5
  subst e5
  have HB5 := Aside0.mk (below_step HB4.out hb5)
  have HL5 := Aside0.mk (Kd.C_below HL4.out hb5)
  have hx1 : w5.cell? ⟨g1, 3, none⟩ = some (.string ⟨#[98]⟩) := (kE_cell (Kd.R_reads' (Kd.R_below HR1d.out hb5)).2.2 0 xb rfl).2
  have hx3 : w5.cell? ⟨g3, 11, none⟩ = some (.string ⟨#[99]⟩) := (kE_cell (Kd.R_reads' (Kd.R_below HR3d.out hb5)).2.2 2 xc rfl).2
  have hx4 : w5.cell? ⟨g4, 4, none⟩ = some (.int .u64 3) := (kE_cell (Kd.R_reads' (Kd.R_below HR4.out hb5)).2.2 1 xc rfl).1
  clear h5 hr5 hb5
  go_wp2_with fail
  have h6 := Name_any ⟨#[46, 46]⟩ w5
  rw [ex_name] at h6
  (with_reducible refine h6.mono ?_)
  rintro e' w6 ⟨rfl, hb6⟩
  have HB6 := Aside0.mk (below_step HB5.out hb6)
  have HL6 := Aside0.mk (Kd.C_below HL5.out hb6)
  clear h6 hb6 hx1 hx3 hx4
  go_wp2_with fail
  have h7 := Find_any (some ⟨w.heap.size, 0, none⟩) 3 [xa, xb, xc] ⟨#[99]⟩ w6 HL6.out (by decide)
  rw [ex_find] at h7
  simp only [List.length_cons, List.length_nil, Nat.zero_add, Nat.reduceAdd] at h7
  (with_reducible refine h7.mono ?_)
  rintro e' w7 ⟨rfl, hb7⟩
  have HB7 := Aside0.mk (below_step HB6.out hb7)
  clear h7 hb7
  go_wp2
  go_ret
  exact ⟨rfl, HB7.out⟩
end Go.Proofs.Ytlpjchighfdomaa.Hm
