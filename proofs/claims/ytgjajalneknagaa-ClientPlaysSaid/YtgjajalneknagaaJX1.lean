/- Part X1 of the lemmas and walks of the Go functions that these statements reach; conditions: those that each theorem names. -/
import Derived.Test.YtgjajalneknagaaJV7
section
/- Bytes by a list of what comes one behind the other: put, got, cut; conditions: those that each theorem names. -/
namespace Go.Proofs.Ytgjajalneknagaa.Hm
open Go.RowKit Go.Proofs.YtgjajalneknagaaW.PrintWords Go.Proofs.YtgjajalneknagaaW.PrintLast Go.Proofs.YtgjajalneknagaaW.PrintMore
set_option linter.unusedVariables false
set_option linter.unusedSimpArgs false

inductive Fk where
  | w
  | d
  | o (most : Nat)
  | t
inductive Fv where
  | i (x : Int)
  | b (l : List Int)
/-- A bool is read. -/
def boM (xs : List Int) (e : Int) : Int × List Int × Int := if 1 < (rdM xs e 4).1 then (0, (rdM xs e 4).2.1, failM (rdM xs e 4).2.2 11) else rdM xs e 4
def rdF : Fk → List Int → Int → Fv × List Int × Int
  | .w, xs, e => (.i (rdM xs e 4).1, (rdM xs e 4).2)
  | .d, xs, e => (.i (rdM xs e 8).1, (rdM xs e 8).2)
  | .o m, xs, e => (.b (opM xs e m).1, (opM xs e m).2)
  | .t, xs, e => (.i (boM xs e).1, (boM xs e).2)
def encF : Fk → Fv → List Int
  | .w, .i x => be32 x
  | .d, .i x => be64 x
  | .o _, .b l => opq l
  | .t, .i x => be32 x
  | _, _ => []
def okF : Fk → Fv → Prop
  | .w, .i x => u32ok x
  | .d, .i x => u64ok x
  | .o m, .b l => l.length ≤ m ∧ m < 4294967296 ∧ bytesB l = true
  | .t, .i x => x = 0 ∨ x = 1
  | _, _ => False
def rdFs : List Fk → List Int → Int → List Fv × List Int × Int
  | [], xs, e => ([], xs, e)
  | f :: fs, xs, e => ((rdF f xs e).1 :: (rdFs fs (rdF f xs e).2.1 (rdF f xs e).2.2).1, (rdFs fs (rdF f xs e).2.1 (rdF f xs e).2.2).2)
def encFs : List Fk → List Fv → List Int
  | f :: fs, v :: vs => encF f v ++ encFs fs vs
  | _, _ => []
def okFs : List Fk → List Fv → Prop
  | [], [] => True
  | f :: fs, v :: vs => okF f v ∧ okFs fs vs
  | _, _ => False
/-- Kinds whose bounds fit into a number. -/
def fitsF : List Fk → Bool
  | [] => true
  | .o m :: fs => decide (m < 4294967296) && fitsF fs
  | _ :: fs => fitsF fs
theorem rdM_err' {xs : List Int} {e : Int} (n : Nat) (he : e ≠ 0) : rdM xs e n = (0, xs, e) := by simp [rdM, takeM, numN, he]
theorem opM_err' {xs : List Int} {e : Int} (m : Int) (he : e ≠ 0) : opM xs e m = ([], xs, e) := by simp [opM, rdM_err' _ he, he]
theorem boM_err' {xs : List Int} {e : Int} (he : e ≠ 0) : boM xs e = (0, xs, e) := by simp [boM, rdM_err' _ he]
theorem rdF_err (f : Fk) {xs : List Int} {e : Int} (he : e ≠ 0) : (rdF f xs e).2 = (xs, e) := by
  cases f <;> simp [rdF, rdM_err' _ he, opM_err' _ he, boM_err' he]
theorem rdFs_err : ∀ (fs : List Fk) {xs : List Int} {e : Int}, e ≠ 0 → (rdFs fs xs e).2 = (xs, e)
  | [], _, _, _ => rfl
  | f :: fs, xs, e, he => by
    have h := rdF_err f (xs := xs) he
    show (rdFs fs (rdF f xs e).2.1 (rdF f xs e).2.2).2 = (xs, e)
    rw [h]
    exact rdFs_err fs he
theorem rdF_ok {f : Fk} {v : Fv} {b ys : List Int} {e : Int} (hb : bytesB b = true) (hf : fitsF [f] = true) (h : rdF f b e = (v, ys, 0)) : e = 0 ∧ b = encF f v ++ ys ∧ okF f v ∧ bytesB ys = true := by
  cases f with
  | w =>
    simp only [rdF, Prod.mk.injEq] at h
    obtain ⟨rfl, h2⟩ := h
    have h3 : rdM b e 4 = ((rdM b e 4).1, ys, 0) := by rw [← h2]
    obtain ⟨e0, q, hy⟩ := rd32_ok hb h3
    exact ⟨e0, q, rdM_range b e 4 hb, hy⟩
  | d =>
    simp only [rdF, Prod.mk.injEq] at h
    obtain ⟨rfl, h2⟩ := h
    have h3 : rdM b e 8 = ((rdM b e 8).1, ys, 0) := by rw [← h2]
    obtain ⟨e0, q, hy⟩ := rd64_ok hb h3
    exact ⟨e0, q, rdM_range b e 8 hb, hy⟩
  | o m =>
    simp only [rdF, Prod.mk.injEq] at h
    obtain ⟨rfl, h2⟩ := h
    have h3 : opM b e m = ((opM b e m).1, ys, 0) := by rw [← h2]
    obtain ⟨e0, q, h4, hy, hl⟩ := opM_ok hb h3
    exact ⟨e0, q, ⟨Int.ofNat_le.1 hl, by simpa [fitsF] using hf, h4⟩, hy⟩
  | t =>
    simp only [rdF, Prod.mk.injEq] at h
    obtain ⟨rfl, h2⟩ := h
    have hr := rdM_range b e 4 hb
    unfold boM at h2
    by_cases h1 : 1 < (rdM b e 4).1
    · rw [if_pos h1] at h2
      simp only [Prod.mk.injEq] at h2
      have h9 := h2.2
      unfold failM at h9
      split at h9
      · cases h9
      · rename_i hne; exact absurd h9 hne
    · rw [if_neg h1] at h2
      have h3 : rdM b e 4 = ((rdM b e 4).1, ys, 0) := by rw [← h2]
      obtain ⟨e0, q, hy⟩ := rd32_ok hb h3
      unfold boM
      rw [if_neg h1]
      exact ⟨e0, q, by show _ = 0 ∨ _ = 1; omega, hy⟩
theorem rdFs_ok : ∀ {fs : List Fk} {vs : List Fv} {b ys : List Int} {e : Int}, bytesB b = true → fitsF fs = true → rdFs fs b e = (vs, ys, 0) → e = 0 ∧ b = encFs fs vs ++ ys ∧ okFs fs vs ∧ bytesB ys = true
  | [], vs, b, ys, e, hb, _, h => by
    simp only [rdFs, Prod.mk.injEq] at h
    obtain ⟨rfl, rfl, rfl⟩ := h
    exact ⟨rfl, rfl, trivial, hb⟩
  | f :: fs, vs, b, ys, e, hb, hf, h => by
    unfold rdFs at h
    obtain ⟨⟨v, y1, e1⟩, h1⟩ : ∃ r, rdF f b e = r := ⟨_, rfl⟩
    rw [h1] at h
    dsimp only at h
    simp only [Prod.mk.injEq] at h
    obtain ⟨rfl, h2⟩ := h
    have hff : fitsF [f] = true ∧ fitsF fs = true := by
      cases f <;> simp_all [fitsF]
    have h3 : rdFs fs y1 e1 = ((rdFs fs y1 e1).1, ys, 0) := by rw [← h2]
    have e1z : e1 = 0 := by
      by_cases he : e1 = 0
      · exact he
      · have := rdFs_err fs (xs := y1) he
        rw [h2] at this
        simp only [Prod.mk.injEq] at this
        exact this.2.symm
    subst e1z
    obtain ⟨e0, q, k1, k2⟩ := rdF_ok hb hff.1 h1
    obtain ⟨-, q2, k3, k4⟩ := rdFs_ok k2 hff.2 h3
    exact ⟨e0, by unfold encFs; rw [List.append_assoc, ← q2]; exact q, ⟨k1, k3⟩, k4⟩
theorem bytesB_opq {l : List Int} (hl : l.length < 4294967296) (hb : bytesB l = true) : bytesB (opq l) = true := by
  unfold opq
  simp only [bytesB_append, hb, bytesB_zeros]
  rw [bytesB_be32 _ (by omega) (by omega)]
  rfl
theorem encF_bytes {f : Fk} {v : Fv} (h : okF f v) : bytesB (encF f v) = true := by
  cases f <;> cases v <;> simp only [okF] at h
  · exact bytesB_be32 _ h.1 h.2
  · exact bytesB_be64 _ h.1 h.2
  · exact bytesB_opq (by omega) h.2.2
  · exact bytesB_be32 _ (by omega) (by omega)
theorem encFs_bytes : ∀ {fs : List Fk} {vs : List Fv}, okFs fs vs → bytesB (encFs fs vs) = true
  | [], [], _ => rfl
  | [], _ :: _, h => h.elim
  | _ :: _, [], h => h.elim
  | f :: fs, v :: vs, h => by
    unfold encFs
    rw [bytesB_append, encF_bytes h.1, encFs_bytes h.2]
    rfl
/-- All bytes are of such things, and nothing is left. -/
def getFs (fs : List Fk) (xs : List Int) : List Fv × Int := ((rdFs fs xs 0).1, endM (rdFs fs xs 0).2.1 (rdFs fs xs 0).2.2)
theorem getFs_ok {fs : List Fk} {vs : List Fv} {b : List Int} (hb : bytesB b = true) (hf : fitsF fs = true) (h : getFs fs b = (vs, 0)) : b = encFs fs vs ∧ okFs fs vs := by
  obtain ⟨⟨us, ys, e⟩, h1⟩ : ∃ r, rdFs fs b 0 = r := ⟨_, rfl⟩
  unfold getFs at h
  rw [h1] at h
  simp only [Prod.mk.injEq] at h
  obtain ⟨rfl, h2⟩ := h
  unfold endM at h2
  split at h2
  · rename_i hne; exact absurd h2 hne
  · split at h2
    · cases h2
    · rename_i h0 hy
      have hy' : ys = [] := List.eq_nil_of_length_eq_zero (by omega)
      subst hy'
      have h0' : e = 0 := Decidable.not_not.1 h0
      subst h0'
      obtain ⟨-, q, k, -⟩ := rdFs_ok hb hf h1
      rw [List.append_nil] at q
      exact ⟨q, k⟩
end Go.Proofs.Ytgjajalneknagaa.Hm
end
section
/- Chapter 9: calls and replies: what may be, their bytes; conditions: those that each theorem names. -/
namespace Go.Proofs.Ytgjajalneknagaa.Hm
open Go.RowKit Go.Proofs.YtgjajalneknagaaW.PrintWords Go.Proofs.YtgjajalneknagaaW.PrintLast Go.Proofs.YtgjajalneknagaaW.PrintMore
set_option linter.unusedVariables false
set_option linter.unusedSimpArgs false

structure Ca where
  client : Int
  xid : Int
  op : Int
  ai : Int
  ag : Int
  name : ByteArray
  ti : Int
  tg : Int
  toName : ByteArray
  off : Int
  verf : Int
  cnt : Int
  mode : Int
  d : List Int
def Ca0 : Ca := ⟨0, 0, 0, 0, 0, strOfNums [], 0, 0, strOfNums [], 0, 0, 0, 0, []⟩
structure Ca.wf (c : Ca) : Prop where
  client : u32ok c.client
  xid : u32ok c.xid
  op : u32ok c.op
  ai : u32ok c.ai
  ag : u32ok c.ag
  ti : u32ok c.ti
  tg : u32ok c.tg
  off : u64ok c.off
  verf : u64ok c.verf
  cnt : u32ok c.cnt
  mode : u32ok c.mode
  d : bytesB c.d = true
def caC (s : Ca) (A : Option Addr) (c : Nat) : List Value := [.int .u32 s.client, .int .u32 s.xid, .int .u32 s.op, .int .u32 s.ai, .int .u32 s.ag, .string s.name, .int .u32 s.ti, .int .u32 s.tg, .string s.toName, .int .u64 s.off, .int .u64 s.verf, .int .u32 s.cnt, .int .u32 s.mode, .slice A s.d.length c]
def knownB (op : Int) : Bool := decide (1 ≤ op) && decide (op ≤ 16)
def okCa (s : Ca) : Bool := knownB s.op && (decide (s.name.size ≤ 64) && (decide (s.toName.size ≤ 64) && decide (s.d.length ≤ 1024)))
def caF : List Fk := [.w, .w, .w, .w, .w, .o 64, .w, .w, .o 64, .d, .d, .w, .w, .o 1024]
def caV (s : Ca) : List Fv := [.i s.client, .i s.xid, .i s.op, .i s.ai, .i s.ag, .b (bytesOf s.name), .i s.ti, .i s.tg, .b (bytesOf s.toName), .i s.off, .i s.verf, .i s.cnt, .i s.mode, .b s.d]
def caOf : List Fv → Ca
  | [.i a0, .i a1, .i a2, .i a3, .i a4, .b n, .i a5, .i a6, .b t, .i a7, .i a8, .i a9, .i a10, .b d] => ⟨a0, a1, a2, a3, a4, strOfNums n, a5, a6, strOfNums t, a7, a8, a9, a10, d⟩
  | _ => Ca0
def encCa (s : Ca) : List Int := encFs caF (caV s)
def putCa (s : Ca) : List Int × Int := if okCa s = true then (encCa s, 0) else ([], 1)
theorem okCa_fs {s : Ca} (hw : s.wf) (h : okCa s = true) : okFs caF (caV s) := by
  unfold okCa at h
  simp only [Bool.and_eq_true, decide_eq_true_eq] at h
  exact ⟨hw.client, hw.xid, hw.op, hw.ai, hw.ag, ⟨by rw [bytesOf_length]; exact h.2.1, by decide, bytesOf_range _⟩, hw.ti, hw.tg, ⟨by rw [bytesOf_length]; exact h.2.2.1, by decide, bytesOf_range _⟩, hw.off, hw.verf, hw.cnt, hw.mode, ⟨h.2.2.2, by decide, hw.d⟩, trivial⟩
end Go.Proofs.Ytgjajalneknagaa.Hm
end
section
/- Chapter 9: replies: what may be, their bytes; conditions: those that each theorem names. -/
namespace Go.Proofs.Ytgjajalneknagaa.Hm
open Go.RowKit Go.Proofs.YtgjajalneknagaaW.PrintWords Go.Proofs.YtgjajalneknagaaW.PrintLast Go.Proofs.YtgjajalneknagaaW.PrintMore
set_option linter.unusedVariables false
set_option linter.unusedSimpArgs false

structure Re where
  client : Int
  xid : Int
  st : Int
  ai : Int
  ag : Int
  ak : Int
  am : Int
  al : Int
  sz : Int
  ac : Int
  d : List Int
  e : List Ent
  eof : Bool
  verf : Int
  free : Int
def Re0 : Re := ⟨0, 0, 0, 0, 0, 0, 0, 0, 0, 0, [], [], false, 0, 0⟩
structure Re.wf (s : Re) : Prop where
  client : u32ok s.client
  xid : u32ok s.xid
  ai : u32ok s.ai
  ag : u32ok s.ag
  ak : u32ok s.ak
  am : u32ok s.am
  al : u32ok s.al
  sz : u32ok s.sz
  ac : u64ok s.ac
  verf : u64ok s.verf
  free : u32ok s.free
  d : bytesB s.d = true
  e : ∀ x ∈ s.e, x.wf
def reC (s : Re) (A : Option Addr) (c : Nat) (B : Option Addr) (c2 : Nat) : List Value := [.int .u32 s.client, .int .u32 s.xid, .int .i64 s.st, .int .u32 s.ai, .int .u32 s.ag, .int .u32 s.ak, .int .u32 s.am, .int .u32 s.al, .int .u32 s.sz, .int .u64 s.ac, .slice A s.d.length c, .slice B s.e.length c2, .bool s.eof, .int .u64 s.verf, .int .u32 s.free]
def statB (n : Int) : Bool := (n == 0) || (decide (60 ≤ n) && decide (n ≤ 71))
def okRe (s : Re) : Bool := statB s.st && (decide (s.d.length ≤ 1024) && decide (s.e.length ≤ 24))
def reF : List Fk := [.w, .w, .w, .w, .w, .w, .w, .w, .w, .d, .o 1024, .o 2048, .t, .d, .w]
def reV (s : Re) (row : List Int) : List Fv := [.i s.client, .i s.xid, .i s.st, .i s.ai, .i s.ag, .i s.ak, .i s.am, .i s.al, .i s.sz, .i s.ac, .b s.d, .b row, .i (if s.eof = true then 1 else 0), .i s.verf, .i s.free]
def reOf (l : List Ent) : List Fv → Re
  | [.i a0, .i a1, .i a2, .i a3, .i a4, .i a5, .i a6, .i a7, .i a8, .i a9, .b d, .b _, .i t, .i a10, .i a11] => ⟨a0, a1, a2, a3, a4, a5, a6, a7, a8, a9, d, l, t == 1, a10, a11⟩
  | _ => Re0
def rowOf : List Fv → List Int
  | [_, _, _, _, _, _, _, _, _, _, _, .b r, _, _, _] => r
  | _ => []
def encRe (s : Re) : List Int := encFs reF (reV s (putM s.e).1)
def putRe (s : Re) : List Int × Int := if okRe s = true then (if (putM s.e).2 ≠ 0 then ([], (putM s.e).2) else (encRe s, 0)) else ([], 1)
def rest2 (vs : List Fv) : Re × Int :=
  if (getM (rowOf vs)).2 ≠ 0 then (Re0, (getM (rowOf vs)).2) else
    if (statB (reOf (getM (rowOf vs)).1 vs).st && decide ((getM (rowOf vs)).1.length ≤ 24)) = true then (reOf (getM (rowOf vs)).1 vs, 0) else (Re0, 11)
def getRe (xs : List Int) : Re × Int := if (getFs reF xs).2 ≠ 0 then (Re0, (getFs reF xs).2) else rest2 (getFs reF xs).1
theorem putM_0 {l : List Ent} (h : (putM l).2 = 0) : mayOk l ∧ putM l = (l.flatMap encE, 0) ∧ ∀ e ∈ l, (bytesOf e.s).length ≤ 24 := by
  have hm : mayOk l := by
    unfold putM at h
    by_cases hm : mayB l = true
    · exact (mayB_iff l).1 hm
    · rw [if_neg hm] at h; simp at h
  refine ⟨hm, mayOk_putM hm, fun e he => ?_⟩
  obtain ⟨j, hj⟩ := List.mem_iff_getElem?.1 he
  exact name_len (addM_name (hm j e hj))
theorem flat_len48 {l : List Ent} (h : ∀ e ∈ l, (bytesOf e.s).length ≤ 24) : (l.flatMap encE).length ≤ 48 * l.length := by
  induction l with
  | nil => simp
  | cons e l ih =>
    have h1 := ih (fun x hx => h x (List.mem_cons_of_mem _ hx))
    have h2 := h e List.mem_cons_self
    have h3 : (encE e).length ≤ 48 := by unfold encE opq; simp [be64, be32]; omega
    rw [List.flatMap_cons, List.length_append, List.length_cons]
    omega
theorem statB_range {n : Int} (h : statB n = true) : 0 ≤ n ∧ n ≤ 71 := by
  unfold statB at h
  simp only [Bool.or_eq_true, Bool.and_eq_true, beq_iff_eq, decide_eq_true_eq] at h
  omega
theorem okRe_fs {s : Re} (hw : s.wf) (h : okRe s = true) (hp : (putM s.e).2 = 0) : okFs reF (reV s (putM s.e).1) := by
  unfold okRe at h
  simp only [Bool.and_eq_true, decide_eq_true_eq] at h
  have hst := statB_range h.1
  obtain ⟨hm, hq, hl⟩ := putM_0 hp
  have hf := flat_len48 hl
  rw [hq]
  refine ⟨hw.client, hw.xid, ⟨hst.1, by omega⟩, hw.ai, hw.ag, hw.ak, hw.am, hw.al, hw.sz, hw.ac, ⟨h.2.1, by decide, hw.d⟩, ⟨by show (s.e.flatMap encE).length ≤ 2048; omega, by decide, bytesB_flatE hw.e hl⟩, ?_, hw.verf, hw.free, trivial⟩
  show (if s.eof = true then (1 : Int) else 0) = 0 ∨ (if s.eof = true then (1 : Int) else 0) = 1
  cases s.eof <;> simp
theorem okFs_re {vs : List Fv} {l : List Ent} (h : okFs reF vs) (hl : ∀ e ∈ l, e.wf) : vs = reV (reOf l vs) (rowOf vs) ∧ (reOf l vs).wf ∧ (reOf l vs).d.length ≤ 1024 ∧ (reOf l vs).e = l ∧ bytesB (rowOf vs) = true := by
  obtain _ | ⟨v0, _ | ⟨v1, _ | ⟨v2, _ | ⟨v3, _ | ⟨v4, _ | ⟨v5, _ | ⟨v6, _ | ⟨v7, _ | ⟨v8, _ | ⟨v9, _ | ⟨v10, _ | ⟨v11, _ | ⟨v12, _ | ⟨v13, _ | ⟨v14, _ | ⟨v15, vs⟩⟩⟩⟩⟩⟩⟩⟩⟩⟩⟩⟩⟩⟩⟩⟩ := vs <;> simp only [reF, okFs, and_false, false_and] at h
  obtain ⟨h0, h1, h2, h3, h4, h5, h6, h7, h8, h9, h10, h11, h12, h13, h14, -⟩ := h
  cases v0 <;> simp only [okF] at h0
  cases v1 <;> simp only [okF] at h1
  cases v2 <;> simp only [okF] at h2
  cases v3 <;> simp only [okF] at h3
  cases v4 <;> simp only [okF] at h4
  cases v5 <;> simp only [okF] at h5
  cases v6 <;> simp only [okF] at h6
  cases v7 <;> simp only [okF] at h7
  cases v8 <;> simp only [okF] at h8
  cases v9 <;> simp only [okF] at h9
  cases v10 <;> simp only [okF] at h10
  cases v11 <;> simp only [okF] at h11
  cases v12 <;> simp only [okF] at h12
  cases v13 <;> simp only [okF] at h13
  cases v14 <;> simp only [okF] at h14
  refine ⟨?_, ⟨h0, h1, h3, h4, h5, h6, h7, h8, h9, h13, h14, h10.2.2, hl⟩, h10.1, rfl, h11.2.2⟩
  rcases h12 with rfl | rfl <;> rfl
theorem getRe_ok {b : List Int} {s : Re} (hb : bytesB b = true) (h : getRe b = (s, 0)) : putRe s = (b, 0) ∧ s.wf ∧ okRe s = true ∧ (putM s.e).2 = 0 := by
  unfold getRe at h
  obtain ⟨⟨vs, n⟩, hg⟩ : ∃ r, getFs reF b = r := ⟨_, rfl⟩
  rw [hg] at h
  dsimp only at h
  by_cases hn : n = 0
  · subst hn
    rw [if_neg (by simp)] at h
    obtain ⟨q, hk⟩ := getFs_ok hb (by decide) hg
    unfold rest2 at h
    obtain ⟨⟨l, n2⟩, hm⟩ : ∃ r, getM (rowOf vs) = r := ⟨_, rfl⟩
    rw [hm] at h
    dsimp only at h
    by_cases hn2 : n2 = 0
    · subst hn2
      rw [if_neg (by simp)] at h
      obtain ⟨hp, hwl⟩ := getM_put (okFs_re (l := []) hk (by simp)).2.2.2.2 hm
      obtain ⟨e1, e2, e3, e4, -⟩ := okFs_re (l := l) hk hwl
      by_cases hst : (statB (reOf l vs).st && decide (l.length ≤ 24)) = true
      · rw [if_pos hst] at h
        simp only [Prod.mk.injEq, and_true] at h
        subst h
        simp only [Bool.and_eq_true, decide_eq_true_eq] at hst
        have hok : okRe (reOf l vs) = true := by
          unfold okRe
          simp only [Bool.and_eq_true, decide_eq_true_eq]
          exact ⟨hst.1, e3, by rw [e4]; exact hst.2⟩
        have hp2 : putM (reOf l vs).e = (rowOf vs, 0) := by rw [e4]; exact hp
        refine ⟨?_, e2, hok, by rw [hp2]⟩
        unfold putRe
        rw [if_pos hok, if_neg (by rw [hp2]; simp)]
        unfold encRe
        rw [hp2, ← e1, ← q]
      · rw [if_neg hst] at h
        simp at h
    · rw [if_pos hn2] at h
      simp only [Prod.mk.injEq] at h
      exact absurd h.2 hn2
  · rw [if_pos hn] at h
    simp only [Prod.mk.injEq] at h
    exact absurd h.2 hn
theorem getRe_wf {b : List Int} {s : Re} {n : Int} (hb : bytesB b = true) (h : getRe b = (s, n)) : s.wf ∧ s.d.length ≤ 1024 ∧ s.e.length ≤ 24 ∧ (n ≠ 0 → s = Re0) := by
  by_cases hn : n = 0
  · subst hn
    obtain ⟨-, h1, h2, -⟩ := getRe_ok hb h
    unfold okRe at h2
    simp only [Bool.and_eq_true, decide_eq_true_eq] at h2
    exact ⟨h1, h2.2.1, h2.2.2, fun h => absurd rfl h⟩
  · have h0 : s = Re0 := by
      unfold getRe rest2 at h
      split at h
      · simp only [Prod.mk.injEq] at h; exact h.1.symm
      · split at h
        · simp only [Prod.mk.injEq] at h; exact h.1.symm
        · split at h
          · simp only [Prod.mk.injEq] at h; exact absurd h.2.symm hn
          · simp only [Prod.mk.injEq] at h; exact h.1.symm
    subst h0
    have u0 : u32ok 0 := ⟨by decide, by decide⟩
    have v0 : u64ok 0 := ⟨by decide, by decide⟩
    exact ⟨⟨u0, u0, u0, u0, u0, u0, u0, u0, v0, v0, u0, rfl, by intro x hx; cases hx⟩, by decide, by decide, fun _ => rfl⟩
end Go.Proofs.Ytgjajalneknagaa.Hm
end
