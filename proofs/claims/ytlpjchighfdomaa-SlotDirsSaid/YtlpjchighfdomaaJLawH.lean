/- Chapter 11's law SlotDirs, walked; conditions: those that each theorem names. -/
import Derived.Test.YtlpjchighfdomaaJV7
namespace Go.Proofs.Ytlpjchighfdomaa.Sx
open Go.RowKit Go.Proofs.Ytlpjchighfdomaa.Hm Go.Proofs.YtlpjchighfdomaaW.PrintWords Go.Proofs.YtlpjchighfdomaaW.PrintLast Go.Proofs.YtlpjchighfdomaaW.PrintMore
set_option linter.unusedVariables false
set_option linter.unusedSimpArgs false
attribute [local irreducible] SX SXL SXA St callK Post Evals

theorem andI_u8_3 (x : Int) (h0 : 0 ≤ x) (h1 : x < 256) : andI .u8 x 3 = x % 4 := by
  obtain ⟨n, rfl⟩ := Int.eq_ofNat_of_zero_le h0
  have key : ∀ m : Fin 256, andI .u8 ((m.val : Nat) : Int) 3 = ((m.val : Nat) : Int) % 4 := by decide +kernel
  exact key ⟨n, by omega⟩
theorem mayOk_take {l : List Ent} (h : mayOk l) (k : Nat) : mayOk (l.take k) := by
  intro j e he
  have hj := (List.getElem?_eq_some_iff.1 he).1
  rw [List.length_take] at hj
  rw [List.getElem?_take_of_lt (by omega)] at he
  rw [List.take_take, Nat.min_eq_left (by omega)]
  exact h j e he
theorem pre_enc : ∀ (l' l : List Ent) (y : List Int), (∀ e ∈ l, e.wf ∧ e.s.size ≤ 24) → (∀ e ∈ l', e.wf ∧ e.s.size ≤ 24) → l.flatMap encE = l'.flatMap encE ++ y → ∃ k, l' = l.take k := by
  intro l'
  induction l' with
  | nil => intro l y _ _ _; exact ⟨0, rfl⟩
  | cons e' l' ih =>
    intro l y h1 h2 h
    cases l with
    | nil =>
      have h3 := congrArg List.length h
      have := encE_pos e'
      rw [List.flatMap_cons, List.flatMap_nil, List.length_nil, List.append_assoc, List.length_append] at h3
      omega
    | cons e l =>
      rw [List.flatMap_cons, List.flatMap_cons, List.append_assoc] at h
      obtain ⟨w1, s1⟩ := h1 e List.mem_cons_self
      obtain ⟨w2, s2⟩ := h2 e' List.mem_cons_self
      have e1 := rdE_put e (l.flatMap encE) w1 s1
      have e2 := rdE_put e' (l'.flatMap encE ++ y) w2 s2
      rw [h, e2] at e1
      simp only [Prod.mk.injEq, and_true] at e1
      obtain ⟨rfl, e3⟩ := e1
      obtain ⟨k, hk⟩ := ih l y (fun x hx => h1 x (List.mem_cons_of_mem _ hx)) (fun x hx => h2 x (List.mem_cons_of_mem _ hx)) e3.symm
      exact ⟨k + 1, by rw [List.take_succ_cons, ← hk]⟩
theorem flat24 {l : List Ent} (h : ∀ e ∈ l, (encE e).length = 24) : (l.flatMap encE).length = 24 * l.length := by
  induction l with
  | nil => rfl
  | cons e l ih =>
    rw [List.flatMap_cons, List.length_append, h e List.mem_cons_self, ih (fun x hx => h x (List.mem_cons_of_mem _ hx)), List.length_cons]
    omega
theorem cut24 {l : List Ent} (hm : mayOk l) (hw : ∀ e ∈ l, e.wf ∧ e.c ≤ 1000 ∧ (encE e).length = 24 ∧ e.s.size ≤ 24) {m : Nat} (hlt : m ≤ (l.flatMap encE).length) :
    ((getM ((l.flatMap encE).take m)).2 = 0 ∧ lastC (getM ((l.flatMap encE).take m)).1 ≤ 1000) ↔ m % 24 = 0 := by
  have hb : bytesB (l.flatMap encE) = true := bytesB_flatE (fun e he => (hw e he).1) (fun e he => by rw [bytesOf_length]; exact (hw e he).2.2.2)
  have hlen : ((l.flatMap encE).take m).length = m := by rw [List.length_take]; omega
  constructor
  · rintro ⟨h1, -⟩
    obtain ⟨⟨l', n⟩, hg⟩ : ∃ r, getM ((l.flatMap encE).take m) = r := ⟨_, rfl⟩
    rw [hg] at h1
    obtain rfl : n = 0 := h1
    obtain ⟨hp, hwf⟩ := getM_put (bytesB_take m hb) hg
    have hmay := getM_may (bytesB_take m hb) hg
    rw [mayOk_putM hmay] at hp
    simp only [Prod.mk.injEq, and_true] at hp
    obtain ⟨k, hk⟩ := pre_enc l' l ((l.flatMap encE).drop m) (fun e he => ⟨(hw e he).1, (hw e he).2.2.2⟩) (fun e he => ⟨hwf e he, by
      obtain ⟨j, hj⟩ := List.mem_iff_getElem?.1 he
      have h9 := name_len (addM_name (hmay j e hj))
      rwa [bytesOf_length] at h9⟩) (by rw [hp, List.take_append_drop])
    rw [← hp] at hlen
    rw [hk, flat24 (fun e he => (hw e (List.mem_of_mem_take he)).2.2.1)] at hlen
    omega
  · intro h0
    obtain ⟨k, rfl⟩ : ∃ k, m = 24 * k := ⟨m / 24, by omega⟩
    have hl24 := flat24 (l := l) (fun e he => (hw e he).2.2.1)
    have ht : (l.flatMap encE).take (24 * k) = (l.take k).flatMap encE := by
      have h9 : l.flatMap encE = (l.take k).flatMap encE ++ (l.drop k).flatMap encE := by rw [← List.flatMap_append, List.take_append_drop]
      rw [h9, List.take_left']
      rw [flat24 (fun e he => (hw e (List.mem_of_mem_take he)).2.2.1), List.length_take]
      omega
    rw [ht, putM_get (fun e he => (hw e (List.mem_of_mem_take he)).1) (mayOk_putM (mayOk_take hm k))]
    refine ⟨rfl, ?_⟩
    show lastC (l.take k) ≤ 1000
    unfold lastC
    cases h1 : (l.take k).getLast? with
    | none => exact (by decide : (0 : Int) ≤ 1000)
    | some e => exact (hw e (List.mem_of_mem_take (List.mem_of_getLast? h1))).2.1
structure DI (i : Nat) (cc : Int) (l : List Ent) : Prop where
  len : l.length = i
  may : mayOk l
  nm : namesOf l = (List.range i).map (fun k : Nat => [97 + (k : Int)])
  last : lastC l = cc
  c0 : 0 ≤ cc
  c1 : cc ≤ 4 * i
  wf : ∀ e ∈ l, e.wf ∧ e.c ≤ 4 * i ∧ (encE e).length = 24 ∧ e.s.size ≤ 24
theorem DI.start : DI 0 0 [] := ⟨rfl, mayOk_nil, rfl, rfl, Int.le_refl _, by decide, fun e he => by simp at he⟩
theorem DI.step {i : Nat} {cc : Int} {l : List Ent} (h : DI i cc l) (hi : i < 12) (x : Int) (h1 : 1 ≤ x) (h4 : x ≤ 4) : DI (i + 1) (cc + x) (l ++ [⟨cc + x, 0, 0, strOfNums [97 + (i : Int)]⟩]) := by
  have c0 := h.c0
  have c1 := h.c1
  have hs : bytesOf (strOfNums [97 + (i : Int)]) = [97 + (i : Int)] := bytes1 (by omega) (by omega)
  have ha : addM l ⟨cc + x, 0, 0, strOfNums [97 + (i : Int)]⟩ = (l ++ [⟨cc + x, 0, 0, strOfNums [97 + (i : Int)]⟩], 0) := by
    refine addM_new ?_ ?_ ?_
    · show nameE (bytesOf (strOfNums [97 + (i : Int)])) = 0
      rw [hs]; exact name1 (by omega) (by omega)
    · show bytesOf (strOfNums [97 + (i : Int)]) ∉ _
      rw [hs, h.nm]
      intro hm
      obtain ⟨k, hk, e⟩ := List.mem_map.1 hm
      rw [List.mem_range] at hk
      injection e with e _
      omega
    · rw [h.last]; show cc < cc + x; omega
  refine ⟨by rw [List.length_append, h.len]; rfl, mayOk_snoc.2 ⟨h.may, by rw [ha]⟩, ?_, lastC_snoc _ _, by omega, by omega, ?_⟩
  · rw [namesOf_snoc, h.nm, List.range_succ, List.map_append]
    show _ ++ [bytesOf (strOfNums [97 + (i : Int)])] = _
    rw [hs]; rfl
  · intro e he
    rcases List.mem_append.1 he with he | he
    · obtain ⟨w1, w2, w3⟩ := h.wf e he
      exact ⟨w1, by omega, w3⟩
    · rw [List.mem_singleton.1 he]
      refine ⟨⟨by show 0 ≤ cc + x; omega, by show cc + x < _; omega, by show (0 : Int) ≤ 0; omega, by show (0 : Int) < _; omega, by show (0 : Int) ≤ 0; omega, by show (0 : Int) < _; omega⟩, by show cc + x ≤ _; omega, ?_, by show (strOfNums [97 + (i : Int)]).size ≤ 24; rw [size_strOfNums]; simp⟩
      unfold encE
      show (be64 (cc + x) ++ be32 0 ++ be32 0 ++ opq (bytesOf (strOfNums [97 + (i : Int)]))).length = 24
      rw [hs]
      rfl
theorem check_dir {b : List Int} {ck : Int} (hl : b.length ≤ 768) (h0 : 0 ≤ ck) : (checkM ⟨0, 2, 0, 1, 0, 0, ck, 0, b⟩ == 0) = decide ((getM b).2 = 0 ∧ lastC (getM b).1 ≤ ck) := by
  obtain ⟨⟨l, n⟩, hg⟩ : ∃ r, getM b = r := ⟨_, rfl⟩
  have hk : okB ⟨0, 2, 0, 1, 0, 0, ck, 0, b⟩ = decide (n = 0 ∧ lastC l ≤ ck) := by
    unfold okB ok1 ok2 ok3 listB
    rw [hg]
    by_cases hn : n = 0
    · subst hn
      by_cases h1 : lastC l ≤ ck
      · simp [h1]; omega
      · have : l ≠ [] := fun e => by rw [e] at h1; exact h1 h0
        simp [h1, this]
    · simp [hn]
  unfold checkM
  rw [hk, hg]
  by_cases h9 : n = 0 ∧ lastC l ≤ ck
  · rw [if_pos (by simpa using h9)]; simpa using h9
  · rw [if_neg (by simpa using h9)]; simpa using h9
section
variable {F R : List Thing} {K : Ending → List Thing → Prop} {s : Sl} {A : Option Addr} {c : Nat}
set_option maxRecDepth 20000 in
theorem SlotDirs_S {b : List Int} {ck ct : Int} (hr : Ro (Kd.int .u8) A F b) (hc : b.length ≤ c) (hb : bytesB b = true) (k0 : 0 ≤ ck) (k1 : ck < 256) (t0 : 0 ≤ ct) (t1 : ct < 256) (h : K (.returned (.bool true)) F) :
    Fn (Try.prog) 15 [.slice A b.length c, .int .u8 ck, .int .u8 ct] F K := by
  refine Fn.enter Try.call15 Try.func15 rfl rfl rfl ?_
  repeat (first | refine Qa ?_ | refine Qb ?_ | refine Qc ?_ | refine Qd ?_ | refine Qe ?_ | refine Qf ?_ | refine Qg ?_ | refine Qh ?_ | refine Qi ?_ | refine Qj ?_ | refine Qk ?_ | refine Ql ?_ | refine Qm ?_ | refine Qn ?_ | refine Qo ?_ | refine Qp ?_ | refine Qq ?_ | fail)
  refine SXL.call rfl rfl rfl ?_
  refine (awake11_S (callK.ret ?_))
  repeat (first | refine Qa ?_ | refine Qb ?_ | refine Qc ?_ | refine Qd ?_ | refine Qe ?_ | refine Qf ?_ | refine Qg ?_ | refine Qh ?_ | refine Qi ?_ | refine Qj ?_ | refine Qk ?_ | refine Ql ?_ | refine Qm ?_ | refine Qn ?_ | refine Qo ?_ | refine Qp ?_ | refine Qq ?_ | fail)
  refine SX.condp rfl (fun hl => ?_) (fun hl => ?_)
  · repeat (first | refine Qa ?_ | refine Qb ?_ | refine Qc ?_ | refine Qd ?_ | refine Qe ?_ | refine Qf ?_ | refine Qg ?_ | refine Qh ?_ | refine Qi ?_ | refine Qj ?_ | refine Qk ?_ | refine Ql ?_ | refine Qm ?_ | refine Qn ?_ | refine Qo ?_ | refine Qp ?_ | refine Qq ?_ | fail)
    refine SX.ret (M' := F) rfl (Evals.tmp rfl Evals.nil) ?_ inferInstance
    exact h
  repeat (first | refine Qa ?_ | refine Qb ?_ | refine Qc ?_ | refine Qd ?_ | refine Qe ?_ | refine Qf ?_ | refine Qg ?_ | refine Qh ?_ | refine Qi ?_ | refine Qj ?_ | refine Qk ?_ | refine Ql ?_ | refine Qm ?_ | refine Qn ?_ | refine Qo ?_ | refine Qp ?_ | refine Qq ?_ | fail)
  refine SX.loop (fun z a M => ∃ (i : Nat) (l : List Ent) (cc : Int) (A1 : Option Addr) (c1 : Nat), i + z = b.length ∧ DI i cc l ∧ l.length ≤ c1 ∧
      a = [(0, .slice A b.length c), (1, .int .u8 ck), (2, .int .u8 ct), (8, .slice A1 l.length c1), (9, .int .u64 cc), (10, .int .i64 i)] ∧
      .own A1 (rowR kE 41 (.slice A1 l.length c1) l) :: F = M)
    b.length ⟨0, [], 0, none, 0, by omega, DI.start, Nat.le_refl _, rfl, rfl⟩ (by repeat (first | exact trivial | refine ⟨rfl, ?_⟩)) (show Sub _ (.own none (rowR kE 41 (.slice none ([] : List Ent).length 0) []) :: F) from inferInstance) ?_
  rintro z _ _ ⟨i, l, cc, A1, c1, hz, hD, hc1, rfl, rfl⟩
  have hlen := hD.len
  have hc0 := hD.c0
  have hcc := hD.c1
  repeat (first | refine Qa ?_ | refine Qb ?_ | refine Qc ?_ | refine Qd ?_ | refine Qe ?_ | refine Qf ?_ | refine Qg ?_ | refine Qh ?_ | refine Qi ?_ | refine Qj ?_ | refine Qk ?_ | refine Ql ?_ | refine Qm ?_ | refine Qn ?_ | refine Qo ?_ | refine Qp ?_ | refine Qq ?_ | fail)
  refine SX.condp rfl (fun hi => ?_) (fun hi => ?_)
  · obtain ⟨x, hx⟩ : ∃ x, b[i]? = some x := ⟨_, List.getElem?_eq_getElem (by omega)⟩
    have hxr := bytesB_at hb hx
    refine SX.addr (A := A) (Kd.int .u8) (by decide) (xs := b) (by omega) (fun b3 o3 e3 => ?_)
    subst e3
    repeat (first | refine Qa ?_ | refine Qb ?_ | refine Qc ?_ | refine Qd ?_ | refine Qe ?_ | refine Qf ?_ | refine Qg ?_ | refine Qh ?_ | refine Qi ?_ | refine Qj ?_ | refine Qk ?_ | refine Ql ?_ | refine Qm ?_ | refine Qn ?_ | refine Qo ?_ | refine Qp ?_ | refine Qq ?_ | fail)
    refine SXL.idx rfl rfl rfl rfl rfl (by omega) (by omega) rfl ?_
    refine SXL.loadRow (Kd.int .u8) rfl rfl inferInstance (by rw [Int.toNat_natCast]; exact hx) rfl rfl ?_
    repeat (first | refine Qa ?_ | refine Qb ?_ | refine Qc ?_ | refine Qd ?_ | refine Qe ?_ | refine Qf ?_ | refine Qg ?_ | refine Qh ?_ | refine Qi ?_ | refine Qj ?_ | refine Qk ?_ | refine Ql ?_ | refine Qm ?_ | refine Qn ?_ | refine Qo ?_ | refine Qp ?_ | refine Qq ?_ | fail)
    have hand := andI_u8_3 x hxr.1 hxr.2
    have hcx : IntKind.u64.wrap (cc + IntKind.u64.wrap (IntKind.u64.wrap (andI .u8 x 3) + 1)) = cc + (x % 4 + 1) := by rw [hand, IntWalk.u64_in (x % 4) (by omega), IntWalk.u64_in (x % 4 + 1) (by omega), IntWalk.u64_in _ (by omega)]
    refine SXL.same 9 (.int .u64 (cc + (x % 4 + 1))) rfl (by rw [hcx]) ?_
    refine SXL.same 37 (.int .u64 (cc + (x % 4 + 1))) rfl (by rw [hcx]) ?_
    refine SXL.same 40 (.int .u8 (97 + (i : Int))) rfl (by simp (disch := omega) only [IntWalk.i64_in, IntWalk.u8_in, IntWalk.u32_in, IntWalk.u64_in, IntWalk.rem_in, Int.natCast_add, Int.natCast_one]) ?_
    refine SXL.lit rfl rfl (fun g => ?_)
    refine SXL.litRow (Kd.int .u8) g [97 + (i : Int)] inferInstance rfl (fun _ => rfl) (by simp) ?_
    refine SXL.bytesStr rfl inferInstance rfl Try.underlying22 Try.underlying5 Try.underlying9 rfl ?_
    repeat (first | refine Qa ?_ | refine Qb ?_ | refine Qc ?_ | refine Qd ?_ | refine Qe ?_ | refine Qf ?_ | refine Qg ?_ | refine Qh ?_ | refine Qi ?_ | refine Qj ?_ | refine Qk ?_ | refine Ql ?_ | refine Qm ?_ | refine Qn ?_ | refine Qo ?_ | refine Qp ?_ | refine Qq ?_ | fail)
    refine SXL.lit rfl rfl (fun g2 => ?_)
    refine SXL.litRow kE g2 [⟨cc + (x % 4 + 1), 0, 0, strOfNums [97 + (i : Int)]⟩] inferInstance rfl (fun _ => rfl) (by simp) ?_
    refine SXL.append kE rfl rfl inferInstance inferInstance rfl inferInstance (by simp; omega) rfl (fun A' c' hc' => ?_)
    repeat (first | refine Qa ?_ | refine Qb ?_ | refine Qc ?_ | refine Qd ?_ | refine Qe ?_ | refine Qf ?_ | refine Qg ?_ | refine Qh ?_ | refine Qi ?_ | refine Qj ?_ | refine Qk ?_ | refine Ql ?_ | refine Qm ?_ | refine Qn ?_ | refine Qo ?_ | refine Qp ?_ | refine Qq ?_ | fail)
    refine SX.same 10 (.int .i64 ((i + 1 : Nat) : Int)) rfl (by simp (disch := omega) only [IntWalk.i64_in, IntWalk.u8_in, IntWalk.u32_in, IntWalk.u64_in, IntWalk.rem_in, Int.natCast_add, Int.natCast_one]) ?_
    refine SX.again (z - 1) (by omega) ⟨i + 1, _, _, A', c', by omega, hD.step (by omega) (x % 4 + 1) (by omega) (by omega), hc', rfl, rfl⟩ (by repeat (first | exact trivial | refine ⟨rfl, ?_⟩)) inferInstance
  obtain rfl : i = b.length := by omega
  have hwf := hD.wf
  have hmay := hD.may
  have hl24 : (l.flatMap encE).length = 24 * b.length := by rw [flat24 (fun e he => (hwf e he).2.2.1), hlen]
  have hbb : bytesB (l.flatMap encE) = true := bytesB_flatE (fun e he => (hwf e he).1) (fun e he => by rw [bytesOf_length]; exact (hwf e he).2.2.2)
  have hget := putM_get (fun e he => (hwf e he).1) (mayOk_putM hmay)
  have hck := check_dir (b := l.flatMap encE) (ck := ck) (by omega) k0
  rw [hget] at hck
  repeat (first | refine Qa ?_ | refine Qb ?_ | refine Qc ?_ | refine Qd ?_ | refine Qe ?_ | refine Qf ?_ | refine Qg ?_ | refine Qh ?_ | refine Qi ?_ | refine Qj ?_ | refine Qk ?_ | refine Ql ?_ | refine Qm ?_ | refine Qn ?_ | refine Qo ?_ | refine Qp ?_ | refine Qq ?_ | fail)
  refine SXL.call rfl rfl rfl ?_
  refine (Put_S inferInstance hc1 (by omega) (fun e he => (hwf e he).1) (fun r n hm A2 c2 hc2 => callK.ret ?_))
  rw [mayOk_putM hmay] at hm
  simp only [Prod.mk.injEq] at hm
  obtain ⟨rfl, rfl⟩ := hm
  repeat (first | refine Qa ?_ | refine Qb ?_ | refine Qc ?_ | refine Qd ?_ | refine Qe ?_ | refine Qf ?_ | refine Qg ?_ | refine Qh ?_ | refine Qi ?_ | refine Qj ?_ | refine Qk ?_ | refine Ql ?_ | refine Qm ?_ | refine Qn ?_ | refine Qo ?_ | refine Qp ?_ | refine Qq ?_ | fail)
  refine SXL.same 56 (.agg (slC ⟨0, 2, 0, 1, 0, 0, ck, 0, l.flatMap encE⟩ A2 c2).toArray) rfl (by rw [IntWalk.u64_in ck (by omega)]; rfl) ?_
  unfold slC
  refine SXL.alloc rfl rfl (fun g => ?_)
  repeat (first | refine Qa ?_ | refine Qb ?_ | refine Qc ?_ | refine Qd ?_ | refine Qe ?_ | refine Qf ?_ | refine Qg ?_ | refine Qh ?_ | refine Qi ?_ | refine Qj ?_ | refine Qk ?_ | refine Ql ?_ | refine Qm ?_ | refine Qn ?_ | refine Qo ?_ | refine Qp ?_ | refine Qq ?_ | fail)
  refine SXL.call rfl rfl rfl ?_
  refine (Check_S (s := ⟨0, 2, 0, 1, 0, 0, ck, 0, l.flatMap encE⟩) inferInstance hc2 hbb (by show (l.flatMap encE).length ≤ 4000000000; omega) (callK.ret ?_))
  repeat (first | refine Qa ?_ | refine Qb ?_ | refine Qc ?_ | refine Qd ?_ | refine Qe ?_ | refine Qf ?_ | refine Qg ?_ | refine Qh ?_ | refine Qi ?_ | refine Qj ?_ | refine Qk ?_ | refine Ql ?_ | refine Qm ?_ | refine Qn ?_ | refine Qo ?_ | refine Qp ?_ | refine Qq ?_ | fail)
  refine SX.know 64 false rfl (by rw [hck, hD.last, IntWalk.u64_in ck (by omega)]; simp) ?_
  repeat (first | refine Qa ?_ | refine Qb ?_ | refine Qc ?_ | refine Qd ?_ | refine Qe ?_ | refine Qf ?_ | refine Qg ?_ | refine Qh ?_ | refine Qi ?_ | refine Qj ?_ | refine Qk ?_ | refine Ql ?_ | refine Qm ?_ | refine Qn ?_ | refine Qo ?_ | refine Qp ?_ | refine Qq ?_ | fail)
  refine SX.cond rfl (fun h0 => ?_) (fun h0 => ?_)
  · repeat (first | refine Qa ?_ | refine Qb ?_ | refine Qc ?_ | refine Qd ?_ | refine Qe ?_ | refine Qf ?_ | refine Qg ?_ | refine Qh ?_ | refine Qi ?_ | refine Qj ?_ | refine Qk ?_ | refine Ql ?_ | refine Qm ?_ | refine Qn ?_ | refine Qo ?_ | refine Qp ?_ | refine Qq ?_ | fail)
    refine SX.ret (M' := F) rfl (Evals.tmp rfl Evals.nil) ?_ inferInstance
    exact h
  have h0' : (l.flatMap encE).length ≠ 0 := by intro h9; rw [h9] at h0; simp at h0
  repeat (first | refine Qa ?_ | refine Qb ?_ | refine Qc ?_ | refine Qd ?_ | refine Qe ?_ | refine Qf ?_ | refine Qg ?_ | refine Qh ?_ | refine Qi ?_ | refine Qj ?_ | refine Qk ?_ | refine Ql ?_ | refine Qm ?_ | refine Qn ?_ | refine Qo ?_ | refine Qp ?_ | refine Qq ?_ | fail)
  obtain ⟨m, hm⟩ : ∃ m : Nat, (m : Int) = ((l.flatMap encE).length : Int) - 1 - ct % ((l.flatMap encE).length : Int) := ⟨(((l.flatMap encE).length : Int) - 1 - ct % ((l.flatMap encE).length : Int)).toNat, by have := Int.emod_lt_of_pos ct (b := ((l.flatMap encE).length : Int)) (by omega); omega⟩
  have hmn : m < (l.flatMap encE).length := by have := Int.emod_nonneg ct (b := ((l.flatMap encE).length : Int)) (by omega); omega
  have htm : 0 ≤ ct.tmod ((l.flatMap encE).length : Int) ∧ ct.tmod ((l.flatMap encE).length : Int) < ((l.flatMap encE).length : Int) ∧ ct.tmod ((l.flatMap encE).length : Int) = ct % ((l.flatMap encE).length : Int) := by
    rw [Int.tmod_eq_emod_of_nonneg t0]
    exact ⟨Int.emod_nonneg _ (by omega), Int.emod_lt_of_pos _ (by omega), rfl⟩
  refine SXL.rem rfl rfl (by show ((l.flatMap encE).length : Int) ≠ 0; omega) rfl ?_
  refine Qa ?_
  refine SXL.same 78 (.int .i64 (m : Int)) rfl (by rw [IntWalk.i64_in ct (by omega), IntWalk.i64_in (((l.flatMap encE).length : Int) - 1) (by omega), IntWalk.i64_in _ (by omega)]; rw [htm.2.2, hm]) ?_
  have hlm : ((l.flatMap encE).take m).length = m := by rw [List.length_take]; omega
  refine SXL.cut rfl rfl rfl rfl rfl rfl hc2 (by omega) (by omega) (by omega) rfl ?_
  refine SXL.same 79 (.slice A2 ((l.flatMap encE).take m).length c2) rfl (by rw [cut0, hlm]; simp) ?_
  repeat (first | refine Qa ?_ | refine Qb ?_ | refine Qc ?_ | refine Qd ?_ | refine Qe ?_ | refine Qf ?_ | refine Qg ?_ | refine Qh ?_ | refine Qi ?_ | refine Qj ?_ | refine Qk ?_ | refine Ql ?_ | refine Qm ?_ | refine Qn ?_ | refine Qo ?_ | refine Qp ?_ | refine Qq ?_ | fail)
  refine SXL.call rfl rfl rfl ?_
  refine (Check_S (s := ⟨0, 2, 0, 1, 0, 0, 1000, 0, (l.flatMap encE).take m⟩) (Ro.take m inferInstance) (by show ((l.flatMap encE).take m).length ≤ c2; omega) (bytesB_take m hbb) (by show ((l.flatMap encE).take m).length ≤ 4000000000; omega) (callK.ret ?_))
  have hfin := check_dir (b := (l.flatMap encE).take m) (ck := 1000) (by omega) (by decide)
  have hc24 := cut24 hmay (fun e he => ⟨(hwf e he).1, by have := (hwf e he).2.1; omega, (hwf e he).2.2⟩) (m := m) (by omega)
  have hfin2 : decide ((getM ((l.flatMap encE).take m)).2 = 0 ∧ lastC (getM ((l.flatMap encE).take m)).1 ≤ 1000) = decide (m % 24 = 0) := decide_eq_decide.2 hc24
  rw [hfin2] at hfin
  have hm24 : ((m : Int).tmod 24 == 0) = decide (m % 24 = 0) := by
    rw [Int.tmod_eq_emod_of_nonneg (by omega), Bool.eq_iff_iff]
    simp
    omega
  repeat (first | refine Qa ?_ | refine Qb ?_ | refine Qc ?_ | refine Qd ?_ | refine Qe ?_ | refine Qf ?_ | refine Qg ?_ | refine Qh ?_ | refine Qi ?_ | refine Qj ?_ | refine Qk ?_ | refine Ql ?_ | refine Qm ?_ | refine Qn ?_ | refine Qo ?_ | refine Qp ?_ | refine Qq ?_ | fail)
  refine SX.same 6 (.bool true) rfl (by rw [hfin, hlm, hm24]; simp) ?_
  refine SX.ret (M' := F) rfl (Evals.tmp rfl Evals.nil) ?_ inferInstance
  exact h
end
theorem SlotDirs_any (A : Option Addr) (c : Nat) (b : List Int) (ck ct : Int) (W : World) (hr : Kd.C (Kd.int .u8) W A b.length b) (hc : b.length ≤ c) (hw : b.length ≤ maxLen ∧ ∀ x ∈ b, (Lit.int .u8 x).wf = true) (w1 : (Lit.int .u8 ck).wf = true) (w2 : (Lit.int .u8 ct).wf = true) :
    Calls Try.prog 15 #[.slice A b.length c, .int .u8 ck, .int .u8 ct] W fun e w' => e = .returned (.bool true) ∧ Below W.heap.size W w' :=
  Fn.out W [.per (roR (Kd.int .u8) A b), .per (oldR W)] (Holds.ofStart (Holds.startRow (Holds.start0 W) (Kd.C_F (Kd.heap_int _) hr))) inferInstance
    (SlotDirs_S inferInstance hc (bytesB_of_wf b hw.2) (u8_of_wf _ w1).1 (u8_of_wf _ w1).2 (u8_of_wf _ w2).1 (u8_of_wf _ w2).2 ⟨rfl, inferInstance⟩)
end Go.Proofs.Ytlpjchighfdomaa.Sx
