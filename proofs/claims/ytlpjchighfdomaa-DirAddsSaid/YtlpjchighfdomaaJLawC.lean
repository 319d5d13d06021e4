/- Chapter 8's law DirAdds, walked; conditions: those that each theorem names. -/
import Derived.Test.YtlpjchighfdomaaJU
import Derived.Test.YtlpjchighfdomaaJV
namespace Go.Proofs.Ytlpjchighfdomaa.Sx
open Go.RowKit Go.Proofs.Ytlpjchighfdomaa.Hm Go.Proofs.YtlpjchighfdomaaW.PrintWords Go.Proofs.YtlpjchighfdomaaW.PrintLast Go.Proofs.YtlpjchighfdomaaW.PrintMore
set_option linter.unusedVariables false
set_option linter.unusedSimpArgs false
attribute [local irreducible] SX SXL SXA St callK Post Evals

def inC (n : Nat) (l : List Ent) : List Value := (List.range n).map fun (k : Nat) => .bool (decide ([97 + (k : Int)] ∈ namesOf l))
theorem inC_len (n : Nat) (l : List Ent) : (inC n l).length = n := by simp [inC]
theorem inC_get {n : Nat} {l : List Ent} {k : Nat} (h : k < n) : (inC n l)[k]? = some (.bool (decide ([97 + (k : Int)] ∈ namesOf l))) := by simp [inC, h]
theorem inC_nil (n : Nat) : inC n [] = List.replicate n (.bool false) := by
  unfold inC namesOf
  apply List.ext_getElem?
  intro j
  rcases Nat.lt_or_ge j n with hj | hj <;> simp [hj, List.getElem?_replicate]
theorem inC_set {n : Nat} {l : List Ent} {e : Ent} {k : Nat} (h : k < n) (he : bytesOf e.s = [97 + (k : Int)]) : (inC n l).set k (.bool true) = inC n (l ++ [e]) := by
  apply List.ext_getElem?
  intro j
  rcases Nat.lt_or_ge j n with hj | hj
  · rw [inC_get hj, List.getElem?_set]
    by_cases hkj : k = j
    · subst hkj
      rw [if_pos rfl, if_pos (by rw [inC_len]; exact hj), namesOf_snoc, he]
      simp
    · rw [if_neg hkj, inC_get hj, namesOf_snoc, he]
      congr 3
      simp
      omega
  · rw [List.getElem?_eq_none (by rw [List.length_set, inC_len]; exact hj), List.getElem?_eq_none (by rw [inC_len]; exact hj)]
set_option maxHeartbeats 1000000 in
set_option maxRecDepth 20000 in
theorem DirAdds_S {F : List Thing} {K : Ending → List Thing → Prop} {A : Option Addr} {c : Nat} {b : List Int} (hr : Ro (Kd.int .u8) A F b) (hc : b.length ≤ c) (hb : bytesB b = true) (h : K (.returned (.bool true)) F) :
    Fn (Try.prog) 7 [.slice A b.length c] F K := by
  refine Fn.enter Try.call7 Try.func7 rfl rfl rfl ?_
  repeat (first | refine SXL.pure rfl rfl ?_ | refine SXL.load rfl inferInstance rfl rfl ?_ | refine SXL.store rfl rfl inferInstance rfl ?_ | refine SXL.nil ?_ | refine SX.region ?_ | refine SX.seq ?_ | refine SX.skip ?_ | refine SX.block ?_ | refine SX.endBlock ?_ | refine SX.exit rfl ?_ | refine SX.cond_t rfl (by first | with_reducible rfl | decide) ?_ | refine SX.cond_f rfl (by first | with_reducible rfl | decide) ?_ | refine SXL.guard_t rfl rfl (by first | with_reducible rfl | decide) ?_ | refine SXL.guard_f rfl rfl (by first | with_reducible rfl | decide) rfl ?_ | refine SXL.guard_n rfl rfl (by first | with_reducible rfl | decide) ?_)
  refine SXL.call rfl rfl rfl ?_
  refine (awake08_S (callK.ret ?_))
  repeat (first | refine SXL.pure rfl rfl ?_ | refine SXL.load rfl inferInstance rfl rfl ?_ | refine SXL.store rfl rfl inferInstance rfl ?_ | refine SXL.nil ?_ | refine SX.region ?_ | refine SX.seq ?_ | refine SX.skip ?_ | refine SX.block ?_ | refine SX.endBlock ?_ | refine SX.exit rfl ?_ | refine SX.cond_t rfl (by first | with_reducible rfl | decide) ?_ | refine SX.cond_f rfl (by first | with_reducible rfl | decide) ?_ | refine SXL.guard_t rfl rfl (by first | with_reducible rfl | decide) ?_ | refine SXL.guard_f rfl rfl (by first | with_reducible rfl | decide) rfl ?_ | refine SXL.guard_n rfl rfl (by first | with_reducible rfl | decide) ?_)
  refine SX.condp rfl (fun hl => ?_) (fun hl => ?_)
  · repeat (first | refine SXL.pure rfl rfl ?_ | refine SXL.load rfl inferInstance rfl rfl ?_ | refine SXL.store rfl rfl inferInstance rfl ?_ | refine SXL.nil ?_ | refine SX.region ?_ | refine SX.seq ?_ | refine SX.skip ?_ | refine SX.block ?_ | refine SX.endBlock ?_ | refine SX.exit rfl ?_ | refine SX.cond_t rfl (by first | with_reducible rfl | decide) ?_ | refine SX.cond_f rfl (by first | with_reducible rfl | decide) ?_ | refine SXL.guard_t rfl rfl (by first | with_reducible rfl | decide) ?_ | refine SXL.guard_f rfl rfl (by first | with_reducible rfl | decide) rfl ?_ | refine SXL.guard_n rfl rfl (by first | with_reducible rfl | decide) ?_)
    refine SX.ret (M' := F) rfl (Evals.tmp rfl Evals.nil) ?_ inferInstance
    exact h
  · repeat (first | refine SXL.pure rfl rfl ?_ | refine SXL.load rfl inferInstance rfl rfl ?_ | refine SXL.store rfl rfl inferInstance rfl ?_ | refine SXL.nil ?_ | refine SX.region ?_ | refine SX.seq ?_ | refine SX.skip ?_ | refine SX.block ?_ | refine SX.endBlock ?_ | refine SX.exit rfl ?_ | refine SX.cond_t rfl (by first | with_reducible rfl | decide) ?_ | refine SX.cond_f rfl (by first | with_reducible rfl | decide) ?_ | refine SXL.guard_t rfl rfl (by first | with_reducible rfl | decide) ?_ | refine SXL.guard_f rfl rfl (by first | with_reducible rfl | decide) rfl ?_ | refine SXL.guard_n rfl rfl (by first | with_reducible rfl | decide) ?_)
    refine SXL.make (nb := 1) rfl rfl rfl rfl rfl rfl rfl rfl (by kernel_rfl) (by decide) (by decide) (by decide) rfl (fun g => ?_)
    rw [show Int.toNat 26 = 26 from rfl, ← inC_nil]
    repeat (first | refine SXL.pure rfl rfl ?_ | refine SXL.load rfl inferInstance rfl rfl ?_ | refine SXL.store rfl rfl inferInstance rfl ?_ | refine SXL.nil ?_ | refine SX.region ?_ | refine SX.seq ?_ | refine SX.skip ?_ | refine SX.block ?_ | refine SX.endBlock ?_ | refine SX.exit rfl ?_ | refine SX.cond_t rfl (by first | with_reducible rfl | decide) ?_ | refine SX.cond_f rfl (by first | with_reducible rfl | decide) ?_ | refine SXL.guard_t rfl rfl (by first | with_reducible rfl | decide) ?_ | refine SXL.guard_f rfl rfl (by first | with_reducible rfl | decide) rfl ?_ | refine SXL.guard_n rfl rfl (by first | with_reducible rfl | decide) ?_)
    refine SX.loop (fun n a M => ∃ (i : Nat) (l : List Ent) (A1 : Option Addr) (c1 : Nat), i + n = b.length ∧ l.length ≤ i ∧ lastC l ≤ i ∧ mayOk l ∧ (∀ e ∈ l, e.wf) ∧ l.length ≤ c1 ∧
        a = [(0, .slice A b.length c), (4, .slice A1 l.length c1), (5, .slice (some ⟨g, 0, none⟩) 26 26), (6, .int .i64 i)] ∧ .own A1 (rowR kE 41 (.slice A1 l.length c1) l) :: .own (some ⟨g, 0, none⟩) (cellsR g (inC 26 l) 4) :: F = M)
      b.length ⟨0, [], none, 0, by omega, Nat.le_refl _, by decide, mayOk_nil, by simp, Nat.zero_le _, rfl, rfl⟩ ⟨rfl, rfl, rfl, rfl, trivial⟩ inferInstance ?_
    rintro n _ _ ⟨i, l, A1, c1, hn, hl1, hl2, hl3, hl4, hc1, rfl, rfl⟩
    repeat (first | refine SXL.pure rfl rfl ?_ | refine SXL.load rfl inferInstance rfl rfl ?_ | refine SXL.store rfl rfl inferInstance rfl ?_ | refine SXL.nil ?_ | refine SX.region ?_ | refine SX.seq ?_ | refine SX.skip ?_ | refine SX.block ?_ | refine SX.endBlock ?_ | refine SX.exit rfl ?_ | refine SX.cond_t rfl (by first | with_reducible rfl | decide) ?_ | refine SX.cond_f rfl (by first | with_reducible rfl | decide) ?_ | refine SXL.guard_t rfl rfl (by first | with_reducible rfl | decide) ?_ | refine SXL.guard_f rfl rfl (by first | with_reducible rfl | decide) rfl ?_ | refine SXL.guard_n rfl rfl (by first | with_reducible rfl | decide) ?_)
    refine SX.condp rfl (fun hi => ?_) (fun hi => ?_)
    · refine SX.addr (A := A) (Kd.int .u8) (by decide) (xs := b) (by omega) (fun bb oo e => ?_)
      subst e
      obtain ⟨x, hx⟩ : ∃ x, b[i]? = some x := ⟨_, List.getElem?_eq_getElem (by omega)⟩
      have hx2 := bytesB_at hb hx
      obtain ⟨k, hk⟩ : ∃ k : Nat, (k : Int) = x % 26 := ⟨(x % 26).toNat, by omega⟩
      have hk26 : k < 26 := by omega
      repeat (first | refine SXL.pure rfl rfl ?_ | refine SXL.load rfl inferInstance rfl rfl ?_ | refine SXL.store rfl rfl inferInstance rfl ?_ | refine SXL.nil ?_ | refine SX.region ?_ | refine SX.seq ?_ | refine SX.skip ?_ | refine SX.block ?_ | refine SX.endBlock ?_ | refine SX.exit rfl ?_ | refine SX.cond_t rfl (by first | with_reducible rfl | decide) ?_ | refine SX.cond_f rfl (by first | with_reducible rfl | decide) ?_ | refine SXL.guard_t rfl rfl (by first | with_reducible rfl | decide) ?_ | refine SXL.guard_f rfl rfl (by first | with_reducible rfl | decide) rfl ?_ | refine SXL.guard_n rfl rfl (by first | with_reducible rfl | decide) ?_)
      refine SXL.idx rfl rfl rfl rfl rfl (by omega) (by omega) rfl ?_
      refine SXL.loadRow (Kd.int .u8) rfl rfl inferInstance (by simpa using hx) rfl rfl ?_
      repeat (first | refine SXL.pure rfl rfl ?_ | refine SXL.load rfl inferInstance rfl rfl ?_ | refine SXL.store rfl rfl inferInstance rfl ?_ | refine SXL.nil ?_ | refine SX.region ?_ | refine SX.seq ?_ | refine SX.skip ?_ | refine SX.block ?_ | refine SX.endBlock ?_ | refine SX.exit rfl ?_ | refine SX.cond_t rfl (by first | with_reducible rfl | decide) ?_ | refine SX.cond_f rfl (by first | with_reducible rfl | decide) ?_ | refine SXL.guard_t rfl rfl (by first | with_reducible rfl | decide) ?_ | refine SXL.guard_f rfl rfl (by first | with_reducible rfl | decide) rfl ?_ | refine SXL.guard_n rfl rfl (by first | with_reducible rfl | decide) ?_)
      refine SXL.same 36 (.int .u8 (97 + (k : Int))) rfl (by simp (disch := omega) only [IntWalk.i64_in, IntWalk.u8_in, IntWalk.rem_in, ← hk]) ?_
      refine SXL.same 7 (.int .i64 (k : Int)) rfl (by simp (disch := omega) only [IntWalk.i64_in, IntWalk.u8_in, IntWalk.rem_in, ← hk]) ?_
      refine SXL.lit rfl rfl (fun g2 => ?_)
      refine SXL.litRow (Kd.int .u8) g2 [97 + (k : Int)] inferInstance rfl (fun _ => rfl) (by simp) ?_
      refine SXL.bytesStr rfl inferInstance rfl Try.underlying22 Try.underlying5 Try.underlying9 rfl ?_
      repeat (first | refine SXL.pure rfl rfl ?_ | refine SXL.load rfl inferInstance rfl rfl ?_ | refine SXL.store rfl rfl inferInstance rfl ?_ | refine SXL.nil ?_ | refine SX.region ?_ | refine SX.seq ?_ | refine SX.skip ?_ | refine SX.block ?_ | refine SX.endBlock ?_ | refine SX.exit rfl ?_ | refine SX.cond_t rfl (by first | with_reducible rfl | decide) ?_ | refine SX.cond_f rfl (by first | with_reducible rfl | decide) ?_ | refine SXL.guard_t rfl rfl (by first | with_reducible rfl | decide) ?_ | refine SXL.guard_f rfl rfl (by first | with_reducible rfl | decide) rfl ?_ | refine SXL.guard_n rfl rfl (by first | with_reducible rfl | decide) ?_)
      refine SXL.same 48 (.agg #[.int .u64 ((i : Int) + 1), .int .u32 i, .int .u32 0, .string (strOfNums [97 + (k : Int)])]) rfl (by simp (disch := omega) only [IntWalk.i64_in, IntWalk.u8_in, IntWalk.u32_in, IntWalk.u64_in, IntWalk.rem_in, Int.natCast_add, Int.natCast_one]) ?_
      have hbs : bytesOf (strOfNums [97 + (k : Int)]) = [97 + (k : Int)] := bytes1 (by omega) (by omega)
      have hnm : nameE (bytesOf (strOfNums [97 + (k : Int)])) = 0 := by rw [hbs]; exact name1 (by omega) (by omega)
      refine SXL.call rfl rfl rfl ?_
      refine (Add_S ⟨(i : Int) + 1, i, 0, strOfNums [97 + (k : Int)]⟩ inferInstance hc1 (by omega) (fun r m hm A2 c2 hc2 => callK.ret ?_))
      repeat (first | refine SXL.pure rfl rfl ?_ | refine SXL.load rfl inferInstance rfl rfl ?_ | refine SXL.store rfl rfl inferInstance rfl ?_ | refine SXL.nil ?_ | refine SX.region ?_ | refine SX.seq ?_ | refine SX.skip ?_ | refine SX.block ?_ | refine SX.endBlock ?_ | refine SX.exit rfl ?_ | refine SX.cond_t rfl (by first | with_reducible rfl | decide) ?_ | refine SX.cond_f rfl (by first | with_reducible rfl | decide) ?_ | refine SXL.guard_t rfl rfl (by first | with_reducible rfl | decide) ?_ | refine SXL.guard_f rfl rfl (by first | with_reducible rfl | decide) rfl ?_ | refine SXL.guard_n rfl rfl (by first | with_reducible rfl | decide) ?_)
      refine SXL.idx rfl rfl rfl rfl rfl (by omega) (by omega) rfl ?_
      refine SXL.loadAt rfl inferInstance rfl rfl (by simpa using inC_get hk26) rfl ?_
      repeat (first | refine SXL.pure rfl rfl ?_ | refine SXL.load rfl inferInstance rfl rfl ?_ | refine SXL.store rfl rfl inferInstance rfl ?_ | refine SXL.nil ?_ | refine SX.region ?_ | refine SX.seq ?_ | refine SX.skip ?_ | refine SX.block ?_ | refine SX.endBlock ?_ | refine SX.exit rfl ?_ | refine SX.cond_t rfl (by first | with_reducible rfl | decide) ?_ | refine SX.cond_f rfl (by first | with_reducible rfl | decide) ?_ | refine SXL.guard_t rfl rfl (by first | with_reducible rfl | decide) ?_ | refine SXL.guard_f rfl rfl (by first | with_reducible rfl | decide) rfl ?_ | refine SXL.guard_n rfl rfl (by first | with_reducible rfl | decide) ?_)
      refine SX.condp rfl (fun hin => ?_) (fun hin => ?_)
      · rw [addM_old hnm (by rw [hbs]; exact hin)] at hm
        simp only [Prod.mk.injEq] at hm
        obtain ⟨rfl, rfl⟩ := hm
        repeat (first | refine SXL.pure rfl rfl ?_ | refine SXL.load rfl inferInstance rfl rfl ?_ | refine SXL.store rfl rfl inferInstance rfl ?_ | refine SXL.nil ?_ | refine SX.region ?_ | refine SX.seq ?_ | refine SX.skip ?_ | refine SX.block ?_ | refine SX.endBlock ?_ | refine SX.exit rfl ?_ | refine SX.cond_t rfl (by first | with_reducible rfl | decide) ?_ | refine SX.cond_f rfl (by first | with_reducible rfl | decide) ?_ | refine SXL.guard_t rfl rfl (by first | with_reducible rfl | decide) ?_ | refine SXL.guard_f rfl rfl (by first | with_reducible rfl | decide) rfl ?_ | refine SXL.guard_n rfl rfl (by first | with_reducible rfl | decide) ?_)
        refine SX.same 6 (.int .i64 ((i + 1 : Nat) : Int)) rfl (by simp (disch := omega) only [IntWalk.i64_in, IntWalk.u8_in, IntWalk.u32_in, IntWalk.u64_in, IntWalk.rem_in, Int.natCast_add, Int.natCast_one]) ?_
        refine SX.again (n - 1) (by omega) ⟨i + 1, l, A1, c1, by omega, by omega, by omega, hl3, hl4, hc1, rfl, rfl⟩ ⟨rfl, rfl, rfl, rfl, trivial⟩ inferInstance
      · have hni : bytesOf (strOfNums [97 + (k : Int)]) ∉ namesOf l := by rw [hbs]; exact hin
        obtain ⟨e, he⟩ : ∃ e : Ent, e = ⟨(i : Int) + 1, i, 0, strOfNums [97 + (k : Int)]⟩ := ⟨_, rfl⟩
        have hes : e.s = strOfNums [97 + (k : Int)] := by rw [he]
        have hec : e.c = (i : Int) + 1 := by rw [he]
        have hew : e.wf := by rw [he]; exact ⟨by show 0 ≤ (i : Int) + 1; omega, by show (i : Int) + 1 < _; omega, by show 0 ≤ (i : Int); omega, by show (i : Int) < _; omega, by show (0 : Int) ≤ 0; omega, by show (0 : Int) < _; omega⟩
        rw [← he, addM_new (by rw [hes]; exact hnm) (by rw [hes]; exact hni) (by omega)] at hm
        simp only [Prod.mk.injEq] at hm
        obtain ⟨rfl, rfl⟩ := hm
        have hlen : (l ++ [e]).length = l.length + 1 := by simp
        have hge : (l ++ [e])[l.length]? = some e := by simp
        repeat (first | refine SXL.pure rfl rfl ?_ | refine SXL.load rfl inferInstance rfl rfl ?_ | refine SXL.store rfl rfl inferInstance rfl ?_ | refine SXL.nil ?_ | refine SX.region ?_ | refine SX.seq ?_ | refine SX.skip ?_ | refine SX.block ?_ | refine SX.endBlock ?_ | refine SX.exit rfl ?_ | refine SX.cond_t rfl (by first | with_reducible rfl | decide) ?_ | refine SX.cond_f rfl (by first | with_reducible rfl | decide) ?_ | refine SXL.guard_t rfl rfl (by first | with_reducible rfl | decide) ?_ | refine SXL.guard_f rfl rfl (by first | with_reducible rfl | decide) rfl ?_ | refine SXL.guard_n rfl rfl (by first | with_reducible rfl | decide) ?_)
        refine SXL.know 73 false rfl (by rw [hlen, IntWalk.i64_in _ (by omega)]; simp) ?_
        refine SXL.addr (A := A2) kE (by decide) (xs := l ++ [e]) (by omega) (fun b3 o3 e3 => ?_)
        subst e3
        repeat (first | refine SXL.pure rfl rfl ?_ | refine SXL.load rfl inferInstance rfl rfl ?_ | refine SXL.store rfl rfl inferInstance rfl ?_ | refine SXL.nil ?_ | refine SX.region ?_ | refine SX.seq ?_ | refine SX.skip ?_ | refine SX.block ?_ | refine SX.endBlock ?_ | refine SX.exit rfl ?_ | refine SX.cond_t rfl (by first | with_reducible rfl | decide) ?_ | refine SX.cond_f rfl (by first | with_reducible rfl | decide) ?_ | refine SXL.guard_t rfl rfl (by first | with_reducible rfl | decide) ?_ | refine SXL.guard_f rfl rfl (by first | with_reducible rfl | decide) rfl ?_ | refine SXL.guard_n rfl rfl (by first | with_reducible rfl | decide) ?_)
        refine SXL.idx rfl rfl rfl rfl rfl (by omega) (by omega) rfl ?_
        repeat (first | refine SXL.pure rfl rfl ?_ | refine SXL.load rfl inferInstance rfl rfl ?_ | refine SXL.store rfl rfl inferInstance rfl ?_ | refine SXL.nil ?_ | refine SX.region ?_ | refine SX.seq ?_ | refine SX.skip ?_ | refine SX.block ?_ | refine SX.endBlock ?_ | refine SX.exit rfl ?_ | refine SX.cond_t rfl (by first | with_reducible rfl | decide) ?_ | refine SX.cond_f rfl (by first | with_reducible rfl | decide) ?_ | refine SXL.guard_t rfl rfl (by first | with_reducible rfl | decide) ?_ | refine SXL.guard_f rfl rfl (by first | with_reducible rfl | decide) rfl ?_ | refine SXL.guard_n rfl rfl (by first | with_reducible rfl | decide) ?_)
        refine SXL.loadRow1 kE rfl rfl inferInstance (by rw [Int.toNat_natCast]; exact hge) rfl rfl ?_
        rw [hes]
        repeat (first | refine SXL.pure rfl rfl ?_ | refine SXL.load rfl inferInstance rfl rfl ?_ | refine SXL.store rfl rfl inferInstance rfl ?_ | refine SXL.nil ?_ | refine SX.region ?_ | refine SX.seq ?_ | refine SX.skip ?_ | refine SX.block ?_ | refine SX.endBlock ?_ | refine SX.exit rfl ?_ | refine SX.cond_t rfl (by first | with_reducible rfl | decide) ?_ | refine SX.cond_f rfl (by first | with_reducible rfl | decide) ?_ | refine SXL.guard_t rfl rfl (by first | with_reducible rfl | decide) ?_ | refine SXL.guard_f rfl rfl (by first | with_reducible rfl | decide) rfl ?_ | refine SXL.guard_n rfl rfl (by first | with_reducible rfl | decide) ?_)
        refine SXL.know 83 false rfl (by simp) ?_
        repeat (first | refine SXL.pure rfl rfl ?_ | refine SXL.load rfl inferInstance rfl rfl ?_ | refine SXL.store rfl rfl inferInstance rfl ?_ | refine SXL.nil ?_ | refine SX.region ?_ | refine SX.seq ?_ | refine SX.skip ?_ | refine SX.block ?_ | refine SX.endBlock ?_ | refine SX.exit rfl ?_ | refine SX.cond_t rfl (by first | with_reducible rfl | decide) ?_ | refine SX.cond_f rfl (by first | with_reducible rfl | decide) ?_ | refine SXL.guard_t rfl rfl (by first | with_reducible rfl | decide) ?_ | refine SXL.guard_f rfl rfl (by first | with_reducible rfl | decide) rfl ?_ | refine SXL.guard_n rfl rfl (by first | with_reducible rfl | decide) ?_)
        refine SXL.call rfl rfl rfl ?_
        refine (Find_S (strOfNums [97 + (k : Int)]) inferInstance hc2 (callK.ret ?_))
        rw [find_new (by rw [hes]) hni]
        repeat (first | refine SXL.pure rfl rfl ?_ | refine SXL.load rfl inferInstance rfl rfl ?_ | refine SXL.store rfl rfl inferInstance rfl ?_ | refine SXL.nil ?_ | refine SX.region ?_ | refine SX.seq ?_ | refine SX.skip ?_ | refine SX.block ?_ | refine SX.endBlock ?_ | refine SX.exit rfl ?_ | refine SX.cond_t rfl (by first | with_reducible rfl | decide) ?_ | refine SX.cond_f rfl (by first | with_reducible rfl | decide) ?_ | refine SXL.guard_t rfl rfl (by first | with_reducible rfl | decide) ?_ | refine SXL.guard_f rfl rfl (by first | with_reducible rfl | decide) rfl ?_ | refine SXL.guard_n rfl rfl (by first | with_reducible rfl | decide) ?_)
        refine SXL.know 91 false rfl (by simp) ?_
        repeat (first | refine SXL.pure rfl rfl ?_ | refine SXL.load rfl inferInstance rfl rfl ?_ | refine SXL.store rfl rfl inferInstance rfl ?_ | refine SXL.nil ?_ | refine SX.region ?_ | refine SX.seq ?_ | refine SX.skip ?_ | refine SX.block ?_ | refine SX.endBlock ?_ | refine SX.exit rfl ?_ | refine SX.cond_t rfl (by first | with_reducible rfl | decide) ?_ | refine SX.cond_f rfl (by first | with_reducible rfl | decide) ?_ | refine SXL.guard_t rfl rfl (by first | with_reducible rfl | decide) ?_ | refine SXL.guard_f rfl rfl (by first | with_reducible rfl | decide) rfl ?_ | refine SXL.guard_n rfl rfl (by first | with_reducible rfl | decide) ?_)
        refine SXL.call rfl rfl rfl ?_
        refine (Find_S (strOfNums [97 + (k : Int)]) inferInstance hc1 (callK.ret ?_))
        rw [find_none hni]
        repeat (first | refine SXL.pure rfl rfl ?_ | refine SXL.load rfl inferInstance rfl rfl ?_ | refine SXL.store rfl rfl inferInstance rfl ?_ | refine SXL.nil ?_ | refine SX.region ?_ | refine SX.seq ?_ | refine SX.skip ?_ | refine SX.block ?_ | refine SX.endBlock ?_ | refine SX.exit rfl ?_ | refine SX.cond_t rfl (by first | with_reducible rfl | decide) ?_ | refine SX.cond_f rfl (by first | with_reducible rfl | decide) ?_ | refine SXL.guard_t rfl rfl (by first | with_reducible rfl | decide) ?_ | refine SXL.guard_f rfl rfl (by first | with_reducible rfl | decide) rfl ?_ | refine SXL.guard_n rfl rfl (by first | with_reducible rfl | decide) ?_)
        refine SXL.idx rfl rfl rfl rfl rfl (by omega) (by omega) rfl ?_
        refine SXL.storeAt rfl rfl inferInstance rfl rfl rfl (by rw [inC_len]; simpa using hk26) ?_
        rw [show 0 + ((k : Int)).toNat * i4.size + 0 = k by simp]
        rw [inC_set (e := e) hk26 (by rw [hes, hbs])]
        repeat (first | refine SXL.pure rfl rfl ?_ | refine SXL.load rfl inferInstance rfl rfl ?_ | refine SXL.store rfl rfl inferInstance rfl ?_ | refine SXL.nil ?_ | refine SX.region ?_ | refine SX.seq ?_ | refine SX.skip ?_ | refine SX.block ?_ | refine SX.endBlock ?_ | refine SX.exit rfl ?_ | refine SX.cond_t rfl (by first | with_reducible rfl | decide) ?_ | refine SX.cond_f rfl (by first | with_reducible rfl | decide) ?_ | refine SXL.guard_t rfl rfl (by first | with_reducible rfl | decide) ?_ | refine SXL.guard_f rfl rfl (by first | with_reducible rfl | decide) rfl ?_ | refine SXL.guard_n rfl rfl (by first | with_reducible rfl | decide) ?_)
        refine SX.same 6 (.int .i64 ((i + 1 : Nat) : Int)) rfl (by simp (disch := omega) only [IntWalk.i64_in, IntWalk.u8_in, IntWalk.u32_in, IntWalk.u64_in, IntWalk.rem_in, Int.natCast_add, Int.natCast_one]) ?_
        refine SX.again (n - 1) (by omega) ⟨i + 1, l ++ [e], _, c2, by omega, by omega, by rw [lastC_snoc]; omega, mayOk_snoc.2 ⟨hl3, ?_⟩, ?_, hc2, rfl, rfl⟩ ⟨rfl, rfl, rfl, rfl, trivial⟩ inferInstance
        · rw [addM_new (by rw [hes]; exact hnm) (by rw [hes]; exact hni) (by omega)]
        · intro x hx
          rcases List.mem_append.1 hx with hx | hx
          · exact hl4 x hx
          · rw [List.mem_singleton.1 hx]; exact hew
    · repeat (first | refine SXL.pure rfl rfl ?_ | refine SXL.load rfl inferInstance rfl rfl ?_ | refine SXL.store rfl rfl inferInstance rfl ?_ | refine SXL.nil ?_ | refine SX.region ?_ | refine SX.seq ?_ | refine SX.skip ?_ | refine SX.block ?_ | refine SX.endBlock ?_ | refine SX.exit rfl ?_ | refine SX.cond_t rfl (by first | with_reducible rfl | decide) ?_ | refine SX.cond_f rfl (by first | with_reducible rfl | decide) ?_ | refine SXL.guard_t rfl rfl (by first | with_reducible rfl | decide) ?_ | refine SXL.guard_f rfl rfl (by first | with_reducible rfl | decide) rfl ?_ | refine SXL.guard_n rfl rfl (by first | with_reducible rfl | decide) ?_)
      refine SXL.call rfl rfl rfl ?_
      refine (Put_S inferInstance hc1 (by omega) hl4 (fun r m hm A2 c2 hc2 => callK.ret ?_))
      rw [mayOk_putM hl3] at hm
      simp only [Prod.mk.injEq] at hm
      obtain ⟨rfl, rfl⟩ := hm
      have hlb := flat_len l (mayOk_len hl3)
      have hbb := bytesB_flatE hl4 (mayOk_len hl3)
      repeat (first | refine SXL.pure rfl rfl ?_ | refine SXL.load rfl inferInstance rfl rfl ?_ | refine SXL.store rfl rfl inferInstance rfl ?_ | refine SXL.nil ?_ | refine SX.region ?_ | refine SX.seq ?_ | refine SX.skip ?_ | refine SX.block ?_ | refine SX.endBlock ?_ | refine SX.exit rfl ?_ | refine SX.cond_t rfl (by first | with_reducible rfl | decide) ?_ | refine SX.cond_f rfl (by first | with_reducible rfl | decide) ?_ | refine SXL.guard_t rfl rfl (by first | with_reducible rfl | decide) ?_ | refine SXL.guard_f rfl rfl (by first | with_reducible rfl | decide) rfl ?_ | refine SXL.guard_n rfl rfl (by first | with_reducible rfl | decide) ?_)
      refine SXL.call rfl rfl rfl ?_
      refine (Get_S inferInstance hc2 hbb (by omega) (fun r m hm A3 c3 hc3 => callK.ret ?_))
      rw [putM_get hl4 (mayOk_putM hl3)] at hm
      simp only [Prod.mk.injEq] at hm
      obtain ⟨rfl, rfl⟩ := hm
      repeat (first | refine SXL.pure rfl rfl ?_ | refine SXL.load rfl inferInstance rfl rfl ?_ | refine SXL.store rfl rfl inferInstance rfl ?_ | refine SXL.nil ?_ | refine SX.region ?_ | refine SX.seq ?_ | refine SX.skip ?_ | refine SX.block ?_ | refine SX.endBlock ?_ | refine SX.exit rfl ?_ | refine SX.cond_t rfl (by first | with_reducible rfl | decide) ?_ | refine SX.cond_f rfl (by first | with_reducible rfl | decide) ?_ | refine SXL.guard_t rfl rfl (by first | with_reducible rfl | decide) ?_ | refine SXL.guard_f rfl rfl (by first | with_reducible rfl | decide) rfl ?_ | refine SXL.guard_n rfl rfl (by first | with_reducible rfl | decide) ?_)
      refine SXL.call rfl rfl rfl ?_
      refine (entriesOf_S inferInstance hc3 (by omega) (fun A4 c4 hc4 => callK.ret ?_))
      repeat (first | refine SXL.pure rfl rfl ?_ | refine SXL.load rfl inferInstance rfl rfl ?_ | refine SXL.store rfl rfl inferInstance rfl ?_ | refine SXL.nil ?_ | refine SX.region ?_ | refine SX.seq ?_ | refine SX.skip ?_ | refine SX.block ?_ | refine SX.endBlock ?_ | refine SX.exit rfl ?_ | refine SX.cond_t rfl (by first | with_reducible rfl | decide) ?_ | refine SX.cond_f rfl (by first | with_reducible rfl | decide) ?_ | refine SXL.guard_t rfl rfl (by first | with_reducible rfl | decide) ?_ | refine SXL.guard_f rfl rfl (by first | with_reducible rfl | decide) rfl ?_ | refine SXL.guard_n rfl rfl (by first | with_reducible rfl | decide) ?_)
      refine SXL.call rfl rfl rfl ?_
      refine (entriesOf_S inferInstance hc1 (by omega) (fun A5 c5 hc5 => callK.ret ?_))
      repeat (first | refine SXL.pure rfl rfl ?_ | refine SXL.load rfl inferInstance rfl rfl ?_ | refine SXL.store rfl rfl inferInstance rfl ?_ | refine SXL.nil ?_ | refine SX.region ?_ | refine SX.seq ?_ | refine SX.skip ?_ | refine SX.block ?_ | refine SX.endBlock ?_ | refine SX.exit rfl ?_ | refine SX.cond_t rfl (by first | with_reducible rfl | decide) ?_ | refine SX.cond_f rfl (by first | with_reducible rfl | decide) ?_ | refine SXL.guard_t rfl rfl (by first | with_reducible rfl | decide) ?_ | refine SXL.guard_f rfl rfl (by first | with_reducible rfl | decide) rfl ?_ | refine SXL.guard_n rfl rfl (by first | with_reducible rfl | decide) ?_)
      refine SXL.call rfl rfl rfl ?_
      refine (Same_S inferInstance inferInstance hc4 hc5 (callK.ret ?_))
      repeat (first | refine SXL.pure rfl rfl ?_ | refine SXL.load rfl inferInstance rfl rfl ?_ | refine SXL.store rfl rfl inferInstance rfl ?_ | refine SXL.nil ?_ | refine SX.region ?_ | refine SX.seq ?_ | refine SX.skip ?_ | refine SX.block ?_ | refine SX.endBlock ?_ | refine SX.exit rfl ?_ | refine SX.cond_t rfl (by first | with_reducible rfl | decide) ?_ | refine SX.cond_f rfl (by first | with_reducible rfl | decide) ?_ | refine SXL.guard_t rfl rfl (by first | with_reducible rfl | decide) ?_ | refine SXL.guard_f rfl rfl (by first | with_reducible rfl | decide) rfl ?_ | refine SXL.guard_n rfl rfl (by first | with_reducible rfl | decide) ?_)
      refine SX.ret (M' := F) rfl (Evals.tmp rfl Evals.nil) ?_ inferInstance
      exact h
theorem DirAdds_any (A : Option Addr) (c : Nat) (b : List Int) (W : World) (hr : Kd.C (Kd.int .u8) W A b.length b) (hc : b.length ≤ c) (hw : b.length ≤ maxLen ∧ ∀ x ∈ b, (Lit.int .u8 x).wf = true) :
    Calls Try.prog 7 #[.slice A b.length c] W fun e w' => e = .returned (.bool true) ∧ Below W.heap.size W w' :=
  Fn.out W [.per (roR (Kd.int .u8) A b), .per (oldR W)] (Holds.ofStart (Holds.startRow (Holds.start0 W) (Kd.C_F (Kd.heap_int _) hr))) inferInstance
    (DirAdds_S inferInstance hc (bytesB_of_wf b hw.2) ⟨rfl, inferInstance⟩)
end Go.Proofs.Ytlpjchighfdomaa.Sx
