/- Chapter 8's law DirReads, walked; conditions: those that each theorem names. -/
import Derived.Test.YtlpjchighfdomaaJU
import Derived.Test.YtlpjchighfdomaaJV3
namespace Go.Proofs.Ytlpjchighfdomaa.Sx
open Go.RowKit Go.Proofs.Ytlpjchighfdomaa.Hm Go.Proofs.YtlpjchighfdomaaW.PrintWords Go.Proofs.YtlpjchighfdomaaW.PrintLast Go.Proofs.YtlpjchighfdomaaW.PrintMore
set_option linter.unusedVariables false
set_option linter.unusedSimpArgs false
attribute [local irreducible] SX SXL SXA St callK Post Evals

theorem andI_u8_1 (x : Int) (h0 : 0 ≤ x) (h1 : x < 256) : andI .u8 x 1 = x % 2 := by
  obtain ⟨n, rfl⟩ := Int.eq_ofNat_of_zero_le h0
  have key : ∀ m : Fin 256, andI .u8 ((m.val : Nat) : Int) 1 = ((m.val : Nat) : Int) % 2 := by decide +kernel
  exact key ⟨n, by omega⟩
theorem shrI_u8_1 (x : Int) (h0 : 0 ≤ x) (h1 : x < 256) : shrI .u8 x 1 = x / 2 := by
  obtain ⟨n, rfl⟩ := Int.eq_ofNat_of_zero_le h0
  have key : ∀ m : Fin 256, shrI .u8 ((m.val : Nat) : Int) 1 = ((m.val : Nat) : Int) / 2 := by decide +kernel
  exact key ⟨n, by omega⟩
/-- What holds of who reads on: u is told, v not yet. -/
structure RdI (n i ck sn : Nat) (u v : List Nat) (ts : Nat → Int) : Prop where
  srt : (u ++ v).Pairwise (· < ·)
  rng : ∀ k ∈ u ++ v, 1 ≤ k ∧ k ≤ ck ∧ k ≠ 47
  n12 : n ≤ 12
  nck : n ≤ ck
  ckn : ck ≤ n + i
  i40 : i ≤ 40
  sck : sn ≤ ck
  pa : ∀ k ∈ u, k ≤ sn ∧ ts k = 1
  qa : ∀ k ∈ v, sn < k
  tz : ∀ k, sn < k → ts k = 0
  t01 : ∀ k, ts k = 0 ∨ ts k = 1
theorem RdI.start {n : Nat} (hn : n ≤ 12) : RdI n 0 n 0 [] (List.range' 1 n) (fun _ => 0) where
  srt := by rw [List.nil_append]; exact List.pairwise_lt_range'
  rng := fun k hk => by rw [List.nil_append, List.mem_range'_1] at hk; omega
  n12 := hn
  nck := Nat.le_refl _
  ckn := Nat.le_refl _
  i40 := by omega
  sck := by omega
  pa := by simp
  qa := fun k hk => by rw [List.mem_range'_1] at hk; omega
  tz := fun _ _ => rfl
  t01 := fun _ => .inl rfl
theorem lt_len {ks : List Nat} {n : Nat} (hs : ks.Pairwise (· < ·)) (h : ∀ k ∈ ks, k < n) : ks.length ≤ n := by
  have h1 : ks.length = (ks.map id).length := by simp
  have h2 : ks ⊆ List.range n := fun k hk => List.mem_range.2 (h k hk)
  have h3 := (nodup_of_lt hs).length_le_of_subset h2
  simpa using h3
theorem RdI.small {n i ck sn : Nat} {u v : List Nat} {ts : Nat → Int} (h : RdI n i ck sn u v ts) : (u ++ v).length ≤ 100 ∧ (∀ k ∈ u ++ v, k < 100) ∧ ck < 60 :=
  have hr : ∀ k ∈ u ++ v, k < 100 := fun k hk => by have := h.rng k hk; have := h.ckn; have := h.n12; have := h.i40; omega
  ⟨lt_len h.srt hr, hr, by have := h.ckn; have := h.n12; have := h.i40; omega⟩
theorem RdI.add {n i ck sn : Nat} {u v : List Nat} {ts : Nat → Int} (h : RdI n i ck sn u v ts) (hi : i + 1 ≤ 40) (h47 : ck + 1 ≠ 47) : RdI n (i + 1) (ck + 1) sn u (v ++ [ck + 1]) ts where
  srt := by
    rw [← List.append_assoc]
    refine List.pairwise_append.2 ⟨h.srt, by simp, fun a ha b hb => ?_⟩
    rw [List.mem_singleton.1 hb]
    have := (h.rng a ha).2.1
    omega
  rng := fun k hk => by
    rw [← List.append_assoc] at hk
    rcases List.mem_append.1 hk with hk | hk
    · have := h.rng k hk; omega
    · rw [List.mem_singleton.1 hk]; omega
  n12 := h.n12
  nck := by have := h.nck; omega
  ckn := by have := h.ckn; omega
  i40 := hi
  sck := by have := h.sck; omega
  pa := h.pa
  qa := fun k hk => by
    rcases List.mem_append.1 hk with hk | hk
    · exact h.qa k hk
    · rw [List.mem_singleton.1 hk]; have := h.sck; omega
  tz := h.tz
  t01 := h.t01
theorem RdI.skip {n i ck ck' sn : Nat} {u v : List Nat} {ts : Nat → Int} (h : RdI n i ck sn u v ts) (hi : i + 1 ≤ 40) (h1 : ck ≤ ck') (h2 : ck' ≤ ck + 1) : RdI n (i + 1) ck' sn u v ts where
  srt := h.srt
  rng := fun k hk => by have := h.rng k hk; omega
  n12 := h.n12
  nck := by have := h.nck; omega
  ckn := by have := h.ckn; omega
  i40 := hi
  sck := by have := h.sck; omega
  pa := h.pa
  qa := h.qa
  tz := h.tz
  t01 := h.t01
theorem RdI.filter {n i ck sn : Nat} {u v : List Nat} {ts : Nat → Int} (h : RdI n i ck sn u v ts) (hi : i + 1 ≤ 40) (p : Nat → Bool) : RdI n (i + 1) ck sn (u.filter p) (v.filter p) ts where
  srt := by rw [← List.filter_append]; exact h.srt.sublist List.filter_sublist
  rng := fun k hk => by rw [← List.filter_append] at hk; exact h.rng k (List.mem_filter.1 hk).1
  n12 := h.n12
  nck := h.nck
  ckn := by have := h.ckn; omega
  i40 := hi
  sck := h.sck
  pa := fun k hk => h.pa k (List.mem_filter.1 hk).1
  qa := fun k hk => h.qa k (List.mem_filter.1 hk).1
  tz := h.tz
  t01 := h.t01
theorem RdI.tell {n i ck sn e : Nat} {u v : List Nat} {ts : Nat → Int} (h : RdI n i ck sn u (e :: v) ts) : RdI n i ck e (u ++ [e]) v (fun k => if k = e then 1 else ts k) where
  srt := by rw [List.append_assoc, List.singleton_append]; exact h.srt
  rng := fun k hk => h.rng k (by simpa using hk)
  n12 := h.n12
  nck := h.nck
  ckn := h.ckn
  i40 := h.i40
  sck := (h.rng e (by simp)).2.1
  pa := fun k hk => by
    have hse := h.qa e List.mem_cons_self
    rcases List.mem_append.1 hk with hk | hk
    · have h1 := h.pa k hk
      rw [if_neg (by omega)]
      exact ⟨by omega, h1.2⟩
    · rw [List.mem_singleton.1 hk]
      simp
  qa := fun k hk => List.rel_of_pairwise_cons (List.pairwise_append.1 h.srt).2.1 hk
  tz := fun k hk => by
    have hse := h.qa e List.mem_cons_self
    rw [if_neg (by omega)]
    exact h.tz k (by omega)
  t01 := fun k => by
    split
    · exact .inr rfl
    · exact h.t01 k
set_option maxHeartbeats 2000000 in
set_option maxRecDepth 20000 in
theorem DirReads_S {F : List Thing} {K : Ending → List Thing → Prop} {A B : Option Addr} {c d : Nat} {b q : List Int} {n0 : Int} (hr : Ro (Kd.int .u8) A F b) (hc : b.length ≤ c) (hr2 : Ro (Kd.int .u8) B F q) (hd : q.length ≤ d) (hq : bytesB q = true) (hn0 : 0 ≤ n0) (h : K (.returned (.bool true)) F) :
    Fn (Try.prog) 5 [.slice A b.length c, .int .u8 n0, .slice B q.length d] F K := by
  refine Fn.enter Try.call5 Try.func5 rfl rfl rfl ?_
  obtain ⟨m, hm⟩ : ∃ m : Nat, (m : Int) = n0 % 3 + 1 := ⟨(n0 % 3 + 1).toNat, by omega⟩
  have hm1 : 1 ≤ m ∧ m ≤ 3 := by omega
  repeat (first | refine SXL.pure rfl rfl ?_ | refine SXL.load rfl inferInstance rfl rfl ?_ | refine SXL.store rfl rfl inferInstance rfl ?_ | refine SXL.nil ?_ | refine SX.region ?_ | refine SX.seq ?_ | refine SX.skip ?_ | refine SX.block ?_ | refine SX.endBlock ?_ | refine SX.exit rfl ?_ | refine SX.cond_t rfl (by first | with_reducible rfl | decide) ?_ | refine SX.cond_f rfl (by first | with_reducible rfl | decide) ?_ | refine SXL.guard_t rfl rfl (by first | with_reducible rfl | decide) ?_ | refine SXL.guard_f rfl rfl (by first | with_reducible rfl | decide) rfl ?_ | refine SXL.guard_n rfl rfl (by first | with_reducible rfl | decide) ?_)
  refine SXL.call rfl rfl rfl ?_
  refine (awake08_S (callK.ret ?_))
  repeat (first | refine SXL.pure rfl rfl ?_ | refine SXL.load rfl inferInstance rfl rfl ?_ | refine SXL.store rfl rfl inferInstance rfl ?_ | refine SXL.nil ?_ | refine SX.region ?_ | refine SX.seq ?_ | refine SX.skip ?_ | refine SX.block ?_ | refine SX.endBlock ?_ | refine SX.exit rfl ?_ | refine SX.cond_t rfl (by first | with_reducible rfl | decide) ?_ | refine SX.cond_f rfl (by first | with_reducible rfl | decide) ?_ | refine SXL.guard_t rfl rfl (by first | with_reducible rfl | decide) ?_ | refine SXL.guard_f rfl rfl (by first | with_reducible rfl | decide) rfl ?_ | refine SXL.guard_n rfl rfl (by first | with_reducible rfl | decide) ?_)
  by_cases hl : 12 < b.length
  · refine SXL.know 32 true rfl (by simp; omega) ?_
    repeat (first | refine SXL.pure rfl rfl ?_ | refine SXL.load rfl inferInstance rfl rfl ?_ | refine SXL.store rfl rfl inferInstance rfl ?_ | refine SXL.nil ?_ | refine SX.region ?_ | refine SX.seq ?_ | refine SX.skip ?_ | refine SX.block ?_ | refine SX.endBlock ?_ | refine SX.exit rfl ?_ | refine SX.cond_t rfl (by first | with_reducible rfl | decide) ?_ | refine SX.cond_f rfl (by first | with_reducible rfl | decide) ?_ | refine SXL.guard_t rfl rfl (by first | with_reducible rfl | decide) ?_ | refine SXL.guard_f rfl rfl (by first | with_reducible rfl | decide) rfl ?_ | refine SXL.guard_n rfl rfl (by first | with_reducible rfl | decide) ?_)
    refine SX.ret (M' := F) rfl (Evals.tmp rfl Evals.nil) ?_ inferInstance
    exact h
  refine SXL.know 32 false rfl (by simp; omega) ?_
  repeat (first | refine SXL.pure rfl rfl ?_ | refine SXL.load rfl inferInstance rfl rfl ?_ | refine SXL.store rfl rfl inferInstance rfl ?_ | refine SXL.nil ?_ | refine SX.region ?_ | refine SX.seq ?_ | refine SX.skip ?_ | refine SX.block ?_ | refine SX.endBlock ?_ | refine SX.exit rfl ?_ | refine SX.cond_t rfl (by first | with_reducible rfl | decide) ?_ | refine SX.cond_f rfl (by first | with_reducible rfl | decide) ?_ | refine SXL.guard_t rfl rfl (by first | with_reducible rfl | decide) ?_ | refine SXL.guard_f rfl rfl (by first | with_reducible rfl | decide) rfl ?_ | refine SXL.guard_n rfl rfl (by first | with_reducible rfl | decide) ?_)
  refine SX.condp rfl (fun hl2 => ?_) (fun hl2 => ?_)
  · repeat (first | refine SXL.pure rfl rfl ?_ | refine SXL.load rfl inferInstance rfl rfl ?_ | refine SXL.store rfl rfl inferInstance rfl ?_ | refine SXL.nil ?_ | refine SX.region ?_ | refine SX.seq ?_ | refine SX.skip ?_ | refine SX.block ?_ | refine SX.endBlock ?_ | refine SX.exit rfl ?_ | refine SX.cond_t rfl (by first | with_reducible rfl | decide) ?_ | refine SX.cond_f rfl (by first | with_reducible rfl | decide) ?_ | refine SXL.guard_t rfl rfl (by first | with_reducible rfl | decide) ?_ | refine SXL.guard_f rfl rfl (by first | with_reducible rfl | decide) rfl ?_ | refine SXL.guard_n rfl rfl (by first | with_reducible rfl | decide) ?_)
    refine SX.ret (M' := F) rfl (Evals.tmp rfl Evals.nil) ?_ inferInstance
    exact h
  obtain ⟨n, hn⟩ : ∃ n, b.length = n := ⟨_, rfl⟩
  repeat (first | refine SXL.pure rfl rfl ?_ | refine SXL.load rfl inferInstance rfl rfl ?_ | refine SXL.store rfl rfl inferInstance rfl ?_ | refine SXL.nil ?_ | refine SX.region ?_ | refine SX.seq ?_ | refine SX.skip ?_ | refine SX.block ?_ | refine SX.endBlock ?_ | refine SX.exit rfl ?_ | refine SX.cond_t rfl (by first | with_reducible rfl | decide) ?_ | refine SX.cond_f rfl (by first | with_reducible rfl | decide) ?_ | refine SXL.guard_t rfl rfl (by first | with_reducible rfl | decide) ?_ | refine SXL.guard_f rfl rfl (by first | with_reducible rfl | decide) rfl ?_ | refine SXL.guard_n rfl rfl (by first | with_reducible rfl | decide) ?_)
  refine SXL.make (nb := 1) rfl rfl rfl rfl rfl rfl rfl rfl (by kernel_rfl) (by decide) (by decide) (by decide) rfl (fun g => ?_)
  rw [show Int.toNat 100 = 100 from rfl, ← tabV_rep]
  repeat (first | refine SXL.pure rfl rfl ?_ | refine SXL.load rfl inferInstance rfl rfl ?_ | refine SXL.store rfl rfl inferInstance rfl ?_ | refine SXL.nil ?_ | refine SX.region ?_ | refine SX.seq ?_ | refine SX.skip ?_ | refine SX.block ?_ | refine SX.endBlock ?_ | refine SX.exit rfl ?_ | refine SX.cond_t rfl (by first | with_reducible rfl | decide) ?_ | refine SX.cond_f rfl (by first | with_reducible rfl | decide) ?_ | refine SXL.guard_t rfl rfl (by first | with_reducible rfl | decide) ?_ | refine SXL.guard_f rfl rfl (by first | with_reducible rfl | decide) rfl ?_ | refine SXL.guard_n rfl rfl (by first | with_reducible rfl | decide) ?_)
  refine SX.loop (fun z a M => ∃ (i : Nat) (A1 : Option Addr) (c1 : Nat), i + z = b.length ∧ ((List.range' 1 i).map (entR b.length)).length ≤ c1 ∧
      a = [(0, .slice A b.length c), (1, .int .u8 n0), (2, .slice B q.length d), (8, .slice A1 ((List.range' 1 i).map (entR b.length)).length c1), (9, .slice (some ⟨g, 0, none⟩) 100 100), (10, .int .u64 i), (11, .int .i64 i)] ∧
      .own A1 (rowR kE 41 (.slice A1 ((List.range' 1 i).map (entR b.length)).length c1) ((List.range' 1 i).map (entR b.length))) :: .own (some ⟨g, 0, none⟩) (cellsR g (tabV 100 (fun k => .bool (decide (1 ≤ k ∧ k ≤ i)))) 4) :: F = M)
    b.length ⟨0, none, 0, by omega, Nat.le_refl _, rfl, rfl⟩ ⟨rfl, rfl, rfl, rfl, rfl, rfl, rfl, trivial⟩ (show Sub _ (.own none (rowR kE 41 (.slice none ([] : List Ent).length 0) []) :: .own (some ⟨g, 0, none⟩) (cellsR g (tabV 100 (fun k => .bool (decide (1 ≤ k ∧ k ≤ 0)))) 4) :: F) from by
      rw [show tabV 100 (fun k => .bool (decide (1 ≤ k ∧ k ≤ 0))) = tabV 100 (fun _ => .bool false) from tabV_congr (fun k _ => by simp; omega)]
      infer_instance) ?_
  rintro z _ _ ⟨i, A1, c1, hz, hc1, rfl, rfl⟩
  have hlen1 : ((List.range' 1 i).map (entR b.length)).length = i := by simp
  repeat (first | refine SXL.pure rfl rfl ?_ | refine SXL.load rfl inferInstance rfl rfl ?_ | refine SXL.store rfl rfl inferInstance rfl ?_ | refine SXL.nil ?_ | refine SX.region ?_ | refine SX.seq ?_ | refine SX.skip ?_ | refine SX.block ?_ | refine SX.endBlock ?_ | refine SX.exit rfl ?_ | refine SX.cond_t rfl (by first | with_reducible rfl | decide) ?_ | refine SX.cond_f rfl (by first | with_reducible rfl | decide) ?_ | refine SXL.guard_t rfl rfl (by first | with_reducible rfl | decide) ?_ | refine SXL.guard_f rfl rfl (by first | with_reducible rfl | decide) rfl ?_ | refine SXL.guard_n rfl rfl (by first | with_reducible rfl | decide) ?_)
  refine SX.condp rfl (fun hi => ?_) (fun hi => ?_)
  · repeat (first | refine SXL.pure rfl rfl ?_ | refine SXL.load rfl inferInstance rfl rfl ?_ | refine SXL.store rfl rfl inferInstance rfl ?_ | refine SXL.nil ?_ | refine SX.region ?_ | refine SX.seq ?_ | refine SX.skip ?_ | refine SX.block ?_ | refine SX.endBlock ?_ | refine SX.exit rfl ?_ | refine SX.cond_t rfl (by first | with_reducible rfl | decide) ?_ | refine SX.cond_f rfl (by first | with_reducible rfl | decide) ?_ | refine SXL.guard_t rfl rfl (by first | with_reducible rfl | decide) ?_ | refine SXL.guard_f rfl rfl (by first | with_reducible rfl | decide) rfl ?_ | refine SXL.guard_n rfl rfl (by first | with_reducible rfl | decide) ?_)
    refine SXL.same 51 (.int .u8 (97 + (i : Int))) rfl (by simp (disch := omega) only [IntWalk.i64_in, IntWalk.u8_in, IntWalk.u32_in, IntWalk.u64_in, IntWalk.rem_in, Int.natCast_add, Int.natCast_one]) ?_
    refine SXL.lit rfl rfl (fun g2 => ?_)
    refine SXL.litRow (Kd.int .u8) g2 [110, 97 + (i : Int)] inferInstance rfl (fun _ => rfl) (by simp) ?_
    refine SXL.bytesStr rfl inferInstance rfl Try.underlying22 Try.underlying5 Try.underlying9 rfl ?_
    repeat (first | refine SXL.pure rfl rfl ?_ | refine SXL.load rfl inferInstance rfl rfl ?_ | refine SXL.store rfl rfl inferInstance rfl ?_ | refine SXL.nil ?_ | refine SX.region ?_ | refine SX.seq ?_ | refine SX.skip ?_ | refine SX.block ?_ | refine SX.endBlock ?_ | refine SX.exit rfl ?_ | refine SX.cond_t rfl (by first | with_reducible rfl | decide) ?_ | refine SX.cond_f rfl (by first | with_reducible rfl | decide) ?_ | refine SXL.guard_t rfl rfl (by first | with_reducible rfl | decide) ?_ | refine SXL.guard_f rfl rfl (by first | with_reducible rfl | decide) rfl ?_ | refine SXL.guard_n rfl rfl (by first | with_reducible rfl | decide) ?_)
    refine SXL.same 10 (.int .u64 ((i + 1 : Nat) : Int)) rfl (by simp (disch := omega) only [IntWalk.i64_in, IntWalk.u8_in, IntWalk.u32_in, IntWalk.u64_in, IntWalk.rem_in, Int.natCast_add, Int.natCast_one]) ?_
    refine SXL.same 54 (.agg #[.int .u64 (entR b.length (i + 1)).c, .int .u32 0, .int .u32 0, .string (entR b.length (i + 1)).s]) rfl ?_ ?_
    · show Value.agg #[.int .u64 (IntKind.u64.wrap ((i : Int) + 1)), .int .u32 0, .int .u32 0, .string (strOfNums [110, 97 + (i : Int)])] = Value.agg #[.int .u64 ((i + 1 : Nat) : Int), .int .u32 0, .int .u32 0, .string (strOfNums (nmR b.length (i + 1)))]
      rw [IntWalk.u64_in _ (by omega)]
      unfold nmR
      rw [if_pos (by omega), show (97 : Int) + i = 96 + ((i + 1 : Nat) : Int) by omega]
      rfl
    refine SXL.call rfl rfl rfl ?_
    refine (Add_S (entR b.length (i + 1)) inferInstance hc1 (by omega) (fun r e hm A2 c2 hc2 => callK.ret ?_))
    rw [key_add (fun _ => rfl) (c := i) (fun k hk => by have := List.mem_range'_1.1 hk; omega) (by omega) (fun k hk hkk => entR_inj (by have := List.mem_range'_1.1 hk; omega) (by omega) hkk) (entR_name (by omega) (by omega) (by omega) (by omega))] at hm
    rw [show List.range' 1 i ++ [i + 1] = List.range' 1 (i + 1) by rw [List.range'_1_concat, Nat.add_comm 1 i]] at hm
    simp only [Prod.mk.injEq] at hm
    obtain ⟨rfl, rfl⟩ := hm
    repeat (first | refine SXL.pure rfl rfl ?_ | refine SXL.load rfl inferInstance rfl rfl ?_ | refine SXL.store rfl rfl inferInstance rfl ?_ | refine SXL.nil ?_ | refine SX.region ?_ | refine SX.seq ?_ | refine SX.skip ?_ | refine SX.block ?_ | refine SX.endBlock ?_ | refine SX.exit rfl ?_ | refine SX.cond_t rfl (by first | with_reducible rfl | decide) ?_ | refine SX.cond_f rfl (by first | with_reducible rfl | decide) ?_ | refine SXL.guard_t rfl rfl (by first | with_reducible rfl | decide) ?_ | refine SXL.guard_f rfl rfl (by first | with_reducible rfl | decide) rfl ?_ | refine SXL.guard_n rfl rfl (by first | with_reducible rfl | decide) ?_)
    refine SXL.idx rfl rfl rfl rfl rfl (by omega) (by omega) rfl ?_
    refine SXL.storeAt rfl rfl inferInstance rfl rfl rfl (by rw [tabV_len]; show 0 + (((i + 1 : Nat) : Int)).toNat * 1 + 0 < 100; rw [Int.toNat_natCast]; omega) ?_
    rw [show 0 + (((i + 1 : Nat) : Int)).toNat * i4.size + 0 = i + 1 by rw [Int.toNat_natCast]; show 0 + (i + 1) * 1 + 0 = i + 1; omega]
    rw [tabV_set (g := fun k => .bool (decide (1 ≤ k ∧ k ≤ i + 1))) (by simp) (fun j hj => by congr 1; exact decide_eq_decide.2 ⟨fun h => by omega, fun h => by omega⟩)]
    repeat (first | refine SXL.pure rfl rfl ?_ | refine SXL.load rfl inferInstance rfl rfl ?_ | refine SXL.store rfl rfl inferInstance rfl ?_ | refine SXL.nil ?_ | refine SX.region ?_ | refine SX.seq ?_ | refine SX.skip ?_ | refine SX.block ?_ | refine SX.endBlock ?_ | refine SX.exit rfl ?_ | refine SX.cond_t rfl (by first | with_reducible rfl | decide) ?_ | refine SX.cond_f rfl (by first | with_reducible rfl | decide) ?_ | refine SXL.guard_t rfl rfl (by first | with_reducible rfl | decide) ?_ | refine SXL.guard_f rfl rfl (by first | with_reducible rfl | decide) rfl ?_ | refine SXL.guard_n rfl rfl (by first | with_reducible rfl | decide) ?_)
    refine SX.same 11 (.int .i64 ((i + 1 : Nat) : Int)) rfl (by simp (disch := omega) only [IntWalk.i64_in, IntWalk.u8_in, IntWalk.u32_in, IntWalk.u64_in, IntWalk.rem_in, Int.natCast_add, Int.natCast_one]) ?_
    refine SX.again (z - 1) (by omega) ⟨i + 1, A2, c2, by omega, hc2, rfl, rfl⟩ ⟨rfl, rfl, rfl, rfl, rfl, rfl, rfl, trivial⟩ inferInstance
  obtain rfl : i = b.length := by omega
  repeat (first | refine SXL.pure rfl rfl ?_ | refine SXL.load rfl inferInstance rfl rfl ?_ | refine SXL.store rfl rfl inferInstance rfl ?_ | refine SXL.nil ?_ | refine SX.region ?_ | refine SX.seq ?_ | refine SX.skip ?_ | refine SX.block ?_ | refine SX.endBlock ?_ | refine SX.exit rfl ?_ | refine SX.cond_t rfl (by first | with_reducible rfl | decide) ?_ | refine SX.cond_f rfl (by first | with_reducible rfl | decide) ?_ | refine SXL.guard_t rfl rfl (by first | with_reducible rfl | decide) ?_ | refine SXL.guard_f rfl rfl (by first | with_reducible rfl | decide) rfl ?_ | refine SXL.guard_n rfl rfl (by first | with_reducible rfl | decide) ?_)
  refine SXL.make (nb := 8) rfl rfl rfl rfl rfl rfl rfl rfl (by kernel_rfl) (by decide) (by decide) (by decide) rfl (fun t => ?_)
  rw [show Int.toNat 100 = 100 from rfl, ← tabV_rep]
  repeat (first | refine SXL.pure rfl rfl ?_ | refine SXL.load rfl inferInstance rfl rfl ?_ | refine SXL.store rfl rfl inferInstance rfl ?_ | refine SXL.nil ?_ | refine SX.region ?_ | refine SX.seq ?_ | refine SX.skip ?_ | refine SX.block ?_ | refine SX.endBlock ?_ | refine SX.exit rfl ?_ | refine SX.cond_t rfl (by first | with_reducible rfl | decide) ?_ | refine SX.cond_f rfl (by first | with_reducible rfl | decide) ?_ | refine SXL.guard_t rfl rfl (by first | with_reducible rfl | decide) ?_ | refine SXL.guard_f rfl rfl (by first | with_reducible rfl | decide) rfl ?_ | refine SXL.guard_n rfl rfl (by first | with_reducible rfl | decide) ?_)
  refine SX.loop (fun z a M => ∃ (i : Nat) (A1 : Option Addr) (c1 ck sn : Nat) (u v : List Nat) (ts : Nat → Int), i ≤ q.length ∧ z = (q.length - i) * 200 + v.length ∧ RdI b.length i ck sn u v ts ∧ ((u ++ v).map (entR b.length)).length ≤ c1 ∧
      a = [(0, .slice A b.length c), (1, .int .u8 n0), (2, .slice B q.length d), (8, .slice A1 ((u ++ v).map (entR b.length)).length c1), (9, .slice (some ⟨g, 0, none⟩) 100 100), (10, .int .u64 ck), (14, .slice (some ⟨t, 0, none⟩) 100 100), (15, .int .u64 sn), (16, .int .i64 i)] ∧
      .own A1 (rowR kE 41 (.slice A1 ((u ++ v).map (entR b.length)).length c1) ((u ++ v).map (entR b.length))) :: .own (some ⟨g, 0, none⟩) (cellsR g (tabV 100 (fun k => .bool (decide (k ∈ u ++ v ∧ k ≤ b.length)))) 4) :: .own (some ⟨t, 0, none⟩) (cellsR t (tabV 100 (fun k => .int .i64 (ts k))) 3) :: F = M)
    _ ⟨0, A1, c1, b.length, 0, [], List.range' 1 b.length, fun _ => 0, by omega, rfl, RdI.start (by omega), hc1, rfl, rfl⟩ ⟨rfl, rfl, rfl, rfl, rfl, rfl, rfl, rfl, rfl, trivial⟩ (by
      rw [show tabV 100 (fun k => Value.bool (decide (k ∈ [] ++ List.range' 1 b.length ∧ k ≤ b.length))) = tabV 100 (fun k => .bool (decide (1 ≤ k ∧ k ≤ b.length))) from tabV_congr (fun k _ => by congr 1; refine decide_eq_decide.2 ?_; rw [List.nil_append, List.mem_range'_1]; omega)]
      rw [List.nil_append]
      infer_instance) ?_
  clear hz hi hlen1 hc1
  rintro z _ _ ⟨i, A1, c1, ck, sn, u, v, ts, hi, rfl, hI, hc1, rfl, rfl⟩
  have hlen1 : ((u ++ v).map (entR b.length)).length = (u ++ v).length := by simp
  have hb100 := hI.small
  repeat (first | refine SXL.pure rfl rfl ?_ | refine SXL.load rfl inferInstance rfl rfl ?_ | refine SXL.store rfl rfl inferInstance rfl ?_ | refine SXL.nil ?_ | refine SX.region ?_ | refine SX.seq ?_ | refine SX.skip ?_ | refine SX.block ?_ | refine SX.endBlock ?_ | refine SX.exit rfl ?_ | refine SX.cond_t rfl (by first | with_reducible rfl | decide) ?_ | refine SX.cond_f rfl (by first | with_reducible rfl | decide) ?_ | refine SXL.guard_t rfl rfl (by first | with_reducible rfl | decide) ?_ | refine SXL.guard_f rfl rfl (by first | with_reducible rfl | decide) rfl ?_ | refine SXL.guard_n rfl rfl (by first | with_reducible rfl | decide) ?_)
  refine SX.condp rfl (fun hi2 => ?_) (fun hi2 => ?_)
  rotate_left
  · exact absurd hi2 (by omega)
  repeat (first | refine SXL.pure rfl rfl ?_ | refine SXL.load rfl inferInstance rfl rfl ?_ | refine SXL.store rfl rfl inferInstance rfl ?_ | refine SXL.nil ?_ | refine SX.region ?_ | refine SX.seq ?_ | refine SX.skip ?_ | refine SX.block ?_ | refine SX.endBlock ?_ | refine SX.exit rfl ?_ | refine SX.cond_t rfl (by first | with_reducible rfl | decide) ?_ | refine SX.cond_f rfl (by first | with_reducible rfl | decide) ?_ | refine SXL.guard_t rfl rfl (by first | with_reducible rfl | decide) ?_ | refine SXL.guard_f rfl rfl (by first | with_reducible rfl | decide) rfl ?_ | refine SXL.guard_n rfl rfl (by first | with_reducible rfl | decide) ?_)
  refine SXL.same 77 (.int .i64 (m : Int)) rfl (by simp (disch := omega) only [IntWalk.i64_in, IntWalk.rem_in, ← hm]) ?_
  refine SXL.call rfl rfl rfl ?_
  refine (After_S (sn : Int) (m : Int) inferInstance hc1 (by omega) (by omega) (by omega) (fun r b3 hm3 A3 c3 hc3 => callK.ret ?_))
  rw [List.map_append, afterM_split (fun e he => by obtain ⟨k, hk, rfl⟩ := List.mem_map.1 he; have := (hI.pa k hk).1; show (k : Int) ≤ sn; omega) (fun e he => by obtain ⟨k, hk, rfl⟩ := List.mem_map.1 he; have := hI.qa k hk; show (sn : Int) < k; omega), Int.toNat_natCast, ← List.map_take, List.length_map] at hm3
  simp only [Prod.mk.injEq] at hm3
  obtain ⟨rfl, rfl⟩ := hm3
  repeat (first | refine SXL.pure rfl rfl ?_ | refine SXL.load rfl inferInstance rfl rfl ?_ | refine SXL.store rfl rfl inferInstance rfl ?_ | refine SXL.nil ?_ | refine SX.region ?_ | refine SX.seq ?_ | refine SX.skip ?_ | refine SX.block ?_ | refine SX.endBlock ?_ | refine SX.exit rfl ?_ | refine SX.cond_t rfl (by first | with_reducible rfl | decide) ?_ | refine SX.cond_f rfl (by first | with_reducible rfl | decide) ?_ | refine SXL.guard_t rfl rfl (by first | with_reducible rfl | decide) ?_ | refine SXL.guard_f rfl rfl (by first | with_reducible rfl | decide) rfl ?_ | refine SXL.guard_n rfl rfl (by first | with_reducible rfl | decide) ?_)
  refine SX.loop (fun z a M => ∃ (x y : List Nat) (sn : Nat) (ts : Nat → Int), y.length = z ∧ v.take m = x ++ y ∧ RdI b.length i ck sn (u ++ x) (y ++ v.drop m) ts ∧
      a = [(0, .slice A b.length c), (1, .int .u8 n0), (2, .slice B q.length d), (8, .slice A1 ((u ++ v).map (entR b.length)).length c1), (9, .slice (some ⟨g, 0, none⟩) 100 100), (10, .int .u64 ck), (14, .slice (some ⟨t, 0, none⟩) 100 100), (15, .int .u64 sn), (16, .int .i64 i), (17, .slice A3 ((v.take m).map (entR b.length)).length c3), (18, .bool (decide (min m v.length = v.length))), (19, .int .i64 (x.length : Int))] ∧
      .own A3 (rowR kE 41 (.slice A3 ((v.take m).map (entR b.length)).length c3) ((v.take m).map (entR b.length))) :: .own A1 (rowR kE 41 (.slice A1 ((u ++ v).map (entR b.length)).length c1) ((u ++ v).map (entR b.length))) :: .own (some ⟨g, 0, none⟩) (cellsR g (tabV 100 (fun k => .bool (decide (k ∈ u ++ v ∧ k ≤ b.length)))) 4) :: .own (some ⟨t, 0, none⟩) (cellsR t (tabV 100 (fun k => .int .i64 (ts k))) 3) :: F = M)
    _ ⟨[], v.take m, sn, ts, rfl, rfl, by rw [List.append_nil, List.take_append_drop]; exact hI, rfl, rfl⟩ ⟨rfl, rfl, rfl, rfl, rfl, rfl, rfl, rfl, rfl, rfl, rfl, rfl, trivial⟩ inferInstance ?_
  rintro z _ _ ⟨x, y, s2, ts2, rfl, hxy, hI2, rfl, rfl⟩
  have hlx : ((v.take m).map (entR b.length)).length = x.length + y.length := by rw [List.length_map, hxy, List.length_append]
  have hb2 := hI2.small
  have hx3 : x.length + y.length ≤ 3 := by
    have h9 := congrArg List.length hxy
    rw [List.length_take, List.length_append] at h9
    omega
  repeat (first | refine SXL.pure rfl rfl ?_ | refine SXL.load rfl inferInstance rfl rfl ?_ | refine SXL.store rfl rfl inferInstance rfl ?_ | refine SXL.nil ?_ | refine SX.region ?_ | refine SX.seq ?_ | refine SX.skip ?_ | refine SX.block ?_ | refine SX.endBlock ?_ | refine SX.exit rfl ?_ | refine SX.cond_t rfl (by first | with_reducible rfl | decide) ?_ | refine SX.cond_f rfl (by first | with_reducible rfl | decide) ?_ | refine SXL.guard_t rfl rfl (by first | with_reducible rfl | decide) ?_ | refine SXL.guard_f rfl rfl (by first | with_reducible rfl | decide) rfl ?_ | refine SXL.guard_n rfl rfl (by first | with_reducible rfl | decide) ?_)
  refine SX.condp rfl (fun hj => ?_) (fun hj => ?_)
  · obtain ⟨e, y, rfl⟩ : ∃ e y', y = e :: y' := by cases y with
      | nil => rw [hlx] at hj; simp at hj
      | cons e y => exact ⟨e, y, rfl⟩
    have hge : ((v.take m).map (entR b.length))[x.length]? = some (entR b.length e) := by rw [hxy]; simp
    have hes : s2 < e := hI2.qa e (by simp)
    have her := hI2.rng e (by simp)
    refine SX.addr (A := A3) kE (by decide) (xs := (v.take m).map (entR b.length)) (by omega) (fun b3 o3 e3 => ?_)
    subst e3
    repeat (first | refine SXL.pure rfl rfl ?_ | refine SXL.load rfl inferInstance rfl rfl ?_ | refine SXL.store rfl rfl inferInstance rfl ?_ | refine SXL.nil ?_ | refine SX.region ?_ | refine SX.seq ?_ | refine SX.skip ?_ | refine SX.block ?_ | refine SX.endBlock ?_ | refine SX.exit rfl ?_ | refine SX.cond_t rfl (by first | with_reducible rfl | decide) ?_ | refine SX.cond_f rfl (by first | with_reducible rfl | decide) ?_ | refine SXL.guard_t rfl rfl (by first | with_reducible rfl | decide) ?_ | refine SXL.guard_f rfl rfl (by first | with_reducible rfl | decide) rfl ?_ | refine SXL.guard_n rfl rfl (by first | with_reducible rfl | decide) ?_)
    refine SXL.idx rfl rfl rfl rfl rfl (by omega) (by omega) rfl ?_
    repeat (first | refine SXL.pure rfl rfl ?_ | refine SXL.load rfl inferInstance rfl rfl ?_ | refine SXL.store rfl rfl inferInstance rfl ?_ | refine SXL.nil ?_ | refine SX.region ?_ | refine SX.seq ?_ | refine SX.skip ?_ | refine SX.block ?_ | refine SX.endBlock ?_ | refine SX.exit rfl ?_ | refine SX.cond_t rfl (by first | with_reducible rfl | decide) ?_ | refine SX.cond_f rfl (by first | with_reducible rfl | decide) ?_ | refine SXL.guard_t rfl rfl (by first | with_reducible rfl | decide) ?_ | refine SXL.guard_f rfl rfl (by first | with_reducible rfl | decide) rfl ?_ | refine SXL.guard_n rfl rfl (by first | with_reducible rfl | decide) ?_)
    refine SXL.loadRow1 kE rfl rfl inferInstance (by rw [Int.toNat_natCast]; exact hge) rfl rfl ?_
    repeat (first | refine SXL.pure rfl rfl ?_ | refine SXL.load rfl inferInstance rfl rfl ?_ | refine SXL.store rfl rfl inferInstance rfl ?_ | refine SXL.nil ?_ | refine SX.region ?_ | refine SX.seq ?_ | refine SX.skip ?_ | refine SX.block ?_ | refine SX.endBlock ?_ | refine SX.exit rfl ?_ | refine SX.cond_t rfl (by first | with_reducible rfl | decide) ?_ | refine SX.cond_f rfl (by first | with_reducible rfl | decide) ?_ | refine SXL.guard_t rfl rfl (by first | with_reducible rfl | decide) ?_ | refine SXL.guard_f rfl rfl (by first | with_reducible rfl | decide) rfl ?_ | refine SXL.guard_n rfl rfl (by first | with_reducible rfl | decide) ?_)
    refine SXL.know 94 false rfl (by show decide ((e : Int) ≤ s2) = false; simp; omega) ?_
    repeat (first | refine SXL.pure rfl rfl ?_ | refine SXL.load rfl inferInstance rfl rfl ?_ | refine SXL.store rfl rfl inferInstance rfl ?_ | refine SXL.nil ?_ | refine SX.region ?_ | refine SX.seq ?_ | refine SX.skip ?_ | refine SX.block ?_ | refine SX.endBlock ?_ | refine SX.exit rfl ?_ | refine SX.cond_t rfl (by first | with_reducible rfl | decide) ?_ | refine SX.cond_f rfl (by first | with_reducible rfl | decide) ?_ | refine SXL.guard_t rfl rfl (by first | with_reducible rfl | decide) ?_ | refine SXL.guard_f rfl rfl (by first | with_reducible rfl | decide) rfl ?_ | refine SXL.guard_n rfl rfl (by first | with_reducible rfl | decide) ?_)
    refine SXL.idx rfl rfl rfl rfl rfl (by omega) (by omega) rfl ?_
    repeat (first | refine SXL.pure rfl rfl ?_ | refine SXL.load rfl inferInstance rfl rfl ?_ | refine SXL.store rfl rfl inferInstance rfl ?_ | refine SXL.nil ?_ | refine SX.region ?_ | refine SX.seq ?_ | refine SX.skip ?_ | refine SX.block ?_ | refine SX.endBlock ?_ | refine SX.exit rfl ?_ | refine SX.cond_t rfl (by first | with_reducible rfl | decide) ?_ | refine SX.cond_f rfl (by first | with_reducible rfl | decide) ?_ | refine SXL.guard_t rfl rfl (by first | with_reducible rfl | decide) ?_ | refine SXL.guard_f rfl rfl (by first | with_reducible rfl | decide) rfl ?_ | refine SXL.guard_n rfl rfl (by first | with_reducible rfl | decide) ?_)
    refine SXL.loadRow1 kE rfl rfl inferInstance (by rw [Int.toNat_natCast]; exact hge) rfl rfl ?_
    repeat (first | refine SXL.pure rfl rfl ?_ | refine SXL.load rfl inferInstance rfl rfl ?_ | refine SXL.store rfl rfl inferInstance rfl ?_ | refine SXL.nil ?_ | refine SX.region ?_ | refine SX.seq ?_ | refine SX.skip ?_ | refine SX.block ?_ | refine SX.endBlock ?_ | refine SX.exit rfl ?_ | refine SX.cond_t rfl (by first | with_reducible rfl | decide) ?_ | refine SX.cond_f rfl (by first | with_reducible rfl | decide) ?_ | refine SXL.guard_t rfl rfl (by first | with_reducible rfl | decide) ?_ | refine SXL.guard_f rfl rfl (by first | with_reducible rfl | decide) rfl ?_ | refine SXL.guard_n rfl rfl (by first | with_reducible rfl | decide) ?_)
    refine SX.know 101 false rfl (by show decide ((99 : Int) < e) = false; simp; omega) ?_
    repeat (first | refine SXL.pure rfl rfl ?_ | refine SXL.load rfl inferInstance rfl rfl ?_ | refine SXL.store rfl rfl inferInstance rfl ?_ | refine SXL.nil ?_ | refine SX.region ?_ | refine SX.seq ?_ | refine SX.skip ?_ | refine SX.block ?_ | refine SX.endBlock ?_ | refine SX.exit rfl ?_ | refine SX.cond_t rfl (by first | with_reducible rfl | decide) ?_ | refine SX.cond_f rfl (by first | with_reducible rfl | decide) ?_ | refine SXL.guard_t rfl rfl (by first | with_reducible rfl | decide) ?_ | refine SXL.guard_f rfl rfl (by first | with_reducible rfl | decide) rfl ?_ | refine SXL.guard_n rfl rfl (by first | with_reducible rfl | decide) ?_)
    refine SXL.idx rfl rfl rfl rfl rfl (by omega) (by omega) rfl ?_
    repeat (first | refine SXL.pure rfl rfl ?_ | refine SXL.load rfl inferInstance rfl rfl ?_ | refine SXL.store rfl rfl inferInstance rfl ?_ | refine SXL.nil ?_ | refine SX.region ?_ | refine SX.seq ?_ | refine SX.skip ?_ | refine SX.block ?_ | refine SX.endBlock ?_ | refine SX.exit rfl ?_ | refine SX.cond_t rfl (by first | with_reducible rfl | decide) ?_ | refine SX.cond_f rfl (by first | with_reducible rfl | decide) ?_ | refine SXL.guard_t rfl rfl (by first | with_reducible rfl | decide) ?_ | refine SXL.guard_f rfl rfl (by first | with_reducible rfl | decide) rfl ?_ | refine SXL.guard_n rfl rfl (by first | with_reducible rfl | decide) ?_)
    refine SXL.loadRow1 kE rfl rfl inferInstance (by rw [Int.toNat_natCast]; exact hge) rfl rfl ?_
    repeat (first | refine SXL.pure rfl rfl ?_ | refine SXL.load rfl inferInstance rfl rfl ?_ | refine SXL.store rfl rfl inferInstance rfl ?_ | refine SXL.nil ?_ | refine SX.region ?_ | refine SX.seq ?_ | refine SX.skip ?_ | refine SX.block ?_ | refine SX.endBlock ?_ | refine SX.exit rfl ?_ | refine SX.cond_t rfl (by first | with_reducible rfl | decide) ?_ | refine SX.cond_f rfl (by first | with_reducible rfl | decide) ?_ | refine SXL.guard_t rfl rfl (by first | with_reducible rfl | decide) ?_ | refine SXL.guard_f rfl rfl (by first | with_reducible rfl | decide) rfl ?_ | refine SXL.guard_n rfl rfl (by first | with_reducible rfl | decide) ?_)
    refine SXL.same 108 (.int .u64 (e : Int)) rfl rfl ?_
    refine SXL.same 15 (.int .u64 (e : Int)) rfl rfl ?_
    refine SXL.idx rfl rfl rfl rfl rfl (by omega) (by omega) rfl ?_
    refine SXL.loadAt rfl inferInstance rfl rfl (by rw [show 0 + ((e : Int)).toNat * i3.size + 0 = e by rw [Int.toNat_natCast]; show 0 + e * 1 + 0 = e; omega]; exact tabV_get (by omega)) rfl ?_
    repeat (first | refine SXL.pure rfl rfl ?_ | refine SXL.load rfl inferInstance rfl rfl ?_ | refine SXL.store rfl rfl inferInstance rfl ?_ | refine SXL.nil ?_ | refine SX.region ?_ | refine SX.seq ?_ | refine SX.skip ?_ | refine SX.block ?_ | refine SX.endBlock ?_ | refine SX.exit rfl ?_ | refine SX.cond_t rfl (by first | with_reducible rfl | decide) ?_ | refine SX.cond_f rfl (by first | with_reducible rfl | decide) ?_ | refine SXL.guard_t rfl rfl (by first | with_reducible rfl | decide) ?_ | refine SXL.guard_f rfl rfl (by first | with_reducible rfl | decide) rfl ?_ | refine SXL.guard_n rfl rfl (by first | with_reducible rfl | decide) ?_)
    refine SXL.same 111 (.int .i64 1) rfl (by rw [hI2.tz e hes]; rfl) ?_
    refine SXL.idx rfl rfl rfl rfl rfl (by omega) (by omega) rfl ?_
    refine SXL.storeAt rfl rfl inferInstance rfl rfl rfl (by rw [tabV_len, Int.toNat_natCast]; show 0 + e * 1 + 0 < 100; omega) ?_
    rw [show 0 + ((e : Int)).toNat * i3.size + 0 = e by rw [Int.toNat_natCast]; show 0 + e * 1 + 0 = e; omega]
    rw [tabV_set (g := fun k => .int .i64 (if k = e then 1 else ts2 k)) (by simp) (fun j hj => by simp [hj])]
    repeat (first | refine SXL.pure rfl rfl ?_ | refine SXL.load rfl inferInstance rfl rfl ?_ | refine SXL.store rfl rfl inferInstance rfl ?_ | refine SXL.nil ?_ | refine SX.region ?_ | refine SX.seq ?_ | refine SX.skip ?_ | refine SX.block ?_ | refine SX.endBlock ?_ | refine SX.exit rfl ?_ | refine SX.cond_t rfl (by first | with_reducible rfl | decide) ?_ | refine SX.cond_f rfl (by first | with_reducible rfl | decide) ?_ | refine SXL.guard_t rfl rfl (by first | with_reducible rfl | decide) ?_ | refine SXL.guard_f rfl rfl (by first | with_reducible rfl | decide) rfl ?_ | refine SXL.guard_n rfl rfl (by first | with_reducible rfl | decide) ?_)
    refine SX.same 19 (.int .i64 ((x ++ [e]).length : Int)) rfl (by rw [List.length_append, List.length_singleton, IntWalk.i64_in _ (by omega)]; rfl) ?_
    refine SX.again y.length (by simp) ⟨x ++ [e], y, e, _, rfl, by simpa using hxy, by rw [← List.append_assoc]; exact hI2.tell, rfl, rfl⟩ ⟨rfl, rfl, rfl, rfl, rfl, rfl, rfl, rfl, rfl, rfl, rfl, rfl, trivial⟩ inferInstance
  obtain rfl : y = [] := by
    cases y with
    | nil => rfl
    | cons e y => rw [hlx] at hj; simp at hj; omega
  rw [List.append_nil] at hxy
  rw [List.nil_append] at hI2
  subst hxy
  have huv : u ++ v = (u ++ v.take m) ++ v.drop m := by rw [List.append_assoc, List.take_append_drop]
  have hvl : (v.drop m).length = v.length - m := List.length_drop
  have hxl : ((v.take m).map (entR b.length)).length = min m v.length := by rw [List.length_map, List.length_take]
  have hmin : decide (min m v.length = v.length) = decide (v.length ≤ m) := decide_eq_decide.2 (by omega)
  have hc1' : ((u ++ v.take m ++ v.drop m).map (entR b.length)).length ≤ c1 := by rw [List.append_assoc, List.take_append_drop]; exact hc1
  rw [hmin, huv] at *
  generalize hvm : v.drop m = v' at *
  generalize hum : u ++ v.take m = u' at *
  clear hI hb2 hx3 hlx hj
  have hI := hI2
  clear hI2
  have hb2 := hI.small
  have hlen2 : ((u' ++ v').map (entR b.length)).length = (u' ++ v').length := by simp
  repeat (first | refine SX.seq ?_ | refine SX.skip ?_ | refine SX.block ?_ | refine SX.endBlock ?_ | refine SX.exit rfl ?_ | refine SX.cond_t rfl (by first | with_reducible rfl | decide) ?_ | refine SX.cond_f rfl (by first | with_reducible rfl | decide) ?_)
  refine SX.cut (fun a M => a = [(0, .slice A b.length c), (1, .int .u8 n0), (2, .slice B q.length d), (8, .slice A1 ((u' ++ v').map (entR b.length)).length c1), (9, .slice (some ⟨g, 0, none⟩) 100 100), (10, .int .u64 ck), (14, .slice (some ⟨t, 0, none⟩) 100 100), (15, .int .u64 s2), (16, .int .i64 i), (17, .slice A3 ((v.take m).map (entR b.length)).length c3), (119, .bool (decide (v.length ≤ m ∧ i = q.length)))] ∧
      .own A1 (rowR kE 41 (.slice A1 ((u' ++ v').map (entR b.length)).length c1) ((u' ++ v').map (entR b.length))) :: .own (some ⟨g, 0, none⟩) (cellsR g (tabV 100 (fun k => .bool (decide (k ∈ u' ++ v' ∧ k ≤ b.length)))) 4) :: .own (some ⟨t, 0, none⟩) (cellsR t (tabV 100 (fun k => .int .i64 (ts2 k))) 3) :: F = M) ?_ ?_
  · by_cases hall : v.length ≤ m
    · refine SX.know 18 true rfl (by simpa using hall) ?_
      repeat (first | refine SXL.pure rfl rfl ?_ | refine SXL.load rfl inferInstance rfl rfl ?_ | refine SXL.store rfl rfl inferInstance rfl ?_ | refine SXL.nil ?_ | refine SX.region ?_ | refine SX.seq ?_ | refine SX.skip ?_ | refine SX.block ?_ | refine SX.endBlock ?_ | refine SX.exit rfl ?_ | refine SX.cond_t rfl (by first | with_reducible rfl | decide) ?_ | refine SX.cond_f rfl (by first | with_reducible rfl | decide) ?_ | refine SXL.guard_t rfl rfl (by first | with_reducible rfl | decide) ?_ | refine SXL.guard_f rfl rfl (by first | with_reducible rfl | decide) rfl ?_ | refine SXL.guard_n rfl rfl (by first | with_reducible rfl | decide) ?_)
      refine SX.same 119 (.bool (decide (v.length ≤ m ∧ i = q.length))) rfl (by congr 1; exact decide_eq_decide.2 ⟨fun h => by omega, fun h => by omega⟩) ?_
      refine SX.meet ⟨rfl, rfl⟩ (by repeat (first | exact trivial | refine ⟨rfl, ?_⟩)) inferInstance
    · refine SX.know 18 false rfl (by simpa using hall) ?_
      repeat (first | refine SXL.pure rfl rfl ?_ | refine SXL.load rfl inferInstance rfl rfl ?_ | refine SXL.store rfl rfl inferInstance rfl ?_ | refine SXL.nil ?_ | refine SX.region ?_ | refine SX.seq ?_ | refine SX.skip ?_ | refine SX.block ?_ | refine SX.endBlock ?_ | refine SX.exit rfl ?_ | refine SX.cond_t rfl (by first | with_reducible rfl | decide) ?_ | refine SX.cond_f rfl (by first | with_reducible rfl | decide) ?_ | refine SXL.guard_t rfl rfl (by first | with_reducible rfl | decide) ?_ | refine SXL.guard_f rfl rfl (by first | with_reducible rfl | decide) rfl ?_ | refine SXL.guard_n rfl rfl (by first | with_reducible rfl | decide) ?_)
      refine SX.same 119 (.bool (decide (v.length ≤ m ∧ i = q.length))) rfl (by congr 1; exact (decide_eq_false (by omega)).symm) ?_
      refine SX.meet ⟨rfl, rfl⟩ (by repeat (first | exact trivial | refine ⟨rfl, ?_⟩)) inferInstance
  rintro _ _ ⟨rfl, rfl⟩
  repeat (first | refine SXL.pure rfl rfl ?_ | refine SXL.load rfl inferInstance rfl rfl ?_ | refine SXL.store rfl rfl inferInstance rfl ?_ | refine SXL.nil ?_ | refine SX.region ?_ | refine SX.seq ?_ | refine SX.skip ?_ | refine SX.block ?_ | refine SX.endBlock ?_ | refine SX.exit rfl ?_ | refine SX.cond_t rfl (by first | with_reducible rfl | decide) ?_ | refine SX.cond_f rfl (by first | with_reducible rfl | decide) ?_ | refine SXL.guard_t rfl rfl (by first | with_reducible rfl | decide) ?_ | refine SXL.guard_f rfl rfl (by first | with_reducible rfl | decide) rfl ?_ | refine SXL.guard_n rfl rfl (by first | with_reducible rfl | decide) ?_)
  refine SX.condp rfl (fun hend => ?_) (fun hend => ?_)
  · obtain rfl : v' = [] := List.eq_nil_of_length_eq_zero (by omega)
    rw [List.append_nil] at *
    repeat (first | refine SXL.pure rfl rfl ?_ | refine SXL.load rfl inferInstance rfl rfl ?_ | refine SXL.store rfl rfl inferInstance rfl ?_ | refine SXL.nil ?_ | refine SX.region ?_ | refine SX.seq ?_ | refine SX.skip ?_ | refine SX.block ?_ | refine SX.endBlock ?_ | refine SX.exit rfl ?_ | refine SX.cond_t rfl (by first | with_reducible rfl | decide) ?_ | refine SX.cond_f rfl (by first | with_reducible rfl | decide) ?_ | refine SXL.guard_t rfl rfl (by first | with_reducible rfl | decide) ?_ | refine SXL.guard_f rfl rfl (by first | with_reducible rfl | decide) rfl ?_ | refine SXL.guard_n rfl rfl (by first | with_reducible rfl | decide) ?_)
    refine SX.loop (fun z a M => ∃ k : Nat, 1 ≤ k ∧ k + z = b.length + 1 ∧
        a = [(0, .slice A b.length c), (9, .slice (some ⟨g, 0, none⟩) 100 100), (14, .slice (some ⟨t, 0, none⟩) 100 100), (25, .int .i64 k)] ∧
        .own (some ⟨g, 0, none⟩) (cellsR g (tabV 100 (fun k => .bool (decide (k ∈ u' ∧ k ≤ b.length)))) 4) :: .own (some ⟨t, 0, none⟩) (cellsR t (tabV 100 (fun k => .int .i64 (ts2 k))) 3) :: F = M)
      b.length ⟨1, by omega, by omega, rfl, rfl⟩ ⟨rfl, rfl, rfl, rfl, trivial⟩ inferInstance ?_
    rintro z _ _ ⟨k, hk1, hk2, rfl, rfl⟩
    have hoff : ∀ s, s = 1 → 0 + ((k : Int)).toNat * s + 0 = k := fun s e => by subst e; rw [Int.toNat_natCast]; omega
    repeat (first | refine SXL.pure rfl rfl ?_ | refine SXL.load rfl inferInstance rfl rfl ?_ | refine SXL.store rfl rfl inferInstance rfl ?_ | refine SXL.nil ?_ | refine SX.region ?_ | refine SX.seq ?_ | refine SX.skip ?_ | refine SX.block ?_ | refine SX.endBlock ?_ | refine SX.exit rfl ?_ | refine SX.cond_t rfl (by first | with_reducible rfl | decide) ?_ | refine SX.cond_f rfl (by first | with_reducible rfl | decide) ?_ | refine SXL.guard_t rfl rfl (by first | with_reducible rfl | decide) ?_ | refine SXL.guard_f rfl rfl (by first | with_reducible rfl | decide) rfl ?_ | refine SXL.guard_n rfl rfl (by first | with_reducible rfl | decide) ?_)
    refine SX.condp rfl (fun hk => ?_) (fun hk => ?_)
    · repeat (first | refine SXL.pure rfl rfl ?_ | refine SXL.load rfl inferInstance rfl rfl ?_ | refine SXL.store rfl rfl inferInstance rfl ?_ | refine SXL.nil ?_ | refine SX.region ?_ | refine SX.seq ?_ | refine SX.skip ?_ | refine SX.block ?_ | refine SX.endBlock ?_ | refine SX.exit rfl ?_ | refine SX.cond_t rfl (by first | with_reducible rfl | decide) ?_ | refine SX.cond_f rfl (by first | with_reducible rfl | decide) ?_ | refine SXL.guard_t rfl rfl (by first | with_reducible rfl | decide) ?_ | refine SXL.guard_f rfl rfl (by first | with_reducible rfl | decide) rfl ?_ | refine SXL.guard_n rfl rfl (by first | with_reducible rfl | decide) ?_)
      refine SXL.idx rfl rfl rfl rfl rfl (by omega) (by omega) rfl ?_
      refine SXL.loadAt rfl inferInstance rfl rfl (by rw [hoff _ rfl]; exact tabV_get (by omega)) rfl ?_
      repeat (first | refine SXL.pure rfl rfl ?_ | refine SXL.load rfl inferInstance rfl rfl ?_ | refine SXL.store rfl rfl inferInstance rfl ?_ | refine SXL.nil ?_ | refine SX.region ?_ | refine SX.seq ?_ | refine SX.skip ?_ | refine SX.block ?_ | refine SX.endBlock ?_ | refine SX.exit rfl ?_ | refine SX.cond_t rfl (by first | with_reducible rfl | decide) ?_ | refine SX.cond_f rfl (by first | with_reducible rfl | decide) ?_ | refine SXL.guard_t rfl rfl (by first | with_reducible rfl | decide) ?_ | refine SXL.guard_f rfl rfl (by first | with_reducible rfl | decide) rfl ?_ | refine SXL.guard_n rfl rfl (by first | with_reducible rfl | decide) ?_)
      refine SXL.know 204 false rfl (by have := hI.t01 k; simp; omega) ?_
      repeat (first | refine SXL.pure rfl rfl ?_ | refine SXL.load rfl inferInstance rfl rfl ?_ | refine SXL.store rfl rfl inferInstance rfl ?_ | refine SXL.nil ?_ | refine SX.region ?_ | refine SX.seq ?_ | refine SX.skip ?_ | refine SX.block ?_ | refine SX.endBlock ?_ | refine SX.exit rfl ?_ | refine SX.cond_t rfl (by first | with_reducible rfl | decide) ?_ | refine SX.cond_f rfl (by first | with_reducible rfl | decide) ?_ | refine SXL.guard_t rfl rfl (by first | with_reducible rfl | decide) ?_ | refine SXL.guard_f rfl rfl (by first | with_reducible rfl | decide) rfl ?_ | refine SXL.guard_n rfl rfl (by first | with_reducible rfl | decide) ?_)
      refine SXL.idx rfl rfl rfl rfl rfl (by omega) (by omega) rfl ?_
      repeat (first | refine SXL.pure rfl rfl ?_ | refine SXL.load rfl inferInstance rfl rfl ?_ | refine SXL.store rfl rfl inferInstance rfl ?_ | refine SXL.nil ?_ | refine SX.region ?_ | refine SX.seq ?_ | refine SX.skip ?_ | refine SX.block ?_ | refine SX.endBlock ?_ | refine SX.exit rfl ?_ | refine SX.cond_t rfl (by first | with_reducible rfl | decide) ?_ | refine SX.cond_f rfl (by first | with_reducible rfl | decide) ?_ | refine SXL.guard_t rfl rfl (by first | with_reducible rfl | decide) ?_ | refine SXL.guard_f rfl rfl (by first | with_reducible rfl | decide) rfl ?_ | refine SXL.guard_n rfl rfl (by first | with_reducible rfl | decide) ?_)
      refine SXL.loadAt rfl inferInstance rfl rfl (by rw [hoff _ rfl]; exact tabV_get (by omega)) rfl ?_
      repeat (first | refine SXL.pure rfl rfl ?_ | refine SXL.load rfl inferInstance rfl rfl ?_ | refine SXL.store rfl rfl inferInstance rfl ?_ | refine SXL.nil ?_ | refine SX.region ?_ | refine SX.seq ?_ | refine SX.skip ?_ | refine SX.block ?_ | refine SX.endBlock ?_ | refine SX.exit rfl ?_ | refine SX.cond_t rfl (by first | with_reducible rfl | decide) ?_ | refine SX.cond_f rfl (by first | with_reducible rfl | decide) ?_ | refine SXL.guard_t rfl rfl (by first | with_reducible rfl | decide) ?_ | refine SXL.guard_f rfl rfl (by first | with_reducible rfl | decide) rfl ?_ | refine SXL.guard_n rfl rfl (by first | with_reducible rfl | decide) ?_)
      by_cases hku : k ∈ u'
      · refine SXL.know 209 true rfl (by simp [hku]; omega) ?_
        repeat (first | refine SXL.pure rfl rfl ?_ | refine SXL.load rfl inferInstance rfl rfl ?_ | refine SXL.store rfl rfl inferInstance rfl ?_ | refine SXL.nil ?_ | refine SX.region ?_ | refine SX.seq ?_ | refine SX.skip ?_ | refine SX.block ?_ | refine SX.endBlock ?_ | refine SX.exit rfl ?_ | refine SX.cond_t rfl (by first | with_reducible rfl | decide) ?_ | refine SX.cond_f rfl (by first | with_reducible rfl | decide) ?_ | refine SXL.guard_t rfl rfl (by first | with_reducible rfl | decide) ?_ | refine SXL.guard_f rfl rfl (by first | with_reducible rfl | decide) rfl ?_ | refine SXL.guard_n rfl rfl (by first | with_reducible rfl | decide) ?_)
        refine SXL.idx rfl rfl rfl rfl rfl (by omega) (by omega) rfl ?_
        repeat (first | refine SXL.pure rfl rfl ?_ | refine SXL.load rfl inferInstance rfl rfl ?_ | refine SXL.store rfl rfl inferInstance rfl ?_ | refine SXL.nil ?_ | refine SX.region ?_ | refine SX.seq ?_ | refine SX.skip ?_ | refine SX.block ?_ | refine SX.endBlock ?_ | refine SX.exit rfl ?_ | refine SX.cond_t rfl (by first | with_reducible rfl | decide) ?_ | refine SX.cond_f rfl (by first | with_reducible rfl | decide) ?_ | refine SXL.guard_t rfl rfl (by first | with_reducible rfl | decide) ?_ | refine SXL.guard_f rfl rfl (by first | with_reducible rfl | decide) rfl ?_ | refine SXL.guard_n rfl rfl (by first | with_reducible rfl | decide) ?_)
        refine SXL.loadAt rfl inferInstance rfl rfl (by rw [hoff _ rfl]; exact tabV_get (by omega)) rfl ?_
        repeat (first | refine SXL.pure rfl rfl ?_ | refine SXL.load rfl inferInstance rfl rfl ?_ | refine SXL.store rfl rfl inferInstance rfl ?_ | refine SXL.nil ?_ | refine SX.region ?_ | refine SX.seq ?_ | refine SX.skip ?_ | refine SX.block ?_ | refine SX.endBlock ?_ | refine SX.exit rfl ?_ | refine SX.cond_t rfl (by first | with_reducible rfl | decide) ?_ | refine SX.cond_f rfl (by first | with_reducible rfl | decide) ?_ | refine SXL.guard_t rfl rfl (by first | with_reducible rfl | decide) ?_ | refine SXL.guard_f rfl rfl (by first | with_reducible rfl | decide) rfl ?_ | refine SXL.guard_n rfl rfl (by first | with_reducible rfl | decide) ?_)
        refine SX.know 216 false rfl (by rw [(hI.pa k hku).2]; rfl) ?_
        repeat (first | refine SXL.pure rfl rfl ?_ | refine SXL.load rfl inferInstance rfl rfl ?_ | refine SXL.store rfl rfl inferInstance rfl ?_ | refine SXL.nil ?_ | refine SX.region ?_ | refine SX.seq ?_ | refine SX.skip ?_ | refine SX.block ?_ | refine SX.endBlock ?_ | refine SX.exit rfl ?_ | refine SX.cond_t rfl (by first | with_reducible rfl | decide) ?_ | refine SX.cond_f rfl (by first | with_reducible rfl | decide) ?_ | refine SXL.guard_t rfl rfl (by first | with_reducible rfl | decide) ?_ | refine SXL.guard_f rfl rfl (by first | with_reducible rfl | decide) rfl ?_ | refine SXL.guard_n rfl rfl (by first | with_reducible rfl | decide) ?_)
        refine SX.same 25 (.int .i64 ((k + 1 : Nat) : Int)) rfl (by simp (disch := omega) only [IntWalk.i64_in, IntWalk.u8_in, IntWalk.u32_in, IntWalk.u64_in, IntWalk.rem_in, Int.natCast_add, Int.natCast_one]) ?_
        refine SX.again (z - 1) (by omega) ⟨k + 1, by omega, by omega, rfl, rfl⟩ (by repeat (first | exact trivial | refine ⟨rfl, ?_⟩)) inferInstance
      · refine SXL.know 209 false rfl (by simp [hku]) ?_
        repeat (first | refine SXL.pure rfl rfl ?_ | refine SXL.load rfl inferInstance rfl rfl ?_ | refine SXL.store rfl rfl inferInstance rfl ?_ | refine SXL.nil ?_ | refine SX.region ?_ | refine SX.seq ?_ | refine SX.skip ?_ | refine SX.block ?_ | refine SX.endBlock ?_ | refine SX.exit rfl ?_ | refine SX.cond_t rfl (by first | with_reducible rfl | decide) ?_ | refine SX.cond_f rfl (by first | with_reducible rfl | decide) ?_ | refine SXL.guard_t rfl rfl (by first | with_reducible rfl | decide) ?_ | refine SXL.guard_f rfl rfl (by first | with_reducible rfl | decide) rfl ?_ | refine SXL.guard_n rfl rfl (by first | with_reducible rfl | decide) ?_)
        refine SX.same 25 (.int .i64 ((k + 1 : Nat) : Int)) rfl (by simp (disch := omega) only [IntWalk.i64_in, IntWalk.u8_in, IntWalk.u32_in, IntWalk.u64_in, IntWalk.rem_in, Int.natCast_add, Int.natCast_one]) ?_
        refine SX.again (z - 1) (by omega) ⟨k + 1, by omega, by omega, rfl, rfl⟩ (by repeat (first | exact trivial | refine ⟨rfl, ?_⟩)) inferInstance
    · repeat (first | refine SXL.pure rfl rfl ?_ | refine SXL.load rfl inferInstance rfl rfl ?_ | refine SXL.store rfl rfl inferInstance rfl ?_ | refine SXL.nil ?_ | refine SX.region ?_ | refine SX.seq ?_ | refine SX.skip ?_ | refine SX.block ?_ | refine SX.endBlock ?_ | refine SX.exit rfl ?_ | refine SX.cond_t rfl (by first | with_reducible rfl | decide) ?_ | refine SX.cond_f rfl (by first | with_reducible rfl | decide) ?_ | refine SXL.guard_t rfl rfl (by first | with_reducible rfl | decide) ?_ | refine SXL.guard_f rfl rfl (by first | with_reducible rfl | decide) rfl ?_ | refine SXL.guard_n rfl rfl (by first | with_reducible rfl | decide) ?_)
      refine SX.ret (M' := F) rfl (Evals.tmp rfl Evals.nil) ?_ inferInstance
      exact h
  repeat (first | refine SXL.pure rfl rfl ?_ | refine SXL.load rfl inferInstance rfl rfl ?_ | refine SXL.store rfl rfl inferInstance rfl ?_ | refine SXL.nil ?_ | refine SX.region ?_ | refine SX.seq ?_ | refine SX.skip ?_ | refine SX.block ?_ | refine SX.endBlock ?_ | refine SX.exit rfl ?_ | refine SX.cond_t rfl (by first | with_reducible rfl | decide) ?_ | refine SX.cond_f rfl (by first | with_reducible rfl | decide) ?_ | refine SXL.guard_t rfl rfl (by first | with_reducible rfl | decide) ?_ | refine SXL.guard_f rfl rfl (by first | with_reducible rfl | decide) rfl ?_ | refine SXL.guard_n rfl rfl (by first | with_reducible rfl | decide) ?_)
  have hvm2 : v'.length = v.length - m := hvl
  by_cases hiq : i = q.length
  · refine SX.know 123 true rfl (by simp [hiq]) ?_
    repeat (first | refine SXL.pure rfl rfl ?_ | refine SXL.load rfl inferInstance rfl rfl ?_ | refine SXL.store rfl rfl inferInstance rfl ?_ | refine SXL.nil ?_ | refine SX.region ?_ | refine SX.seq ?_ | refine SX.skip ?_ | refine SX.block ?_ | refine SX.endBlock ?_ | refine SX.exit rfl ?_ | refine SX.cond_t rfl (by first | with_reducible rfl | decide) ?_ | refine SX.cond_f rfl (by first | with_reducible rfl | decide) ?_ | refine SXL.guard_t rfl rfl (by first | with_reducible rfl | decide) ?_ | refine SXL.guard_f rfl rfl (by first | with_reducible rfl | decide) rfl ?_ | refine SXL.guard_n rfl rfl (by first | with_reducible rfl | decide) ?_)
    refine SX.know 128 false rfl (by rw [beq_eq_false_iff_ne]; intro h9; omega) ?_
    repeat (first | refine SXL.pure rfl rfl ?_ | refine SXL.load rfl inferInstance rfl rfl ?_ | refine SXL.store rfl rfl inferInstance rfl ?_ | refine SXL.nil ?_ | refine SX.region ?_ | refine SX.seq ?_ | refine SX.skip ?_ | refine SX.block ?_ | refine SX.endBlock ?_ | refine SX.exit rfl ?_ | refine SX.cond_t rfl (by first | with_reducible rfl | decide) ?_ | refine SX.cond_f rfl (by first | with_reducible rfl | decide) ?_ | refine SXL.guard_t rfl rfl (by first | with_reducible rfl | decide) ?_ | refine SXL.guard_f rfl rfl (by first | with_reducible rfl | decide) rfl ?_ | refine SXL.guard_n rfl rfl (by first | with_reducible rfl | decide) ?_)
    refine SX.same 16 (.int .i64 (i : Int)) rfl (by simp (disch := omega) only [IntWalk.i64_in]; simp) ?_
    refine SX.again ((q.length - i) * 200 + v'.length) (by omega) ⟨i, A1, c1, ck, s2, u', v', ts2, hi, rfl, hI, hc1', rfl, rfl⟩ (by repeat (first | exact trivial | refine ⟨rfl, ?_⟩)) inferInstance
  have hilt : i < q.length := by omega
  have hbig : ∀ j : Nat, j ≤ v'.length + 1 → (q.length - (i + 1)) * 200 + j < (q.length - i) * 200 + v.length := fun j hj => by
    have : q.length - i = (q.length - (i + 1)) + 1 := by omega
    have := hI.small.1
    rw [List.length_append] at this
    omega
  obtain ⟨s, hs⟩ : ∃ s, q[i]? = some s := ⟨_, List.getElem?_eq_getElem hilt⟩
  have hs2 := bytesB_at hq hs
  refine SX.know 123 false rfl (by simp; omega) ?_
  refine SX.addr (A := B) (Kd.int .u8) (by decide) (xs := q) (by omega) (fun bb oo e => ?_)
  subst e
  repeat (first | refine SXL.pure rfl rfl ?_ | refine SXL.load rfl inferInstance rfl rfl ?_ | refine SXL.store rfl rfl inferInstance rfl ?_ | refine SXL.nil ?_ | refine SX.region ?_ | refine SX.seq ?_ | refine SX.skip ?_ | refine SX.block ?_ | refine SX.endBlock ?_ | refine SX.exit rfl ?_ | refine SX.cond_t rfl (by first | with_reducible rfl | decide) ?_ | refine SX.cond_f rfl (by first | with_reducible rfl | decide) ?_ | refine SXL.guard_t rfl rfl (by first | with_reducible rfl | decide) ?_ | refine SXL.guard_f rfl rfl (by first | with_reducible rfl | decide) rfl ?_ | refine SXL.guard_n rfl rfl (by first | with_reducible rfl | decide) ?_)
  refine SXL.idx rfl rfl rfl rfl rfl (by omega) (by omega) rfl ?_
  refine SXL.loadRow (Kd.int .u8) rfl rfl inferInstance (by rw [Int.toNat_natCast]; exact hs) rfl rfl ?_
  repeat (first | refine SXL.pure rfl rfl ?_ | refine SXL.load rfl inferInstance rfl rfl ?_ | refine SXL.store rfl rfl inferInstance rfl ?_ | refine SXL.nil ?_ | refine SX.region ?_ | refine SX.seq ?_ | refine SX.skip ?_ | refine SX.block ?_ | refine SX.endBlock ?_ | refine SX.exit rfl ?_ | refine SX.cond_t rfl (by first | with_reducible rfl | decide) ?_ | refine SX.cond_f rfl (by first | with_reducible rfl | decide) ?_ | refine SXL.guard_t rfl rfl (by first | with_reducible rfl | decide) ?_ | refine SXL.guard_f rfl rfl (by first | with_reducible rfl | decide) rfl ?_ | refine SXL.guard_n rfl rfl (by first | with_reducible rfl | decide) ?_)
  have hand := andI_u8_1 s hs2.1 hs2.2
  by_cases hev : s % 2 = 0
  · refine SXL.know 135 true rfl (by rw [hand, hev]; rfl) ?_
    repeat (first | refine SXL.pure rfl rfl ?_ | refine SXL.load rfl inferInstance rfl rfl ?_ | refine SXL.store rfl rfl inferInstance rfl ?_ | refine SXL.nil ?_ | refine SX.region ?_ | refine SX.seq ?_ | refine SX.skip ?_ | refine SX.block ?_ | refine SX.endBlock ?_ | refine SX.exit rfl ?_ | refine SX.cond_t rfl (by first | with_reducible rfl | decide) ?_ | refine SX.cond_f rfl (by first | with_reducible rfl | decide) ?_ | refine SXL.guard_t rfl rfl (by first | with_reducible rfl | decide) ?_ | refine SXL.guard_f rfl rfl (by first | with_reducible rfl | decide) rfl ?_ | refine SXL.guard_n rfl rfl (by first | with_reducible rfl | decide) ?_)
    refine SX.know 138 true rfl (by simp; omega) ?_
    repeat (first | refine SXL.pure rfl rfl ?_ | refine SXL.load rfl inferInstance rfl rfl ?_ | refine SXL.store rfl rfl inferInstance rfl ?_ | refine SXL.nil ?_ | refine SX.region ?_ | refine SX.seq ?_ | refine SX.skip ?_ | refine SX.block ?_ | refine SX.endBlock ?_ | refine SX.exit rfl ?_ | refine SX.cond_t rfl (by first | with_reducible rfl | decide) ?_ | refine SX.cond_f rfl (by first | with_reducible rfl | decide) ?_ | refine SXL.guard_t rfl rfl (by first | with_reducible rfl | decide) ?_ | refine SXL.guard_f rfl rfl (by first | with_reducible rfl | decide) rfl ?_ | refine SXL.guard_n rfl rfl (by first | with_reducible rfl | decide) ?_)
    refine SXL.same 145 (.int .u8 ((ck + 1 : Nat) : Int)) rfl (by simp (disch := omega) only [IntWalk.i64_in, IntWalk.u8_in, IntWalk.u32_in, IntWalk.u64_in, IntWalk.rem_in, Int.natCast_add, Int.natCast_one]) ?_
    refine SXL.same 10 (.int .u64 ((ck + 1 : Nat) : Int)) rfl (by simp (disch := omega) only [IntWalk.i64_in, IntWalk.u8_in, IntWalk.u32_in, IntWalk.u64_in, IntWalk.rem_in, Int.natCast_add, Int.natCast_one]) ?_
    refine SXL.lit rfl rfl (fun g2 => ?_)
    refine SXL.litRow (Kd.int .u8) g2 [109, ((ck + 1 : Nat) : Int)] inferInstance rfl (fun _ => rfl) (by simp) ?_
    refine SXL.bytesStr rfl inferInstance rfl Try.underlying22 Try.underlying5 Try.underlying9 rfl ?_
    repeat (first | refine SXL.pure rfl rfl ?_ | refine SXL.load rfl inferInstance rfl rfl ?_ | refine SXL.store rfl rfl inferInstance rfl ?_ | refine SXL.nil ?_ | refine SX.region ?_ | refine SX.seq ?_ | refine SX.skip ?_ | refine SX.block ?_ | refine SX.endBlock ?_ | refine SX.exit rfl ?_ | refine SX.cond_t rfl (by first | with_reducible rfl | decide) ?_ | refine SX.cond_f rfl (by first | with_reducible rfl | decide) ?_ | refine SXL.guard_t rfl rfl (by first | with_reducible rfl | decide) ?_ | refine SXL.guard_f rfl rfl (by first | with_reducible rfl | decide) rfl ?_ | refine SXL.guard_n rfl rfl (by first | with_reducible rfl | decide) ?_)
    have hnk := hI.nck
    have h12 := hI.n12
    refine SXL.same 148 (.agg #[.int .u64 (entR b.length (ck + 1)).c, .int .u32 0, .int .u32 0, .string (entR b.length (ck + 1)).s]) rfl ?_ ?_
    · show Value.agg #[.int .u64 (IntKind.u64.wrap ((ck : Int) + 1)), .int .u32 0, .int .u32 0, .string (strOfNums [109, ((ck + 1 : Nat) : Int)])] = Value.agg #[.int .u64 ((ck + 1 : Nat) : Int), .int .u32 0, .int .u32 0, .string (strOfNums (nmR b.length (ck + 1)))]
      rw [IntWalk.u64_in _ (by omega)]
      unfold nmR
      rw [if_neg (by omega)]
      rfl
    refine SXL.call rfl rfl rfl ?_
    refine (Add_S (entR b.length (ck + 1)) inferInstance hc1' (by omega) (fun r e hm A4 c4 hc4 => callK.ret ?_))
    by_cases h47 : ck + 1 = 47
    · rw [h47, entR_47 h12] at hm
      simp only [Prod.mk.injEq] at hm
      obtain ⟨rfl, rfl⟩ := hm
      repeat (first | refine SXL.pure rfl rfl ?_ | refine SXL.load rfl inferInstance rfl rfl ?_ | refine SXL.store rfl rfl inferInstance rfl ?_ | refine SXL.nil ?_ | refine SX.region ?_ | refine SX.seq ?_ | refine SX.skip ?_ | refine SX.block ?_ | refine SX.endBlock ?_ | refine SX.exit rfl ?_ | refine SX.cond_t rfl (by first | with_reducible rfl | decide) ?_ | refine SX.cond_f rfl (by first | with_reducible rfl | decide) ?_ | refine SXL.guard_t rfl rfl (by first | with_reducible rfl | decide) ?_ | refine SXL.guard_f rfl rfl (by first | with_reducible rfl | decide) rfl ?_ | refine SXL.guard_n rfl rfl (by first | with_reducible rfl | decide) ?_)
      refine SX.know 157 false rfl (by rw [h47]; rfl) ?_
      repeat (first | refine SXL.pure rfl rfl ?_ | refine SXL.load rfl inferInstance rfl rfl ?_ | refine SXL.store rfl rfl inferInstance rfl ?_ | refine SXL.nil ?_ | refine SX.region ?_ | refine SX.seq ?_ | refine SX.skip ?_ | refine SX.block ?_ | refine SX.endBlock ?_ | refine SX.exit rfl ?_ | refine SX.cond_t rfl (by first | with_reducible rfl | decide) ?_ | refine SX.cond_f rfl (by first | with_reducible rfl | decide) ?_ | refine SXL.guard_t rfl rfl (by first | with_reducible rfl | decide) ?_ | refine SXL.guard_f rfl rfl (by first | with_reducible rfl | decide) rfl ?_ | refine SXL.guard_n rfl rfl (by first | with_reducible rfl | decide) ?_)
      refine SX.same 16 (.int .i64 ((i + 1 : Nat) : Int)) rfl (by simp (disch := omega) only [IntWalk.i64_in, IntWalk.u8_in, IntWalk.u32_in, IntWalk.u64_in, IntWalk.rem_in, Int.natCast_add, Int.natCast_one]) ?_
      refine SX.again ((q.length - (i + 1)) * 200 + v'.length) (hbig _ (by omega)) ⟨i + 1, A1, c1, ck + 1, s2, u', v', ts2, by omega, rfl, hI.skip (by omega) (by omega) (by omega), hc1', rfl, rfl⟩ (by repeat (first | exact trivial | refine ⟨rfl, ?_⟩)) inferInstance
    · rw [key_add (fun _ => rfl) (c := ck) (fun k hk => (hI.rng k hk).2.1) (by omega) (fun k hk hkk => entR_inj (hI.small.2.1 k hk) (by omega) hkk) (entR_name h12 (by omega) (by omega) h47), List.append_assoc] at hm
      simp only [Prod.mk.injEq] at hm
      obtain ⟨rfl, rfl⟩ := hm
      repeat (first | refine SXL.pure rfl rfl ?_ | refine SXL.load rfl inferInstance rfl rfl ?_ | refine SXL.store rfl rfl inferInstance rfl ?_ | refine SXL.nil ?_ | refine SX.region ?_ | refine SX.seq ?_ | refine SX.skip ?_ | refine SX.block ?_ | refine SX.endBlock ?_ | refine SX.exit rfl ?_ | refine SX.cond_t rfl (by first | with_reducible rfl | decide) ?_ | refine SX.cond_f rfl (by first | with_reducible rfl | decide) ?_ | refine SXL.guard_t rfl rfl (by first | with_reducible rfl | decide) ?_ | refine SXL.guard_f rfl rfl (by first | with_reducible rfl | decide) rfl ?_ | refine SXL.guard_n rfl rfl (by first | with_reducible rfl | decide) ?_)
      refine SX.same 16 (.int .i64 ((i + 1 : Nat) : Int)) rfl (by simp (disch := omega) only [IntWalk.i64_in, IntWalk.u8_in, IntWalk.u32_in, IntWalk.u64_in, IntWalk.rem_in, Int.natCast_add, Int.natCast_one]) ?_
      rw [show tabV 100 (fun k => Value.bool (decide (k ∈ u' ++ v' ∧ k ≤ b.length))) = tabV 100 (fun k => Value.bool (decide (k ∈ u' ++ (v' ++ [ck + 1]) ∧ k ≤ b.length))) from tabV_congr (fun k _ => by
        congr 1
        refine decide_eq_decide.2 ?_
        rw [← List.append_assoc, List.mem_append (s := u' ++ v'), List.mem_singleton]
        constructor
        · rintro ⟨h1, h2⟩; exact ⟨.inl h1, h2⟩
        · rintro ⟨h1 | h1, h2⟩
          · exact ⟨h1, h2⟩
          · omega)]
      refine SX.again ((q.length - (i + 1)) * 200 + (v' ++ [ck + 1]).length) (hbig _ (by simp)) ⟨i + 1, A4, c4, ck + 1, s2, u', v' ++ [ck + 1], ts2, by omega, rfl, hI.add (by omega) h47, hc4, rfl, rfl⟩ (by repeat (first | exact trivial | refine ⟨rfl, ?_⟩)) inferInstance
  refine SXL.know 135 false rfl (by rw [hand]; simp; omega) ?_
  repeat (first | refine SXL.pure rfl rfl ?_ | refine SXL.load rfl inferInstance rfl rfl ?_ | refine SXL.store rfl rfl inferInstance rfl ?_ | refine SXL.nil ?_ | refine SX.region ?_ | refine SX.seq ?_ | refine SX.skip ?_ | refine SX.block ?_ | refine SX.endBlock ?_ | refine SX.exit rfl ?_ | refine SX.cond_t rfl (by first | with_reducible rfl | decide) ?_ | refine SX.cond_f rfl (by first | with_reducible rfl | decide) ?_ | refine SXL.guard_t rfl rfl (by first | with_reducible rfl | decide) ?_ | refine SXL.guard_f rfl rfl (by first | with_reducible rfl | decide) rfl ?_ | refine SXL.guard_n rfl rfl (by first | with_reducible rfl | decide) ?_)
  refine SX.condp rfl (fun hlp => ?_) (fun hlp => ?_)
  rotate_left
  · repeat (first | refine SXL.pure rfl rfl ?_ | refine SXL.load rfl inferInstance rfl rfl ?_ | refine SXL.store rfl rfl inferInstance rfl ?_ | refine SXL.nil ?_ | refine SX.region ?_ | refine SX.seq ?_ | refine SX.skip ?_ | refine SX.block ?_ | refine SX.endBlock ?_ | refine SX.exit rfl ?_ | refine SX.cond_t rfl (by first | with_reducible rfl | decide) ?_ | refine SX.cond_f rfl (by first | with_reducible rfl | decide) ?_ | refine SXL.guard_t rfl rfl (by first | with_reducible rfl | decide) ?_ | refine SXL.guard_f rfl rfl (by first | with_reducible rfl | decide) rfl ?_ | refine SXL.guard_n rfl rfl (by first | with_reducible rfl | decide) ?_)
    refine SX.same 16 (.int .i64 ((i + 1 : Nat) : Int)) rfl (by simp (disch := omega) only [IntWalk.i64_in, IntWalk.u8_in, IntWalk.u32_in, IntWalk.u64_in, IntWalk.rem_in, Int.natCast_add, Int.natCast_one]) ?_
    refine SX.again ((q.length - (i + 1)) * 200 + v'.length) (hbig _ (by omega)) ⟨i + 1, A1, c1, ck, s2, u', v', ts2, by omega, rfl, hI.skip (by omega) (by omega) (by omega), hc1', rfl, rfl⟩ (by repeat (first | exact trivial | refine ⟨rfl, ?_⟩)) inferInstance
  repeat (first | refine SXL.pure rfl rfl ?_ | refine SXL.load rfl inferInstance rfl rfl ?_ | refine SXL.store rfl rfl inferInstance rfl ?_ | refine SXL.nil ?_ | refine SX.region ?_ | refine SX.seq ?_ | refine SX.skip ?_ | refine SX.block ?_ | refine SX.endBlock ?_ | refine SX.exit rfl ?_ | refine SX.cond_t rfl (by first | with_reducible rfl | decide) ?_ | refine SX.cond_f rfl (by first | with_reducible rfl | decide) ?_ | refine SXL.guard_t rfl rfl (by first | with_reducible rfl | decide) ?_ | refine SXL.guard_f rfl rfl (by first | with_reducible rfl | decide) rfl ?_ | refine SXL.guard_n rfl rfl (by first | with_reducible rfl | decide) ?_)
  refine SXL.idx rfl rfl rfl rfl rfl (by omega) (by omega) rfl ?_
  refine SXL.loadRow (Kd.int .u8) rfl rfl inferInstance (by rw [Int.toNat_natCast]; exact hs) rfl rfl ?_
  repeat (first | refine SXL.pure rfl rfl ?_ | refine SXL.load rfl inferInstance rfl rfl ?_ | refine SXL.store rfl rfl inferInstance rfl ?_ | refine SXL.nil ?_ | refine SX.region ?_ | refine SX.seq ?_ | refine SX.skip ?_ | refine SX.block ?_ | refine SX.endBlock ?_ | refine SX.exit rfl ?_ | refine SX.cond_t rfl (by first | with_reducible rfl | decide) ?_ | refine SX.cond_f rfl (by first | with_reducible rfl | decide) ?_ | refine SXL.guard_t rfl rfl (by first | with_reducible rfl | decide) ?_ | refine SXL.guard_f rfl rfl (by first | with_reducible rfl | decide) rfl ?_ | refine SXL.guard_n rfl rfl (by first | with_reducible rfl | decide) ?_)
  obtain ⟨kk, hkk⟩ : ∃ kk : Nat, (kk : Int) = (s / 2) % (((u' ++ v').map (entR b.length)).length : Int) := ⟨((s / 2) % (((u' ++ v').map (entR b.length)).length : Int)).toNat, by have := Int.emod_nonneg (s / 2) (show (((u' ++ v').map (entR b.length)).length : Int) ≠ 0 by omega); omega⟩
  have hkl : kk < ((u' ++ v').map (entR b.length)).length := by have := Int.emod_lt_of_pos (s / 2) (show (0 : Int) < (((u' ++ v').map (entR b.length)).length : Int) by omega); omega
  refine SXL.rem rfl rfl (by omega) rfl ?_
  refine SXL.same 172 (.int .i64 (kk : Int)) rfl (by rw [shrI_u8_1 s hs2.1 hs2.2, IntWalk.i64_in _ (by omega), IntWalk.rem_in _ _ (by omega), ← hkk]) ?_
  obtain ⟨e, he⟩ : ∃ e, (u' ++ v')[kk]? = some e := ⟨_, List.getElem?_eq_getElem (by omega)⟩
  have hem := List.mem_of_getElem? he
  have her := hI.rng e hem
  have hge : ((u' ++ v').map (entR b.length))[kk]? = some (entR b.length e) := by rw [List.getElem?_map, he]; rfl
  refine SXL.addr (A := A1) kE (by decide) (xs := (u' ++ v').map (entR b.length)) (by omega) (fun b3 o3 e3 => ?_)
  subst e3
  repeat (first | refine SXL.pure rfl rfl ?_ | refine SXL.load rfl inferInstance rfl rfl ?_ | refine SXL.store rfl rfl inferInstance rfl ?_ | refine SXL.nil ?_ | refine SX.region ?_ | refine SX.seq ?_ | refine SX.skip ?_ | refine SX.block ?_ | refine SX.endBlock ?_ | refine SX.exit rfl ?_ | refine SX.cond_t rfl (by first | with_reducible rfl | decide) ?_ | refine SX.cond_f rfl (by first | with_reducible rfl | decide) ?_ | refine SXL.guard_t rfl rfl (by first | with_reducible rfl | decide) ?_ | refine SXL.guard_f rfl rfl (by first | with_reducible rfl | decide) rfl ?_ | refine SXL.guard_n rfl rfl (by first | with_reducible rfl | decide) ?_)
  refine SXL.idx rfl rfl rfl rfl rfl (by omega) (by omega) rfl ?_
  repeat (first | refine SXL.pure rfl rfl ?_ | refine SXL.load rfl inferInstance rfl rfl ?_ | refine SXL.store rfl rfl inferInstance rfl ?_ | refine SXL.nil ?_ | refine SX.region ?_ | refine SX.seq ?_ | refine SX.skip ?_ | refine SX.block ?_ | refine SX.endBlock ?_ | refine SX.exit rfl ?_ | refine SX.cond_t rfl (by first | with_reducible rfl | decide) ?_ | refine SX.cond_f rfl (by first | with_reducible rfl | decide) ?_ | refine SXL.guard_t rfl rfl (by first | with_reducible rfl | decide) ?_ | refine SXL.guard_f rfl rfl (by first | with_reducible rfl | decide) rfl ?_ | refine SXL.guard_n rfl rfl (by first | with_reducible rfl | decide) ?_)
  refine SXL.loadRow1 kE rfl rfl inferInstance (by rw [Int.toNat_natCast]; exact hge) rfl rfl ?_
  refine SXL.same 178 (.int .u64 (e : Int)) rfl rfl ?_
  refine SXL.idx rfl rfl rfl rfl rfl (by omega) (by omega) rfl ?_
  refine SXL.storeAt rfl rfl inferInstance rfl rfl rfl (by rw [tabV_len, Int.toNat_natCast]; show 0 + e * 1 + 0 < 100; omega) ?_
  rw [show 0 + ((e : Int)).toNat * i4.size + 0 = e by rw [Int.toNat_natCast]; show 0 + e * 1 + 0 = e; omega]
  rw [tabV_set (g := fun k => .bool (decide (k ∈ u'.filter (fun k => decide (k ≠ e)) ++ v'.filter (fun k => decide (k ≠ e)) ∧ k ≤ b.length))) (by simp) (fun j hj => by
    congr 1
    refine decide_eq_decide.2 ?_
    rw [← List.filter_append, List.mem_filter]
    simp [hj])]
  repeat (first | refine SXL.pure rfl rfl ?_ | refine SXL.load rfl inferInstance rfl rfl ?_ | refine SXL.store rfl rfl inferInstance rfl ?_ | refine SXL.nil ?_ | refine SX.region ?_ | refine SX.seq ?_ | refine SX.skip ?_ | refine SX.block ?_ | refine SX.endBlock ?_ | refine SX.exit rfl ?_ | refine SX.cond_t rfl (by first | with_reducible rfl | decide) ?_ | refine SX.cond_f rfl (by first | with_reducible rfl | decide) ?_ | refine SXL.guard_t rfl rfl (by first | with_reducible rfl | decide) ?_ | refine SXL.guard_f rfl rfl (by first | with_reducible rfl | decide) rfl ?_ | refine SXL.guard_n rfl rfl (by first | with_reducible rfl | decide) ?_)
  refine SXL.idx rfl rfl rfl rfl rfl (by omega) (by omega) rfl ?_
  repeat (first | refine SXL.pure rfl rfl ?_ | refine SXL.load rfl inferInstance rfl rfl ?_ | refine SXL.store rfl rfl inferInstance rfl ?_ | refine SXL.nil ?_ | refine SX.region ?_ | refine SX.seq ?_ | refine SX.skip ?_ | refine SX.block ?_ | refine SX.endBlock ?_ | refine SX.exit rfl ?_ | refine SX.cond_t rfl (by first | with_reducible rfl | decide) ?_ | refine SX.cond_f rfl (by first | with_reducible rfl | decide) ?_ | refine SXL.guard_t rfl rfl (by first | with_reducible rfl | decide) ?_ | refine SXL.guard_f rfl rfl (by first | with_reducible rfl | decide) rfl ?_ | refine SXL.guard_n rfl rfl (by first | with_reducible rfl | decide) ?_)
  refine SXL.loadRow1 kE rfl rfl inferInstance (by rw [Int.toNat_natCast]; exact hge) rfl rfl ?_
  refine SXL.call rfl rfl rfl ?_
  refine (Remove_S (entR b.length e).s inferInstance hc1' (by omega) (fun r e2 hm A4 c4 hc4 => callK.ret ?_))
  rw [key_remove (nodup_of_lt hI.srt) (fun k hk hkk => entR_inj (hI.small.2.1 k hk) (by omega) hkk) hem, List.filter_append] at hm
  simp only [Prod.mk.injEq] at hm
  obtain ⟨rfl, rfl⟩ := hm
  repeat (first | refine SXL.pure rfl rfl ?_ | refine SXL.load rfl inferInstance rfl rfl ?_ | refine SXL.store rfl rfl inferInstance rfl ?_ | refine SXL.nil ?_ | refine SX.region ?_ | refine SX.seq ?_ | refine SX.skip ?_ | refine SX.block ?_ | refine SX.endBlock ?_ | refine SX.exit rfl ?_ | refine SX.cond_t rfl (by first | with_reducible rfl | decide) ?_ | refine SX.cond_f rfl (by first | with_reducible rfl | decide) ?_ | refine SXL.guard_t rfl rfl (by first | with_reducible rfl | decide) ?_ | refine SXL.guard_f rfl rfl (by first | with_reducible rfl | decide) rfl ?_ | refine SXL.guard_n rfl rfl (by first | with_reducible rfl | decide) ?_)
  refine SX.same 16 (.int .i64 ((i + 1 : Nat) : Int)) rfl (by simp (disch := omega) only [IntWalk.i64_in, IntWalk.u8_in, IntWalk.u32_in, IntWalk.u64_in, IntWalk.rem_in, Int.natCast_add, Int.natCast_one]) ?_
  refine SX.again ((q.length - (i + 1)) * 200 + (v'.filter (fun k => decide (k ≠ e))).length) (hbig _ (Nat.le_succ_of_le (List.length_filter_le _ _))) ⟨i + 1, A4, c4, ck, s2, u'.filter (fun k => decide (k ≠ e)), v'.filter (fun k => decide (k ≠ e)), ts2, by omega, rfl, hI.filter (by omega) _, hc4, rfl, rfl⟩ (by repeat (first | exact trivial | refine ⟨rfl, ?_⟩)) inferInstance
theorem DirReads_any (A : Option Addr) (c : Nat) (b : List Int) (n0 : Int) (B : Option Addr) (d : Nat) (q : List Int) (W : World) (hr : Kd.C (Kd.int .u8) W A b.length b) (hc : b.length ≤ c) (hw : b.length ≤ maxLen ∧ ∀ x ∈ b, (Lit.int .u8 x).wf = true) (wn : (Lit.int .u8 n0).wf = true) (hr2 : Kd.C (Kd.int .u8) W B q.length q) (hd : q.length ≤ d) (hw2 : q.length ≤ maxLen ∧ ∀ x ∈ q, (Lit.int .u8 x).wf = true) :
    Calls Try.prog 5 #[.slice A b.length c, .int .u8 n0, .slice B q.length d] W fun e w' => e = .returned (.bool true) ∧ Below W.heap.size W w' :=
  Fn.out W [.per (roR (Kd.int .u8) A b), .per (roR (Kd.int .u8) B q), .per (oldR W)] (Holds.ofStart (Holds.startRow (Holds.startRow (Holds.start0 W) (Kd.C_F (Kd.heap_int _) hr2)) (Kd.C_F (Kd.heap_int _) hr))) inferInstance
    (DirReads_S ⟨(inferInstance : Ro (Kd.int .u8) A [.per (roR (Kd.int .u8) A b), .per (roR (Kd.int .u8) B q), .per (oldR W)] b).h⟩ hc ⟨fun w I U h => (inferInstance : Ro (Kd.int .u8) B [.per (roR (Kd.int .u8) B q), .per (oldR W)] q).h w I U h.tail⟩ hd (bytesB_of_wf q hw2.2) (bytesB_at (b := [n0]) (bytesB_of_wf [n0] (by simpa using wn)) (i := 0) rfl).1 ⟨rfl, inferInstance⟩)
end Go.Proofs.Ytlpjchighfdomaa.Sx
