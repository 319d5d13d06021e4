/- Part O4 of the lemmas and walks of the Go functions that these statements reach; conditions: those that each theorem names. -/
import Derived.Test.YtanemmcddgkpdaaGreatJU
import Derived.Test.YtanemmcddgkpdaaGreatJX2
import Derived.Test.YtanemmcddgkpdaaGreatJX1
import Derived.Test.YtanemmcddgkpdaaGreatJV7
import Derived.Test.YtanemmcddgkpdaaGreatJY6
import Derived.Test.YtanemmcddgkpdaaGreatJN9
import Derived.Test.YtanemmcddgkpdaaGreatJO3
import Derived.Test.YtanemmcddgkpdaaGreatJZ1
import Derived.Test.YtanemmcddgkpdaaGreatJZ5
import Derived.Test.YtanemmcddgkpdaaGreatJO2
import Derived.Test.YtanemmcddgkpdaaGreatJY8
section
/- The reference's calls and replies, and replies that are the same, walked; conditions: those that each theorem names. -/
namespace Go.Proofs.YtanemmcddgkpdaaGreat.Sx
open Go.RowKit Go.Proofs.YtanemmcddgkpdaaGreat.Hm Go.Proofs.YtanemmcddgkpdaaGreatW.PrintWords Go.Proofs.YtanemmcddgkpdaaGreatW.PrintLast Go.Proofs.YtanemmcddgkpdaaGreatW.PrintMore
set_option linter.unusedVariables false
set_option linter.unusedSimpArgs false
attribute [local irreducible] SX SXL SXA St callK Post Evals
instance eqHt : EqT Tryz.prog 35 := ⟨by kernel_rfl, by kernel_rfl, by kernel_rfl⟩
instance eqAt : EqT Tryz.prog 52 := ⟨by kernel_rfl, by kernel_rfl, by kernel_rfl⟩
instance eqEt : EqT Tryz.prog 109 := ⟨by kernel_rfl, by kernel_rfl, by kernel_rfl⟩
instance eqNt : EqN Tryz.prog [35] := ⟨by kernel_rfl⟩
def rrC (s : Re) (B : Option Addr) (c2 : Nat) : List Value := [.int .u32 s.client, .int .u32 s.xid, .int .i64 s.st, .int .u32 s.ai, .int .u32 s.ag, .int .u32 s.ak, .int .u32 s.am, .int .u32 s.al, .int .u32 s.sz, .int .u64 s.ac, .string (strOfNums s.d), .slice B s.e.length c2, .bool s.eof, .int .u64 s.verf, .int .u32 s.free]
section
variable {F R : List Thing} {K : Ending → List Thing → Prop} {A B : Option Addr} {c c2 : Nat}
def eqE (a b : Ent) : Bool := (a.c == b.c) && (((a.i == b.i) && (a.g == b.g)) && (a.s.toList == b.s.toList))
def sameE : List Ent → List Ent → Bool
  | [], [] => true
  | a :: l, b :: m => eqE a b && sameE l m
  | _, _ => false
theorem toList_iff' (a b : ByteArray) : (a.toList == b.toList) = true ↔ a = b := by
  rw [beq_iff_eq, ByteArray.toList_eq, ByteArray.toList_eq]
  constructor
  · intro h; exact ByteArray.ext (Array.ext' h)
  · rintro rfl; rfl
theorem eqE_iff (a b : Ent) : eqE a b = true ↔ a = b := by
  unfold eqE
  simp only [Bool.and_eq_true]
  rw [toList_iff']
  simp only [beq_iff_eq]
  obtain ⟨a0, a1, a2, a3⟩ := a
  obtain ⟨b0, b1, b2, b3⟩ := b
  simp only [Ent.mk.injEq]
  constructor
  · rintro ⟨h1, ⟨h2, h3⟩, h4⟩; exact ⟨h1, h2, h3, h4⟩
  · rintro ⟨h1, h2, h3, h4⟩; exact ⟨h1, ⟨h2, h3⟩, h4⟩
theorem sameE_iff : ∀ (l m : List Ent), sameE l m = true ↔ l = m
  | [], [] => by simp [sameE]
  | [], _ :: _ => by simp [sameE]
  | _ :: _, [] => by simp [sameE]
  | a :: l, b :: m => by
    unfold sameE
    rw [Bool.and_eq_true, eqE_iff, sameE_iff l m, List.cons.injEq]
theorem sameE_no {l m : List Ent} (h : l ≠ m) : sameE l m = false := by
  cases h1 : sameE l m with
  | true => exact absurd ((sameE_iff l m).1 h1) h
  | false => rfl
set_option maxRecDepth 20000 in
theorem SameE_S {l m : List Ent} {c' : Nat} (hr : Ro kE A F l) (hr2 : Ro kE B F m) (hc : l.length ≤ c) (hc' : m.length ≤ c') (hl : l.length ≤ 4398046510976) (h : K (.returned (.bool (sameE l m))) F) : Fn (Tryz.prog) 58 [.slice A l.length c, .slice B m.length c'] F K := by
  have ml := (inferInstance : Ro kE A F l)
  refine Fn.enter Tryz.call58 Tryz.func58 rfl rfl rfl ?_
  repeat (first|refine Qa ?_|refine Qd ?_|refine Qe ?_|refine Qf ?_|fail)
  refine SX.cond rfl (fun hne => ?_) (fun hne => ?_)
  · rw [sameE_no (by rintro rfl; simp at hne)] at h
    repeat (first|refine Qa ?_|refine Qd ?_|refine Qe ?_|refine Qf ?_|fail)
    refine SX.ret (M' := F) rfl (Evals.tmp rfl Evals.nil) ?_ inferInstance
    exact h
  have hlen : l.length = m.length := by
    have h9 : (l.length : Int) = m.length := by simpa using hne
    omega
  repeat (first|refine Qa ?_|refine Qd ?_|refine Qe ?_|refine Qf ?_|refine Qg ?_|refine Qh ?_|fail)
  refine SX.loop (fun z a M => ∃ i : Nat, i + z = l.length ∧ l.take i = m.take i ∧ a = [(0, .slice A l.length c), (1, .slice B m.length c'), (5, .int .i64 i)] ∧ F = M) l.length ⟨0, by omega, by simp, rfl, rfl⟩ (by repeat (first | exact trivial | refine ⟨rfl, ?_⟩)) inferInstance ?_
  rintro z _ _ ⟨i, hz, htk, rfl, rfl⟩
  repeat (first|refine Qa ?_|refine Qd ?_|refine Qe ?_|refine Qf ?_|fail)
  refine SX.condp rfl (fun hi => ?_) (fun hi => ?_)
  · obtain ⟨x, hx⟩ : ∃ x, l[i]? = some x := ⟨_, List.getElem?_eq_getElem (by omega)⟩
    obtain ⟨y, hy⟩ : ∃ y, m[i]? = some y := ⟨_, List.getElem?_eq_getElem (by omega)⟩
    refine SX.addr (A := A) kE (by decide) (xs := l) (by omega) (fun b3 o3 e3 => ?_)
    subst e3
    refine SX.addr (A := B) kE (by decide) (xs := m) (by omega) (fun b4 o4 e4 => ?_)
    subst e4
    repeat (first|refine Qf ?_|refine Qg ?_|refine Qh ?_|fail)
    refine SXA.begin F [] ?_
    refine Qr 0 ?_
    refine Qr 1 ?_
    refine Qr 4 ?_
    refine Qr 5 ?_
    refine SXA.idx 2 rfl (by decide +kernel) rfl rfl rfl rfl rfl rfl (by omega) (by omega) rfl inferInstance ?_
    refine SXA.idx 6 rfl (by decide +kernel) rfl rfl rfl rfl rfl rfl (by omega) (by omega) rfl inferInstance ?_
    refine SXA.loadRow 3 kE rfl (by decide +kernel) rfl rfl rfl hr (by rw [Int.toNat_natCast]; exact hx) rfl rfl inferInstance ?_
    refine SXA.loadRow 7 kE rfl (by decide +kernel) rfl rfl rfl hr2 (by rw [Int.toNat_natCast]; exact hy) rfl rfl inferInstance ?_
    refine Qw 8 ?_
    refine SXL.neStr rfl rfl inferInstance inferInstance rfl rfl rfl rfl ?_
    refine SXL.nil (SXA.next inferInstance ?_)
    refine Qv ?_
    refine SX.cond rfl (fun hq => ?_) (fun hq => ?_)
    · have hxy : x ≠ y := fun e => by
        have h1 := (eqE_iff x y).2 e
        have h2 : (!eqE x y) = true := hq
        rw [h1] at h2
        cases h2
      rw [sameE_no (by rintro rfl; rw [hx] at hy; exact hxy (Option.some.inj hy))] at h
      repeat (first|refine Qa ?_|refine Qd ?_|refine Qe ?_|refine Qf ?_|fail)
      refine SX.ret (M' := F) rfl (Evals.tmp rfl Evals.nil) ?_ inferInstance
      exact h
    · have hxy : x = y := (eqE_iff x y).1 (by
        have h2 : (!eqE x y) = false := hq
        cases h3 : eqE x y with
        | true => rfl
        | false => rw [h3] at h2; cases h2)
      subst hxy
      repeat (first|refine Qa ?_|refine Qd ?_|refine Qe ?_|refine Qg ?_|refine Qi ?_|fail)
      refine SX.same 5 (.int .i64 ((i + 1 : Nat) : Int)) rfl (by simp (disch := omega) only [IntWalk.i64_in, IntWalk.u8_in, IntWalk.u32_in, IntWalk.u64_in, IntWalk.rem_in, Int.natCast_add, Int.natCast_one]) ?_
      refine SX.again (z - 1) (by omega) ⟨i + 1, by omega, ?_, rfl, rfl⟩ (by repeat (first | exact trivial | refine ⟨rfl, ?_⟩)) inferInstance
      obtain ⟨hil, hv⟩ := List.getElem?_eq_some_iff.1 hx
      obtain ⟨hjl, hu⟩ := List.getElem?_eq_some_iff.1 hy
      rw [List.take_succ_eq_append_getElem hil, List.take_succ_eq_append_getElem hjl, htk, hv, hu]
  · have hi' : i = l.length := by omega
    rw [hi', List.take_length, List.take_of_length_le (by omega)] at htk
    rw [(sameE_iff l m).2 htk] at h
    repeat (first|refine Qa ?_|refine Qd ?_|refine Qe ?_|refine Qf ?_|refine Qj ?_|fail)
    refine SX.ret (M' := F) rfl (Evals.tmp rfl Evals.nil) ?_ inferInstance
    exact h
def sameRe (s u : Re) : Bool := (s.client == u.client) && ((s.xid == u.xid) && ((s.st == u.st) && (((s.ai == u.ai) && (s.ag == u.ag)) && (((s.ak == u.ak) && ((s.am == u.am) && ((s.al == u.al) && ((s.sz == u.sz) && (s.ac == u.ac))))) && (((strOfNums s.d).toList == (strOfNums u.d).toList) && (sameE s.e u.e && ((s.eof == u.eof) && ((s.verf == u.verf) && (s.free == u.free)))))))))
set_option maxRecDepth 20000 in
theorem SameRe_S {s u : Re} {B' : Option Addr} {c' : Nat} (hr : Ro kE B F s.e) (hr2 : Ro kE B' F u.e) (hc : s.e.length ≤ c2) (hc' : u.e.length ≤ c') (hl : s.e.length ≤ 4398046510976) (h : K (.returned (.bool (sameRe s u))) F) : Fn (Tryz.prog) 24 [.agg (rrC s B c2).toArray, .agg (rrC u B' c').toArray] F K := by
  unfold rrC
  refine Fn.enter Tryz.call24 Tryz.func24 rfl rfl rfl ?_
  repeat (first|refine Qe ?_|refine Qf ?_|fail)
  refine SXL.box rfl rfl rfl (fun b1 => ?_)
  skip
  refine SXL.box rfl rfl rfl (fun b2 => ?_)
  repeat (first|refine Qa ?_|refine Qb ?_|refine Qd ?_|refine Qe ?_|refine Qf ?_|fail)
  refine SXL.split (s := 10) rfl (fun h10 => ?_) (fun h10 => ?_)
  rotate_left
  · repeat (first|refine Qa ?_|refine Qd ?_|refine Qn ?_|fail)
    refine SX.same 4 (.bool (sameRe s u)) rfl (by simp [sameRe, h10]) ?_
    refine SX.ret (M' := F) rfl (Evals.tmp rfl Evals.nil) ?_ inferInstance
    exact h
  repeat (first|refine Qa ?_|refine Qb ?_|refine Qm ?_|fail)
  refine SXL.split (s := 17) rfl (fun h17 => ?_) (fun h17 => ?_)
  rotate_left
  · repeat (first|refine Qa ?_|refine Qd ?_|refine Qn ?_|fail)
    refine SX.same 4 (.bool (sameRe s u)) rfl (by simp [sameRe, h10, h17]) ?_
    refine SX.ret (M' := F) rfl (Evals.tmp rfl Evals.nil) ?_ inferInstance
    exact h
  repeat (first|refine Qa ?_|refine Qb ?_|refine Qm ?_|fail)
  refine SXL.split (s := 24) rfl (fun h24 => ?_) (fun h24 => ?_)
  rotate_left
  · repeat (first|refine Qa ?_|refine Qd ?_|refine Qn ?_|fail)
    refine SX.same 4 (.bool (sameRe s u)) rfl (by simp [sameRe, h10, h17, h24]) ?_
    refine SX.ret (M' := F) rfl (Evals.tmp rfl Evals.nil) ?_ inferInstance
    exact h
  repeat (first|refine Qa ?_|refine Qb ?_|refine Qm ?_|fail)
  refine SXL.eqStr rfl rfl inferInstance inferInstance rfl rfl rfl rfl ?_
  repeat (first|refine Qa ?_|fail)
  refine SXL.split (s := 31) rfl (fun h31 => ?_) (fun h31 => ?_)
  rotate_left
  · repeat (first|refine Qa ?_|refine Qd ?_|refine Qn ?_|fail)
    refine SX.same 4 (.bool (sameRe s u)) rfl (by simp [sameRe, h10, h17, h24, h31]) ?_
    refine SX.ret (M' := F) rfl (Evals.tmp rfl Evals.nil) ?_ inferInstance
    exact h
  repeat (first|refine Qa ?_|refine Qb ?_|refine Qm ?_|fail)
  refine SXL.eqStr rfl rfl inferInstance inferInstance rfl rfl rfl rfl ?_
  repeat (first|refine Qa ?_|fail)
  refine SXL.split (s := 38) rfl (fun h38 => ?_) (fun h38 => ?_)
  rotate_left
  · repeat (first|refine Qa ?_|refine Qd ?_|refine Qn ?_|fail)
    refine SX.same 4 (.bool (sameRe s u)) rfl (by simp [sameRe, h10, h17, h24, h31, h38]) ?_
    refine SX.ret (M' := F) rfl (Evals.tmp rfl Evals.nil) ?_ inferInstance
    exact h
  repeat (first|refine Qa ?_|refine Qb ?_|refine Qm ?_|fail)
  refine SXL.split (s := 45) rfl (fun h45 => ?_) (fun h45 => ?_)
  rotate_left
  · repeat (first|refine Qa ?_|refine Qd ?_|refine Qn ?_|fail)
    refine SX.same 4 (.bool (sameRe s u)) rfl (by simp [sameRe, h10, h17, h24, h31, h38, h45]) ?_
    refine SX.ret (M' := F) rfl (Evals.tmp rfl Evals.nil) ?_ inferInstance
    exact h
  repeat (first|refine Qa ?_|refine Qb ?_|refine Qm ?_|fail)
  refine SXL.call rfl rfl rfl ?_
  refine (SameE_S (l := s.e) (m := u.e) inferInstance inferInstance hc hc' hl (callK.ret ?_))
  repeat (first|refine Qa ?_|fail)
  refine SXL.split (s := 52) rfl (fun h52 => ?_) (fun h52 => ?_)
  rotate_left
  · repeat (first|refine Qa ?_|refine Qd ?_|refine Qn ?_|fail)
    refine SX.same 4 (.bool (sameRe s u)) rfl (by simp [sameRe, h10, h17, h24, h31, h38, h45, h52]) ?_
    refine SX.ret (M' := F) rfl (Evals.tmp rfl Evals.nil) ?_ inferInstance
    exact h
  repeat (first|refine Qa ?_|refine Qb ?_|refine Qm ?_|fail)
  refine SXL.split (s := 59) rfl (fun h59 => ?_) (fun h59 => ?_)
  rotate_left
  · repeat (first|refine Qa ?_|refine Qd ?_|refine Qn ?_|fail)
    refine SX.same 4 (.bool (sameRe s u)) rfl (by simp [sameRe, h10, h17, h24, h31, h38, h45, h52, h59]) ?_
    refine SX.ret (M' := F) rfl (Evals.tmp rfl Evals.nil) ?_ inferInstance
    exact h
  repeat (first|refine Qa ?_|refine Qb ?_|refine Qm ?_|fail)
  refine SXL.split (s := 66) rfl (fun h66 => ?_) (fun h66 => ?_)
  rotate_left
  · repeat (first|refine Qa ?_|refine Qd ?_|refine Qn ?_|fail)
    refine SX.same 4 (.bool (sameRe s u)) rfl (by simp [sameRe, h10, h17, h24, h31, h38, h45, h52, h59, h66]) ?_
    refine SX.ret (M' := F) rfl (Evals.tmp rfl Evals.nil) ?_ inferInstance
    exact h
  repeat (first|refine Qa ?_|refine Qb ?_|refine Qd ?_|refine Qm ?_|fail)
  refine SX.same 4 (.bool (sameRe s u)) rfl (by simp [sameRe, h10, h17, h24, h31, h38, h45, h52, h59, h66]) ?_
  refine SX.ret (M' := F) rfl (Evals.tmp rfl Evals.nil) ?_ inferInstance
  exact h
end
end Go.Proofs.YtanemmcddgkpdaaGreat.Sx
end
section
/- Chapter 13: things, calls, replies as the model has them; a step's call, walked; conditions: those that each theorem names. -/
namespace Go.Proofs.YtanemmcddgkpdaaGreat.Sx
open Go.RowKit Go.Proofs.YtanemmcddgkpdaaGreat.Hm Go.Proofs.YtanemmcddgkpdaaGreatW.PrintWords Go.Proofs.YtanemmcddgkpdaaGreatW.PrintLast Go.Proofs.YtanemmcddgkpdaaGreatW.PrintMore
set_option linter.unusedVariables false
set_option linter.unusedSimpArgs false
attribute [local irreducible] SX SXL SXA St callK Post Evals
section
variable {F R : List Thing} {K : Ending → List Thing → Prop} {A B C D : Option Addr} {c c2 a1 a2 a3 a4 : Nat}
set_option maxHeartbeats 1000000 in
set_option maxRecDepth 20000 in
theorem replyOf13_S {s : Re} (hr : Ro (Kd.int .u8) A F s.d) (hre : Ro kE B F s.e) (hl : s.e.length ≤ 4398046510976) (hc2 : s.e.length ≤ c2) (h : ∀ B' c', s.e.length ≤ c' → K (.returned (.agg (rrC s B' c').toArray)) (.own B' (rowR kE 109 (.slice B' s.e.length c') s.e) :: F)) : Fn (Tryz.prog) 25 [.agg (reC s A c B c2).toArray] F K := by
  unfold reC
  refine Fn.enter Tryz.call25 Tryz.func25 rfl rfl rfl ?_
  repeat (first|refine Qe ?_|refine Qf ?_|fail)
  refine SXL.box rfl rfl rfl (fun b => ?_)
  skip
  refine SXL.alloc rfl rfl (fun q => ?_)
  repeat (first|refine Qa ?_|refine Qb ?_|refine Qd ?_|refine Qe ?_|refine Qf ?_|fail)
  refine SXL.bytesStr rfl inferInstance rfl Tryz.underlying38 Tryz.underlying5 Tryz.underlying9 rfl ?_
  repeat (first|refine Qa ?_|refine Qb ?_|fail)
  refine SXL.alloc rfl rfl (fun b3 => ?_)
  repeat (first|refine Qa ?_|refine Qc ?_|refine Qd ?_|refine Qe ?_|refine Qf ?_|refine Qh ?_|fail)
  refine SX.loop (fun z a M => ∃ (i : Nat) (B' : Option Addr) (c' : Nat), i + z = s.e.length ∧ (s.e.take i).length ≤ c' ∧ a = [(1, .pointer (some ⟨b, 0, none⟩)), (2, .pointer (some ⟨q, 0, none⟩)), (3, .pointer (some ⟨b3, 0, none⟩)), (4, .int .i64 i)] ∧
      .own B' (rowR kE 109 (.slice B' (s.e.take i).length c') (s.e.take i)) :: .own (some ⟨b3, 0, none⟩) (cellsR b3 (rrC { s with e := s.e.take i } B' c') 55) :: .own (some ⟨q, 0, none⟩) (cellsR q (rrC Re0 none 0) 55) :: .own (some ⟨b, 0, none⟩) (cellsR b (reC s A c B c2) 49) :: F = M)
    s.e.length ⟨0, none, 0, by omega, Nat.le_refl _, rfl, rfl⟩ (by repeat (first | exact trivial | refine ⟨rfl, ?_⟩)) (show Sub _ (.own none (rowR kE 109 (.slice none ([] : List Ent).length 0) []) :: .own (some ⟨b3, 0, none⟩) (cellsR b3 [.int .u32 s.client, .int .u32 s.xid, .int .i64 s.st, .int .u32 s.ai, .int .u32 s.ag, .int .u32 s.ak, .int .u32 s.am, .int .u32 s.al, .int .u32 s.sz, .int .u64 s.ac, .string (strOfNums s.d), .slice none 0 0, .bool s.eof, .int .u64 s.verf, .int .u32 s.free] 55) :: .own (some ⟨q, 0, none⟩) (cellsR q [.int .u32 0, .int .u32 0, .int .i64 0, .int .u32 0, .int .u32 0, .int .u32 0, .int .u32 0, .int .u32 0, .int .u32 0, .int .u64 0, .string ⟨#[]⟩, .slice none 0 0, .bool false, .int .u64 0, .int .u32 0] 55) :: .own (some ⟨b, 0, none⟩) (cellsR b (reC s A c B c2) 49) :: F) from by unfold reC; infer_instance) ?_
  rintro z _ _ ⟨i, B', c', hz, hc', rfl, rfl⟩
  have hti : (s.e.take i).length = i := by rw [List.length_take]; omega
  unfold rrC reC
  repeat (first|refine Qa ?_|refine Qb ?_|refine Qd ?_|refine Qe ?_|refine Qf ?_|fail)
  refine SX.condp rfl (fun hi => ?_) (fun hi => ?_)
  · obtain ⟨e, he⟩ : ∃ e, s.e[i]? = some e := ⟨_, List.getElem?_eq_getElem (by omega)⟩
    refine SX.addr (A := B) kE (by decide) (xs := s.e) (by omega) (fun b4 o4 e4 => ?_)
    subst e4
    repeat (first|refine Qf ?_|refine Qg ?_|refine Qh ?_|fail)
    refine SXA.begin (.own (some ⟨b3, 0, none⟩) (cellsR b3 (rrC { s with e := s.e.take i } B' c') 55) :: .own (some ⟨b, 0, none⟩) (cellsR b (reC s A c (some ⟨b4, o4, none⟩) c2) 49) :: F) [24] ?_
    unfold rrC reC
    refine Qr 0 ?_
    refine Qt 1 ?_
    refine Qr 2 ?_
    refine Qt 3 ?_
    refine Qr 4 ?_
    refine Qr 8 ?_
    refine Qt 9 ?_
    refine Qr 10 ?_
    refine Qr 14 ?_
    refine Qt 15 ?_
    refine Qr 16 ?_
    refine SXA.idx 5 rfl (by decide +kernel) rfl rfl rfl rfl rfl rfl (by omega) (by omega) rfl inferInstance ?_
    refine SXA.idx 11 rfl (by decide +kernel) rfl rfl rfl rfl rfl rfl (by omega) (by omega) rfl inferInstance ?_
    refine SXA.idx 17 rfl (by decide +kernel) rfl rfl rfl rfl rfl rfl (by omega) (by omega) rfl inferInstance ?_
    refine Qr 6 ?_
    refine Qr 12 ?_
    refine Qr 18 ?_
    refine SXA.loadRow1 7 kE rfl (by decide +kernel) rfl rfl rfl inferInstance (by rw [Int.toNat_natCast]; exact he) rfl rfl inferInstance ?_
    refine SXA.loadRow1 13 kE rfl (by decide +kernel) rfl rfl rfl inferInstance (by rw [Int.toNat_natCast]; exact he) rfl rfl inferInstance ?_
    refine SXA.loadRow1 19 kE rfl (by decide +kernel) rfl rfl rfl inferInstance (by rw [Int.toNat_natCast]; exact he) rfl rfl inferInstance ?_
    refine Qr 20 ?_
    refine Qw 21 ?_
    refine SXL.lit rfl rfl (fun g => ?_)
    refine SXL.litRow kE g [e] inferInstance rfl (fun _ => rfl) (by simp) ?_
    refine SXL.nil (SXA.next inferInstance ?_)
    refine Qw 22 ?_
    refine SXL.appendW kE rfl rfl inferInstance inferInstance rfl inferInstance (by simp; omega) rfl (fun A' d' hd' => ?_)
    refine SXL.nil (SXA.next inferInstance ?_)
    refine Qr 23 ?_
    have htk : s.e.take i ++ [e] = s.e.take (i + 1) := by
      obtain ⟨hil, hv⟩ := List.getElem?_eq_some_iff.1 he
      rw [List.take_succ_eq_append_getElem hil, hv]
    rw [htk] at hd' ⊢
    refine SXA.storeLast 24 rfl (by decide +kernel) rfl rfl inferInstance rfl rfl ?_
    refine Qv ?_
    repeat (first|refine Qa ?_|refine Qd ?_|refine Qe ?_|refine Qi ?_|fail)
    refine SX.same 4 (.int .i64 ((i + 1 : Nat) : Int)) rfl (by simp (disch := omega) only [IntWalk.i64_in, IntWalk.u8_in, IntWalk.u32_in, IntWalk.u64_in, IntWalk.rem_in, Int.natCast_add, Int.natCast_one]) ?_
    refine SX.again (z - 1) (by omega) ⟨i + 1, A', d', by omega, hd', rfl, rfl⟩ (by repeat (first | exact trivial | refine ⟨rfl, ?_⟩)) inferInstance
  · have hi' : i = s.e.length := by omega
    rw [hi', List.take_length] at hc' ⊢
    repeat (first|refine Qb ?_|refine Qc ?_|refine Qd ?_|refine Qe ?_|refine Qf ?_|refine Qj ?_|fail)
    refine SX.ret (M' := (.own B' (rowR kE 109 (.slice B' s.e.length c') s.e) :: F)) rfl (Evals.cell rfl inferInstance rfl Evals.nil) ?_ inferInstance
    exact h B' c' hc'
theorem slotOf13_S {s : Sl} (hr : Ro (Kd.int .u8) A F s.d) (h : K (.returned (.agg (srC s).toArray)) F) : Fn (Tryz.prog) 59 [.agg (slC s A c).toArray] F K := by
  unfold slC
  refine Fn.enter Tryz.call59 Tryz.func59 rfl rfl rfl ?_
  repeat (first|refine Qe ?_|refine Qf ?_|fail)
  refine SXL.box rfl rfl rfl (fun b => ?_)
  skip
  refine SXL.alloc rfl rfl (fun q => ?_)
  repeat (first|refine Qa ?_|refine Qb ?_|refine Qd ?_|refine Qe ?_|refine Qf ?_|fail)
  refine SXL.bytesStr rfl inferInstance rfl Tryz.underlying38 Tryz.underlying5 Tryz.underlying9 rfl ?_
  repeat (first|refine Qa ?_|refine Qc ?_|refine Qd ?_|fail)
  refine SX.ret (M' := F) rfl (Evals.cell rfl inferInstance rfl Evals.nil) ?_ inferInstance
  exact h
end
theorem srC_one (s : Sl) : ∀ u ∈ srC s, u.oneCell' = true := by
  intro u hu
  simp only [srC, List.mem_cons, List.not_mem_nil, or_false] at hu
  rcases hu with rfl | rfl | rfl | rfl | rfl | rfl | rfl | rfl | rfl <;> rfl
/-- A thing as the model has it, by its cells. -/
def sX (s : Sl) : CellsN 9 := ⟨srC s, rfl, srC_one s⟩
theorem infoS11 : ((Tryz.prog).info? 94).map (fun i => (i.zero, i.size, i.bytes)) = some (some (.agg #[.int .u32 0, .int .u32 0, .int .u32 0, .int .u32 0, .int .u32 0, .int .u64 0, .int .u64 0, .int .u64 0, .string ⟨#[]⟩]), 9, 64) := by kernel_rfl
instance rowS11 : RowT Tryz.prog (cellsK 9) 29 94 64 := ⟨Tryz.underlying29, ⟨_, infoS11, rfl⟩, by decide, by decide⟩
instance eqS13 : EqT Tryz.prog 94 := ⟨by kernel_rfl, by kernel_rfl, by kernel_rfl⟩
abbrev tlR (A : Option Addr) (c : Nat) (l : List Sl) : Thing := .own A (rowR (cellsK 9) 94 (.slice A (l.map sX).length c) (l.map sX))
section
variable {F R : List Thing} {K : Ending → List Thing → Prop} {b0 cap0 : Nat} {t : Th} {ps : List Pl}
set_option maxRecDepth 20000 in
set_option maxHeartbeats 4000000 in
theorem thingsOf13_S (hB : Ro (cellsK 9) (some ⟨b0, 0, none⟩) F (slZ t.l ps)) (hd : Has (datR t.l ps) F) (hm : t.mid) (hps : ps.length = 24) (hcap : 24 ≤ cap0)
    (h : ∀ A c, (t.l.map sX).length ≤ c → K (.returned (.agg #[.slice A (t.l.map sX).length c, .int .u64 t.ch, .int .i64 t.room])) (tlR A c t.l :: F)) :
    Fn (Tryz.prog) 27 [.agg #[.slice (some ⟨b0, 0, none⟩) 24 cap0, .int .u64 t.ch, .int .i64 t.room]] F K := by
  have hn := hm.n
  refine Fn.enter Tryz.call27 Tryz.func27 rfl rfl rfl ?_
  repeat (first|refine Qe ?_|refine Qf ?_|fail)
  refine SXL.box rfl rfl rfl (fun b1 => ?_)
  skip
  refine SXL.alloc rfl rfl (fun b2 => ?_)
  repeat (first|refine Qa ?_|refine Qb ?_|refine Qd ?_|refine Qe ?_|refine Qf ?_|fail)
  refine SXL.alloc rfl rfl (fun b3 => ?_)
  repeat (first|refine Qa ?_|refine Qc ?_|refine Qd ?_|refine Qe ?_|refine Qf ?_|refine Qh ?_|fail)
  refine SX.loop (fun z a M => ∃ (i : Nat) (A : Option Addr) (c : Nat), i + z = 24 ∧ ((t.l.take i).map sX).length ≤ c ∧ a = [(1, .pointer (some ⟨b1, 0, none⟩)), (2, .pointer (some ⟨b2, 0, none⟩)), (3, .pointer (some ⟨b3, 0, none⟩)), (4, .int .i64 i)] ∧
      (tlR A c (t.l.take i) :: .own (some ⟨b3, 0, none⟩) (cellsR b3 [.slice A ((t.l.take i).map sX).length c, .int .u64 t.ch, .int .i64 t.room] 31) :: .own (some ⟨b2, 0, none⟩) (cellsR b2 [.slice none 0 0, .int .u64 0, .int .i64 0] 31) :: .own (some ⟨b1, 0, none⟩) (cellsR b1 [.slice (some ⟨b0, 0, none⟩) 24 cap0, .int .u64 t.ch, .int .i64 t.room] 27) :: F) = M)
    24 ⟨0, none, 0, by omega, by simp, rfl, rfl⟩ (by repeat (first | exact trivial | refine ⟨rfl, ?_⟩)) (by unfold tlR; rw [List.take_zero, List.map_nil]; simp only [List.length_nil]; infer_instance) ?_
  rintro z _ _ ⟨i, A, c, hz, hc, rfl, rfl⟩
  have htl : ((t.l.take i).map sX).length = i := by rw [List.length_map, List.length_take]; omega
  repeat (first|refine Qa ?_|refine Qb ?_|refine Qd ?_|refine Qe ?_|refine Qf ?_|fail)
  refine SX.condp rfl (fun hi => ?_) (fun hi => ?_)
  · have hi24 : i < 24 := by omega
    obtain ⟨s, hs⟩ : ∃ s, t.l[i]? = some s := ⟨_, List.getElem?_eq_getElem (by omega)⟩
    obtain ⟨x, hx⟩ : ∃ x, ps[i]? = some x := ⟨_, List.getElem?_eq_getElem (by omega)⟩
    have hz9 := slZ_get hs hx
    refine SX.derive (datR t.l ps) (roR (Kd.int .u8) x.1 s.d) (fun w S h => (h.2 i s x hs hx).2) ?_
    repeat (first|refine Qf ?_|refine Qg ?_|refine Qh ?_|fail)
    refine SXA.begin (.own (some ⟨b3, 0, none⟩) (cellsR b3 [.slice A ((t.l.take i).map sX).length c, .int .u64 t.ch, .int .i64 t.room] 31) :: .own (some ⟨b2, 0, none⟩) (cellsR b2 [.slice none 0 0, .int .u64 0, .int .i64 0] 31) :: .own (some ⟨b1, 0, none⟩) (cellsR b1 [.slice (some ⟨b0, 0, none⟩) 24 cap0, .int .u64 t.ch, .int .i64 t.room] 27) :: .per (roR (Kd.int .u8) x.1 s.d) :: F) [11] ?_
    refine Qr 0 ?_
    refine Qr 2 ?_
    refine Qr 4 ?_
    refine Qt 1 ?_
    refine Qt 3 ?_
    refine SXA.idx 5 rfl (by decide +kernel) rfl rfl rfl rfl rfl rfl (by omega) (by omega) rfl inferInstance ?_
    refine SXA.loadRow 6 (cellsK 9) rfl (by decide +kernel) rfl rfl rfl inferInstance (by rw [Int.toNat_natCast]; exact hz9) rfl rfl inferInstance ?_
    refine Qw 7 ?_
    refine SXL.call rfl rfl rfl ?_
    refine (slotOf13_S (s := s) (A := x.1) (c := x.2) inferInstance (callK.ret ?_))
    refine SXL.nil (SXA.next inferInstance ?_)
    refine Qw 8 ?_
    refine SXL.lit rfl rfl (fun g => ?_)
    refine SXL.litRow (cellsK 9) g [sX s] inferInstance rfl (fun x => x.2.1) (by simp) ?_
    refine SXL.nil (SXA.next inferInstance ?_)
    refine Qw 9 ?_
    refine SXL.appendW (cellsK 9) rfl rfl inferInstance inferInstance rfl inferInstance (by rw [htl]; show (_ + 1 + (_ + 1) / 4 + 192) * 64 ≤ _; omega) rfl (fun A1 c1 hc1 => ?_)
    have e1 : (t.l.take i).map sX ++ [sX s] = (t.l.take (i + 1)).map sX := by
      obtain ⟨h8, h9⟩ := List.getElem?_eq_some_iff.1 hs
      rw [List.take_succ_eq_append_getElem h8, h9, List.map_append]
      rfl
    rw [e1] at hc1 ⊢
    refine SXL.nil (SXA.next inferInstance ?_)
    refine Qr 10 ?_
    refine SXA.storeLast 11 rfl (by decide +kernel) rfl rfl inferInstance rfl rfl ?_
    refine Qv ?_
    repeat (first|refine Qa ?_|refine Qd ?_|refine Qe ?_|refine Qi ?_|fail)
    refine SX.same 4 (.int .i64 ((i + 1 : Nat) : Int)) rfl (by simp (disch := omega) only [IntWalk.i64_in, IntWalk.u8_in, IntWalk.u32_in, IntWalk.u64_in, IntWalk.rem_in, Int.natCast_add, Int.natCast_one]) ?_
    refine SX.again (z - 1) (by omega) ⟨i + 1, A1, c1, by omega, hc1, rfl, rfl⟩ (by repeat (first | exact trivial | refine ⟨rfl, ?_⟩)) inferInstance
  have hi24 : i = 24 := by omega
  have htk : t.l.take i = t.l := List.take_of_length_le (by omega)
  rw [htk] at hc ⊢
  repeat (first|refine Qb ?_|refine Qc ?_|refine Qd ?_|refine Qe ?_|refine Qf ?_|refine Qj ?_|fail)
  refine SX.ret (M' := (tlR A c t.l :: F)) rfl (Evals.cell rfl inferInstance rfl Evals.nil) ?_ inferInstance
  exact h A c hc
theorem RSame13_S {A B : Option Addr} {c d : Nat} {l : List Sl} {ch room : Int} (hA : Ro (cellsK 9) A F (l.map sX)) (hB : Ro (cellsK 9) B F (l.map sX)) (hc : (l.map sX).length ≤ c) (hd : (l.map sX).length ≤ d) (hl : l.length ≤ 100) (h : K (.returned (.bool true)) F) :
    Fn (Tryz.prog) 26 [.agg #[.slice A (l.map sX).length c, .int .u64 ch, .int .i64 room], .agg #[.slice B (l.map sX).length d, .int .u64 ch, .int .i64 room]] F K := by
  have hml : (l.map sX).length = l.length := List.length_map ..
  refine Fn.enter Tryz.call26 Tryz.func26 rfl rfl rfl ?_
  repeat (first|refine Qe ?_|refine Qf ?_|fail)
  refine SXL.box rfl rfl rfl (fun b1 => ?_)
  skip
  refine SXL.box rfl rfl rfl (fun b2 => ?_)
  repeat (first|refine Qa ?_|refine Qb ?_|refine Qd ?_|refine Qe ?_|refine Qf ?_|fail)
  refine SXL.know 13 false rfl (by simp) ?_
  repeat (first|refine Qa ?_|refine Qb ?_|refine Qm ?_|fail)
  refine SXL.know 20 false rfl (by simp) ?_
  repeat (first|refine Qa ?_|refine Qb ?_|refine Qd ?_|refine Qm ?_|fail)
  refine SX.know 26 false rfl (by simp) ?_
  repeat (first|refine Qa ?_|refine Qd ?_|refine Qe ?_|refine Qf ?_|refine Qg ?_|refine Qh ?_|refine Ql ?_|fail)
  refine SX.loop (fun z a M => ∃ i : Nat, i + z = l.length ∧ a = [(2, .pointer (some ⟨b1, 0, none⟩)), (3, .pointer (some ⟨b2, 0, none⟩)), (5, .int .i64 i)] ∧ (.own (some ⟨b2, 0, none⟩) (cellsR b2 [.slice B (l.map sX).length d, .int .u64 ch, .int .i64 room] 31) :: .own (some ⟨b1, 0, none⟩) (cellsR b1 [.slice A (l.map sX).length c, .int .u64 ch, .int .i64 room] 31) :: F) = M) l.length ⟨0, by omega, rfl, rfl⟩ (by repeat (first | exact trivial | refine ⟨rfl, ?_⟩)) inferInstance ?_
  rintro z _ _ ⟨i, hz, rfl, rfl⟩
  repeat (first|refine Qa ?_|refine Qb ?_|refine Qd ?_|refine Qe ?_|refine Qf ?_|fail)
  refine SX.condp rfl (fun hi => ?_) (fun hi => ?_)
  rotate_left
  · repeat (first|refine Qa ?_|refine Qd ?_|refine Qe ?_|refine Qf ?_|refine Qj ?_|fail)
    refine SX.ret (M' := F) rfl (Evals.tmp rfl Evals.nil) ?_ inferInstance
    exact h
  have hil : i < l.length := by omega
  obtain ⟨s, hs⟩ : ∃ s, l[i]? = some s := ⟨_, List.getElem?_eq_getElem hil⟩
  have hsX : (l.map sX)[i]? = some (sX s) := by rw [List.getElem?_map, hs]; rfl
  refine SX.addr (A := A) (cellsK 9) (by decide) (xs := l.map sX) (by omega) (fun ba oa ea => ?_)
  subst ea
  refine SX.addr (A := B) (cellsK 9) (by decide) (xs := l.map sX) (by omega) (fun bb ob eb => ?_)
  subst eb
  repeat (first|refine Qf ?_|refine Qg ?_|refine Qh ?_|fail)
  refine SXA.begin (.own (some ⟨b2, 0, none⟩) (cellsR b2 [.slice (some ⟨bb, ob, none⟩) (l.map sX).length d, .int .u64 ch, .int .i64 room] 31) :: .own (some ⟨b1, 0, none⟩) (cellsR b1 [.slice (some ⟨ba, oa, none⟩) (l.map sX).length c, .int .u64 ch, .int .i64 room] 31) :: F) [] ?_
  refine Qr 0 ?_
  refine Qr 2 ?_
  refine Qr 5 ?_
  refine Qr 7 ?_
  refine Qt 1 ?_
  refine Qt 6 ?_
  refine SXA.idx 3 rfl (by decide +kernel) rfl rfl rfl rfl rfl rfl (by omega) (by omega) rfl inferInstance ?_
  refine SXA.idx 8 rfl (by decide +kernel) rfl rfl rfl rfl rfl rfl (by omega) (by omega) rfl inferInstance ?_
  refine SXA.loadRow 4 (cellsK 9) rfl (by decide +kernel) rfl rfl rfl inferInstance (by rw [Int.toNat_natCast]; exact hsX) rfl rfl inferInstance ?_
  refine SXA.loadRow 9 (cellsK 9) rfl (by decide +kernel) rfl rfl rfl inferInstance (by rw [Int.toNat_natCast]; exact hsX) rfl rfl inferInstance ?_
  refine Qw 10 ?_
  refine SXL.neAgg rfl rfl eqS13 rfl rfl rfl rfl ?_
  refine SXL.nil (SXA.next inferInstance ?_)
  refine Qv ?_
  refine SX.know 44 false rfl (by simp) ?_
  repeat (first|refine Qa ?_|refine Qd ?_|refine Qe ?_|refine Qg ?_|refine Qi ?_|refine Ql ?_|fail)
  refine SX.same 5 (.int .i64 ((i + 1 : Nat) : Int)) rfl (by simp (disch := omega) only [IntWalk.i64_in, IntWalk.u8_in, IntWalk.u32_in, IntWalk.u64_in, IntWalk.rem_in, Int.natCast_add, Int.natCast_one]) ?_
  refine SX.again (z - 1) (by omega) ⟨i + 1, by omega, rfl, rfl⟩ (by repeat (first | exact trivial | refine ⟨rfl, ?_⟩)) inferInstance
end
end Go.Proofs.YtanemmcddgkpdaaGreat.Sx
end
section
/- Chapter 13: a script's steps, and their calls, walked; conditions: those that each theorem names. -/
namespace Go.Proofs.YtanemmcddgkpdaaGreat.Sx
open Go.RowKit Go.Proofs.YtanemmcddgkpdaaGreat.Hm Go.Proofs.YtanemmcddgkpdaaGreatW.PrintWords Go.Proofs.YtanemmcddgkpdaaGreatW.PrintLast Go.Proofs.YtanemmcddgkpdaaGreatW.PrintMore
set_option linter.unusedVariables false
set_option linter.unusedSimpArgs false
attribute [local irreducible] SX SXL SXA St callK Post Evals
/-- A step of a script. -/
structure Stp where
  op : Int
  which : Int
  tt : Int
  n1 : Int
  n2 : Int
  off : Int
  cnt : Int
  mode : Int
  verf : Int
  d : List Int
  raw : Bool
  ai : Int
  ag : Int
def kStep : Kd Stp := Kd.iso (Kd.pair (Kd.int .u8) (Kd.pair (Kd.int .u8) (Kd.pair (Kd.int .u8) (Kd.pair (Kd.int .u8) (Kd.pair (Kd.int .u8) (Kd.pair (Kd.int .u16) (Kd.pair (Kd.int .u8) (Kd.pair (Kd.int .u16) (Kd.pair (Kd.int .u8) (Kd.pair (Kd.slice 5 (Kd.int .u8)) (Kd.pair Kd.bool (Kd.iso (Kd.pair (Kd.int .u32) (Kd.int .u32)) id)))))))))))) (fun e => (e.op, e.which, e.tt, e.n1, e.n2, e.off, e.cnt, e.mode, e.verf, e.d, e.raw, (e.ai, e.ag)))
def okStep (e : Stp) : Prop := (Lit.int .u8 e.op).wf = true ∧ (Lit.int .u8 e.which).wf = true ∧ (Lit.int .u8 e.tt).wf = true ∧ (Lit.int .u8 e.n1).wf = true ∧ (Lit.int .u8 e.n2).wf = true ∧ (Lit.int .u16 e.off).wf = true ∧ (Lit.int .u8 e.cnt).wf = true ∧ (Lit.int .u16 e.mode).wf = true ∧ (Lit.int .u8 e.verf).wf = true ∧ (e.d.length ≤ maxLen ∧ ∀ x ∈ e.d, (Lit.int .u8 x).wf = true) ∧ True ∧ ((Lit.int .u32 e.ai).wf = true ∧ (Lit.int .u32 e.ag).wf = true)
structure Stp.wf (e : Stp) : Prop where
  op : 0 ≤ e.op ∧ e.op < 256
  which : 0 ≤ e.which ∧ e.which < 256
  tt : 0 ≤ e.tt ∧ e.tt < 256
  n1 : 0 ≤ e.n1 ∧ e.n1 < 256
  n2 : 0 ≤ e.n2 ∧ e.n2 < 256
  off : 0 ≤ e.off ∧ e.off < 65536
  cnt : 0 ≤ e.cnt ∧ e.cnt < 256
  mode : 0 ≤ e.mode ∧ e.mode < 65536
  verf : 0 ≤ e.verf ∧ e.verf < 256
  d : bytesB e.d = true
  ai : u32ok e.ai
  ag : u32ok e.ag
theorem Stp.of_ok {e : Stp} (h : okStep e) : e.wf := by
  obtain ⟨h0, h1, h2, h3, h4, h5, h6, h7, h8, ⟨_, h9⟩, _, ha, hb⟩ := h
  exact ⟨u8_of_wf _ h0, u8_of_wf _ h1, u8_of_wf _ h2, u8_of_wf _ h3, u8_of_wf _ h4, u16_of_wf _ h5, u8_of_wf _ h6, u16_of_wf _ h7, u8_of_wf _ h8, bytesB_of_wf _ h9, u32_of_wf _ ha, u32_of_wf _ hb⟩
def stC (e : Stp) (x : Option Addr × Nat) : List Value := [.int .u8 e.op, .int .u8 e.which, .int .u8 e.tt, .int .u8 e.n1, .int .u8 e.n2, .int .u16 e.off, .int .u8 e.cnt, .int .u16 e.mode, .int .u8 e.verf, .slice x.1 e.d.length x.2, .bool e.raw, .int .u32 e.ai, .int .u32 e.ag]
theorem fk_iso' {α β : Type} {w : World} {S : Nat → Prop} {cs : List Value} {d : Kd α} {f : β → α} {x : β} (h : Kd.FK (Kd.iso d f) w S x cs) : Kd.FK d w S (f x) cs := h
theorem step_open {w : World} {S : Nat → Prop} {e : Stp} {cs : List Value} (h : Kd.FK kStep w S e cs) : ∃ x : Option Addr × Nat, cs = stC e x ∧ ∀ r ∈ [pureR (e.d.length ≤ x.2), roR (Kd.int .u8) x.1 e.d], r.P w S := by
  have h0 := fk_iso' h
  obtain ⟨c10, r10, rfl, h10, g10⟩ := fk_pair h0
  obtain rfl := fk_flat h10
  obtain ⟨c12, r12, rfl, h12, g12⟩ := fk_pair g10
  obtain rfl := fk_flat h12
  obtain ⟨c14, r14, rfl, h14, g14⟩ := fk_pair g12
  obtain rfl := fk_flat h14
  obtain ⟨c16, r16, rfl, h16, g16⟩ := fk_pair g14
  obtain rfl := fk_flat h16
  obtain ⟨c18, r18, rfl, h18, g18⟩ := fk_pair g16
  obtain rfl := fk_flat h18
  obtain ⟨c20, r20, rfl, h20, g20⟩ := fk_pair g18
  obtain rfl := fk_flat h20
  obtain ⟨c22, r22, rfl, h22, g22⟩ := fk_pair g20
  obtain rfl := fk_flat h22
  obtain ⟨c24, r24, rfl, h24, g24⟩ := fk_pair g22
  obtain rfl := fk_flat h24
  obtain ⟨c26, r26, rfl, h26, g26⟩ := fk_pair g24
  obtain rfl := fk_flat h26
  obtain ⟨c28, r28, rfl, h28, g28⟩ := fk_pair g26
  obtain ⟨A19, k19, rfl, l19, o19⟩ := fk_row h28
  obtain ⟨c30, r30, rfl, h30, g30⟩ := fk_pair g28
  obtain rfl := fk_flat h30
  have s22 := fk_iso' g30
  obtain ⟨c33, r33, rfl, h33, g33⟩ := fk_pair s22
  obtain rfl := fk_flat h33
  obtain rfl := fk_flat g33
  refine ⟨(A19, k19), rfl, ?_⟩
  intro r hr
  simp only [List.mem_cons, List.not_mem_nil, or_false] at hr
  rcases hr with rfl | rfl
  · exact l19
  · exact o19
theorem heapStep : Kd.Heap kStep := by
  unfold kStep
  exact Kd.heap_iso _ (Kd.heap_pair (Kd.heap_int _) (Kd.heap_pair (Kd.heap_int _) (Kd.heap_pair (Kd.heap_int _) (Kd.heap_pair (Kd.heap_int _) (Kd.heap_pair (Kd.heap_int _) (Kd.heap_pair (Kd.heap_int _) (Kd.heap_pair (Kd.heap_int _) (Kd.heap_pair (Kd.heap_int _) (Kd.heap_pair (Kd.heap_int _) (Kd.heap_pair (Kd.heap_slice _ (Kd.heap_int _)) (Kd.heap_pair Kd.heap_bool (Kd.heap_iso _ (Kd.heap_pair (Kd.heap_int _) (Kd.heap_int _))))))))))))))
/-- A step's call. -/
def askM (e : Stp) (told : List (Int × Int)) (xid : Int) : Ca :=
  ⟨1, xid, e.op % 18, if e.raw = true then e.ai else (told.getD (e.which.toNat % told.length) (0, 0)).1, if e.raw = true then e.ag else (told.getD (e.which.toNat % told.length) (0, 0)).2, nm (e.n1.toNat % 12), (told.getD (e.tt.toNat % told.length) (0, 0)).1, (told.getD (e.tt.toNat % told.length) (0, 0)).2, nm (e.n2.toNat % 12),
    if e.op % 18 = 3 ∧ 3 < e.off then 1 else e.off, e.verf, e.cnt, e.mode, e.d⟩
section
variable {F : List Thing} {K : Ending → List Thing → Prop} {A : Option Addr} {c : Nat} {e : Stp} {x : Option Addr × Nat} {told : List (Int × Int)} {xid : Int}
set_option maxRecDepth 20000 in
set_option maxHeartbeats 8000000 in
theorem asked13_S (hr : Ro (cellsK 2) A F (told.map hX)) (hc : (told.map hX).length ≤ c) (hl0 : 0 < told.length) (hl : told.length ≤ 1000) (he : e.wf) (h : K (.returned (.agg (caC (askM e told xid) x.1 x.2).toArray)) F) : Fn (Tryz.prog) 20 [.agg (stC e x).toArray, .slice A (told.map hX).length c, .int .u32 xid] F K := by
  have hml : (told.map hX).length = told.length := List.length_map ..
  have w_op : IntKind.u32.wrap (e.op.tmod 18) = e.op % 18 := by rw [Int.tmod_eq_emod_of_nonneg he.op.1]; exact IntWalk.u32_in _ (by have := he.op; omega)
  have w_off : IntKind.u64.wrap e.off = e.off := IntWalk.u64_in _ (by have := he.off; omega)
  have w_cnt : IntKind.u32.wrap e.cnt = e.cnt := IntWalk.u32_in _ (by have := he.cnt; omega)
  have w_mode : IntKind.u32.wrap e.mode = e.mode := IntWalk.u32_in _ (by have := he.mode; omega)
  have w_verf : IntKind.u64.wrap e.verf = e.verf := IntWalk.u64_in _ (by have := he.verf; omega)
  have w_wh : IntKind.i64.wrap e.which = e.which := IntWalk.i64_in _ (by have := he.which; omega)
  have w_tt : IntKind.i64.wrap e.tt = e.tt := IntWalk.i64_in _ (by have := he.tt; omega)
  obtain ⟨wi, hwi⟩ : ∃ wi : Nat, wi = e.which.toNat % told.length := ⟨_, rfl⟩
  obtain ⟨ti, hti⟩ : ∃ ti : Nat, ti = e.tt.toNat % told.length := ⟨_, rfl⟩
  have hwl : wi < told.length := by rw [hwi]; exact Nat.mod_lt _ hl0
  have htl : ti < told.length := by rw [hti]; exact Nat.mod_lt _ hl0
  have t_wh : e.which.tmod (((told.map hX).length : Nat) : Int) = (wi : Int) := by rw [hml, Int.tmod_eq_emod_of_nonneg he.which.1, hwi, Int.natCast_emod, Int.toNat_of_nonneg he.which.1]
  have t_tt : e.tt.tmod (((told.map hX).length : Nat) : Int) = (ti : Int) := by rw [hml, Int.tmod_eq_emod_of_nonneg he.tt.1, hti, Int.natCast_emod, Int.toNat_of_nonneg he.tt.1]
  obtain ⟨a, ha⟩ : ∃ a, told[wi]? = some a := ⟨_, List.getElem?_eq_getElem hwl⟩
  obtain ⟨b, hb⟩ : ∃ b, told[ti]? = some b := ⟨_, List.getElem?_eq_getElem htl⟩
  have haX : (told.map hX)[wi]? = some (hX a) := by rw [List.getElem?_map, ha]; rfl
  have hbX : (told.map hX)[ti]? = some (hX b) := by rw [List.getElem?_map, hb]; rfl
  have haD : told.getD (e.which.toNat % told.length) (0, 0) = a := by rw [← hwi, List.getD_eq_getElem?_getD, ha]; rfl
  have hbD : told.getD (e.tt.toNat % told.length) (0, 0) = b := by rw [← hti, List.getD_eq_getElem?_getD, hb]; rfl
  unfold askM at h
  rw [haD, hbD] at h
  refine Fn.enter Tryz.call20 Tryz.func20 rfl rfl rfl ?_
  repeat (first|refine Qe ?_|refine Qf ?_|fail)
  refine SXL.box rfl rfl rfl (fun p3 => ?_)
  skip
  refine SXL.alloc rfl rfl (fun p6 => ?_)
  repeat (first|refine Qd ?_|refine Qf ?_|fail)
  refine SX.cut (fun a' M' => ∃ p7 : Nat, a' = [(1, .slice A (told.map hX).length c), (3, .pointer (some ⟨p3, 0, none⟩)), (6, .pointer (some ⟨p6, 0, none⟩)), (7, .pointer (some ⟨p7, 0, none⟩))] ∧ (.own (some ⟨p7, 0, none⟩) (cellsR p7 [.int .u32 1, .int .u32 xid, .int .u32 (e.op % 18), .int .u32 0, .int .u32 0, .string (nm (e.n1.toNat % 12)), .int .u32 0, .int .u32 0, .string (nm (e.n2.toNat % 12)), .int .u64 e.off, .int .u64 e.verf, .int .u32 e.cnt, .int .u32 e.mode, .slice x.1 e.d.length x.2] 42) :: .own (some ⟨p6, 0, none⟩) (cellsR p6 [.int .u32 0, .int .u32 0, .int .u32 0, .int .u32 0, .int .u32 0, .string ⟨#[]⟩, .int .u32 0, .int .u32 0, .string ⟨#[]⟩, .int .u64 0, .int .u64 0, .int .u32 0, .int .u32 0, .slice none 0 0] 42) :: .own (some ⟨p3, 0, none⟩) (cellsR p3 (stC e x) 40) :: F) = M') ?_ ?_
  · refine SXA.begin (.own (some ⟨p6, 0, none⟩) (cellsR p6 [.int .u32 0, .int .u32 0, .int .u32 0, .int .u32 0, .int .u32 0, .string ⟨#[]⟩, .int .u32 0, .int .u32 0, .string ⟨#[]⟩, .int .u64 0, .int .u64 0, .int .u32 0, .int .u32 0, .slice none 0 0] 42) :: .own (some ⟨p3, 0, none⟩) (cellsR p3 (stC e x) 40) :: F) [27] ?_
    unfold stC
    refine Qr 0 ?_
    refine Qr 1 ?_
    refine Qr 5 ?_
    refine Qr 8 ?_
    refine Qr 11 ?_
    refine Qr 14 ?_
    refine Qr 17 ?_
    refine Qr 20 ?_
    refine Qr 23 ?_
    refine Qt 2 ?_
    refine Qt 6 ?_
    refine Qt 9 ?_
    refine Qt 12 ?_
    refine Qt 15 ?_
    refine Qt 18 ?_
    refine Qt 21 ?_
    refine Qt 24 ?_
    refine Qr 3 ?_
    refine Qr 13 ?_
    rw [w_off]
    refine Qr 16 ?_
    rw [w_cnt]
    refine Qr 19 ?_
    rw [w_mode]
    refine Qr 22 ?_
    rw [w_verf]
    refine Qr 4 ?_
    rw [w_op]
    refine SXA.all [7, 26] (by decide +kernel) (Each.cons rfl ?_ (Each.cons rfl ?_ Each.nil))
    · skip
      refine SXL.call rfl rfl rfl ?_
      refine (named13_S (k := e.n1) he.n1.1 he.n1.2 (callK.ret ?_))
      refine SXL.nil (SXA.next inferInstance ?_)
      refine SXA.all [10, 26] (by decide +kernel) (Each.cons rfl ?_ (Each.cons rfl ?_ Each.nil))
      · skip
        refine SXL.call rfl rfl rfl ?_
        refine (named13_S (k := e.n2) he.n2.1 he.n2.2 (callK.ret ?_))
        refine SXL.nil (SXA.next inferInstance ?_)
        refine Qr 25 ?_
        refine Qw 26 ?_
        refine SXL.alloc rfl rfl (fun p7 => ?_)
        refine SXL.nil (SXA.next inferInstance ?_)
        refine Qw 27 ?_
        refine Qc ?_
        refine SXL.nil (SXA.nextLast rfl ?_)
        refine Qv ?_
        refine SX.meet ⟨p7, rfl, rfl⟩ (by repeat (first | exact trivial | refine ⟨rfl, ?_⟩)) inferInstance
      · skip
        refine SXL.alloc rfl rfl (fun p7 => ?_)
        refine SXL.nil (SXA.next inferInstance ?_)
        refine Qw 10 ?_
        refine SXL.call rfl rfl rfl ?_
        refine (named13_S (k := e.n2) he.n2.1 he.n2.2 (callK.ret ?_))
        refine SXL.nil (SXA.next inferInstance ?_)
        refine Qr 25 ?_
        refine Qw 27 ?_
        refine Qc ?_
        refine SXL.nil (SXA.nextLast rfl ?_)
        refine Qv ?_
        refine SX.meet ⟨p7, rfl, rfl⟩ (by repeat (first | exact trivial | refine ⟨rfl, ?_⟩)) inferInstance
    · skip
      refine SXL.alloc rfl rfl (fun p7 => ?_)
      refine SXL.nil (SXA.next inferInstance ?_)
      refine Qw 7 ?_
      refine SXL.call rfl rfl rfl ?_
      refine (named13_S (k := e.n1) he.n1.1 he.n1.2 (callK.ret ?_))
      refine SXL.nil (SXA.next inferInstance ?_)
      refine Qw 10 ?_
      refine SXL.call rfl rfl rfl ?_
      refine (named13_S (k := e.n2) he.n2.1 he.n2.2 (callK.ret ?_))
      refine SXL.nil (SXA.next inferInstance ?_)
      refine Qr 25 ?_
      refine Qw 27 ?_
      refine Qc ?_
      refine SXL.nil (SXA.nextLast rfl ?_)
      refine Qv ?_
      refine SX.meet ⟨p7, rfl, rfl⟩ (by repeat (first | exact trivial | refine ⟨rfl, ?_⟩)) inferInstance
  rintro _ _ ⟨p7, rfl, rfl⟩
  refine SX.addr (A := A) (cellsK 2) (by decide) (xs := told.map hX) (by omega) (fun bA oA eA => ?_)
  subst eA
  unfold stC
  repeat (first|refine Qa ?_|refine Qb ?_|refine Qe ?_|refine Qf ?_|fail)
  rw [w_wh]
  refine SXL.rem (v := (((told.map hX).length : Nat) : Int)) rfl rfl (by omega) rfl ?_
  rw [t_wh]
  skip
  refine SXL.idx rfl rfl rfl rfl rfl (by omega) (by omega) rfl ?_
  skip
  refine SXL.loadRow (cellsK 2) rfl rfl inferInstance (by rw [Int.toNat_natCast]; exact haX) rfl rfl ?_
  repeat (first|refine Qa ?_|refine Qb ?_|refine Qc ?_|refine Qd ?_|refine Qe ?_|refine Qf ?_|fail)
  rw [w_tt]
  refine SXL.rem (v := (((told.map hX).length : Nat) : Int)) rfl rfl (by omega) rfl ?_
  rw [t_tt]
  skip
  refine SXL.idx rfl rfl rfl rfl rfl (by omega) (by omega) rfl ?_
  skip
  refine SXL.loadRow (cellsK 2) rfl rfl inferInstance (by rw [Int.toNat_natCast]; exact hbX) rfl rfl ?_
  repeat (first|refine Qa ?_|refine Qb ?_|refine Qc ?_|refine Qd ?_|refine Qe ?_|refine Qf ?_|fail)
  obtain ⟨ai, hai⟩ : ∃ ai, ai = if e.raw = true then e.ai else a.1 := ⟨_, rfl⟩
  obtain ⟨ag, hag⟩ : ∃ ag, ag = if e.raw = true then e.ag else a.2 := ⟨_, rfl⟩
  obtain ⟨off, hoff⟩ : ∃ off, off = if e.op % 18 = 3 ∧ 3 < e.off then 1 else e.off := ⟨_, rfl⟩
  rw [← hai, ← hag, ← hoff] at h
  refine SX.cut (fun a' M' => a' = [(3, .pointer (some ⟨p3, 0, none⟩)), (6, .pointer (some ⟨p6, 0, none⟩)), (7, .pointer (some ⟨p7, 0, none⟩))] ∧ (.own (some ⟨p7, 0, none⟩) (cellsR p7 [.int .u32 1, .int .u32 xid, .int .u32 (e.op % 18), .int .u32 ai, .int .u32 ag, .string (nm (e.n1.toNat % 12)), .int .u32 b.1, .int .u32 b.2, .string (nm (e.n2.toNat % 12)), .int .u64 e.off, .int .u64 e.verf, .int .u32 e.cnt, .int .u32 e.mode, .slice x.1 e.d.length x.2] 42) :: .own (some ⟨p6, 0, none⟩) (cellsR p6 [.int .u32 0, .int .u32 0, .int .u32 0, .int .u32 0, .int .u32 0, .string ⟨#[]⟩, .int .u32 0, .int .u32 0, .string ⟨#[]⟩, .int .u64 0, .int .u64 0, .int .u32 0, .int .u32 0, .slice none 0 0] 42) :: F) = M') ?_ ?_
  · refine SX.cond rfl (fun hw => ?_) (fun hw => ?_)
    · rw [if_pos hw] at hai hag
      subst hai; subst hag
      repeat (first|refine Qa ?_|refine Qb ?_|refine Qc ?_|refine Qd ?_|refine Qe ?_|fail)
      refine SX.meet ⟨rfl, rfl⟩ (by repeat (first | exact trivial | refine ⟨rfl, ?_⟩)) inferInstance
    · rw [if_neg (by rw [hw]; decide)] at hai hag
      subst hai; subst hag
      repeat (first|refine Qg ?_|fail)
      refine SX.meet ⟨rfl, rfl⟩ (by repeat (first | exact trivial | refine ⟨rfl, ?_⟩)) inferInstance
  rintro _ _ ⟨rfl, rfl⟩
  repeat (first|refine Qa ?_|refine Qb ?_|refine Qe ?_|refine Qf ?_|fail)
  by_cases h3 : e.op % 18 = 3
  · refine SXL.know 62 true rfl (by rw [h3]; rfl) ?_
    repeat (first|refine Qa ?_|refine Qb ?_|refine Qd ?_|refine Qm ?_|fail)
    by_cases h4 : 3 < e.off
    · rw [if_pos ⟨h3, h4⟩] at hoff
      subst hoff
      refine SX.know 66 true rfl (decide_eq_true h4) ?_
      repeat (first|refine Qa ?_|refine Qb ?_|refine Qc ?_|refine Qd ?_|refine Qe ?_|refine Qf ?_|refine Qk ?_|fail)
      refine SX.ret (M' := F) rfl (Evals.cell rfl inferInstance rfl Evals.nil) ?_ inferInstance
      exact h
    · rw [if_neg (fun h => h4 h.2)] at hoff
      subst hoff
      refine SX.know 66 false rfl (decide_eq_false h4) ?_
      repeat (first|refine Qb ?_|refine Qc ?_|refine Qd ?_|refine Qe ?_|refine Qf ?_|refine Qg ?_|refine Ql ?_|fail)
      refine SX.ret (M' := F) rfl (Evals.cell rfl inferInstance rfl Evals.nil) ?_ inferInstance
      exact h
  · rw [if_neg (fun h => h3 h.1)] at hoff
    subst hoff
    refine SXL.know 62 false rfl (by simpa using h3) ?_
    repeat (first|refine Qa ?_|refine Qb ?_|refine Qc ?_|refine Qd ?_|refine Qe ?_|refine Qf ?_|refine Qg ?_|refine Ql ?_|refine Qn ?_|fail)
    refine SX.ret (M' := F) rfl (Evals.cell rfl inferInstance rfl Evals.nil) ?_ inferInstance
    exact h
end
end Go.Proofs.YtanemmcddgkpdaaGreat.Sx
end
section
/- Chapter 13: what a reply tells, and what only asks changes nothing, pure; conditions: those that each theorem names. -/
namespace Go.Proofs.YtanemmcddgkpdaaGreat.Hm
open Go.RowKit Go.Proofs.YtanemmcddgkpdaaGreatW.PrintWords Go.Proofs.YtanemmcddgkpdaaGreatW.PrintLast Go.Proofs.YtanemmcddgkpdaaGreatW.PrintMore
set_option linter.unusedVariables false
set_option linter.unusedSimpArgs false
theorem bind_ok {α β : Type} {x : Ex α} {f : α → Ex β} {p : β} (h : (x >>= f) = .ok p) : ∃ a, x = .ok a ∧ f a = .ok p := by
  cases x with
  | error e => cases h
  | ok a => exact ⟨a, rfl, h⟩
/-- What a reply may tell: a thing's, and entries of one. -/
def ToldR (p : Th × Re) (r : Re) : Prop := (∃ k, p.2.ai = (atT p.1 k).ino ∧ p.2.ag = (atT p.1 k).gen) ∧ p.2.e.length ≤ r.e.length + 768
theorem told_at {t' : Th} {k : Nat} {r r' : Re} (h : r'.e.length ≤ r.e.length + 768) : ToldR (t', tellS (atT t' k) r') r := ⟨⟨k, rfl, rfl⟩, h⟩
theorem told_pure {t' : Th} {k : Nat} {r : Re} {p : Th × Re} (h : (pure (t', tellS (atT t' k) r) : Ex (Th × Re)) = .ok p) : ToldR p r := by
  injection h with h
  subst h
  exact told_at (by omega)
theorem fresh_told {t : Th} {r : Re} {c : Ca} {d : Nat} {kind verf : Int} {data : List Int} {p : Th × Re} (h : freshE t r c d kind verf data = .ok p) : ToldR p r := by
  unfold freshE at h
  split at h
  · cases h
  · obtain ⟨t1, -, h⟩ := bind_ok h
    obtain ⟨t2, -, h⟩ := bind_ok h
    exact told_pure h
theorem out_told {t : Th} {r : Re} {c : Ca} {d k : Nat} {p : Th × Re} (h : outE t r c d k = .ok p) : ToldR p r := by
  unfold outE at h
  obtain ⟨t1, -, h⟩ := bind_ok h
  obtain ⟨t2, -, h⟩ := bind_ok h
  exact told_pure h
theorem op_told {t : Th} {r : Re} {c : Ca} {p : Th × Re} (hm : t.mid) (h : opE t r c = .ok p) : ToldR p r := by
  unfold opE at h
  by_cases h0 : c.op = 1
  · rw [if_pos h0] at h
    unfold lookupE at h
    obtain ⟨d, -, h⟩ := bind_ok h
    obtain ⟨u, -, h⟩ := bind_ok h
    obtain ⟨k, -, h⟩ := bind_ok h
    exact told_pure h
  rw [if_neg h0] at h
  by_cases h0 : c.op = 2
  · rw [if_pos h0] at h
    unfold getattrE at h
    obtain ⟨k, -, h⟩ := bind_ok h
    exact told_pure h
  rw [if_neg h0] at h
  by_cases h0 : c.op = 3
  · rw [if_pos h0] at h
    unfold setattrE at h
    obtain ⟨k, -, h⟩ := bind_ok h
    dsimp only at h
    split at h
    · obtain ⟨u, -, h⟩ := bind_ok h
      obtain ⟨u2, -, h⟩ := bind_ok h
      obtain ⟨u3, -, h⟩ := bind_ok h
      obtain ⟨t', -, h⟩ := bind_ok h
      exact told_pure h
    · obtain ⟨u3, -, h⟩ := bind_ok h
      obtain ⟨t', -, h⟩ := bind_ok h
      exact told_pure h
  rw [if_neg h0] at h
  by_cases h0 : c.op = 4
  · rw [if_pos h0] at h
    unfold readE at h
    obtain ⟨k, -, h⟩ := bind_ok h
    injection h with h
    subst h
    exact told_at (by show r.e.length ≤ _; omega)
  rw [if_neg h0] at h
  by_cases h0 : c.op = 5
  · rw [if_pos h0] at h
    unfold writeE at h
    obtain ⟨k, -, h⟩ := bind_ok h
    obtain ⟨u, -, h⟩ := bind_ok h
    dsimp only at h
    split at h
    · exact told_pure h
    · obtain ⟨t', -, h⟩ := bind_ok h
      exact told_pure h
  rw [if_neg h0] at h
  by_cases h0 : c.op = 6
  · rw [if_pos h0] at h
    unfold createE at h
    obtain ⟨d, -, h⟩ := bind_ok h
    obtain ⟨u, -, h⟩ := bind_ok h
    obtain ⟨u2, -, h⟩ := bind_ok h
    dsimp only at h
    split at h
    · exact fresh_told h
    · obtain ⟨k, -, h⟩ := bind_ok h
      obtain ⟨u3, -, h⟩ := bind_ok h
      exact told_pure h
  rw [if_neg h0] at h
  by_cases h0 : c.op = 7
  · rw [if_pos h0] at h
    unfold mkdirE at h
    obtain ⟨d, -, h⟩ := bind_ok h
    exact fresh_told h
  rw [if_neg h0] at h
  by_cases h0 : c.op = 8
  · rw [if_pos h0] at h
    unfold symlinkE at h
    obtain ⟨d, -, h⟩ := bind_ok h
    obtain ⟨u, -, h⟩ := bind_ok h
    exact fresh_told h
  rw [if_neg h0] at h
  by_cases h0 : c.op = 9
  · rw [if_pos h0] at h
    unfold readlinkE at h
    obtain ⟨k, -, h⟩ := bind_ok h
    obtain ⟨u, -, h⟩ := bind_ok h
    injection h with h
    subst h
    exact told_at (by show r.e.length ≤ _; omega)
  rw [if_neg h0] at h
  by_cases h0 : c.op = 10
  · rw [if_pos h0] at h
    unfold removeE at h
    obtain ⟨q, -, h⟩ := bind_ok h
    obtain ⟨u, -, h⟩ := bind_ok h
    exact out_told h
  rw [if_neg h0] at h
  by_cases h0 : c.op = 11
  · rw [if_pos h0] at h
    unfold rmdirE at h
    obtain ⟨q, -, h⟩ := bind_ok h
    obtain ⟨u, -, h⟩ := bind_ok h
    obtain ⟨u2, -, h⟩ := bind_ok h
    exact out_told h
  rw [if_neg h0] at h
  by_cases h0 : c.op = 12
  · rw [if_pos h0] at h
    unfold renameE at h
    obtain ⟨fr, -, h⟩ := bind_ok h
    obtain ⟨to', -, h⟩ := bind_ok h
    obtain ⟨u, -, h⟩ := bind_ok h
    obtain ⟨u2, -, h⟩ := bind_ok h
    obtain ⟨k, -, h⟩ := bind_ok h
    dsimp only at h
    split at h
    · obtain ⟨old, -, h⟩ := bind_ok h
      split at h
      · exact told_pure h
      · split at h
        · obtain ⟨u3, -, h⟩ := bind_ok h
          obtain ⟨u4, -, h⟩ := bind_ok h
          obtain ⟨u5, -, h⟩ := bind_ok h
          obtain ⟨t1, -, h⟩ := bind_ok h
          obtain ⟨t2, -, h⟩ := bind_ok h
          obtain ⟨t3, -, h⟩ := bind_ok h
          obtain ⟨t4, -, h⟩ := bind_ok h
          exact told_pure h
        · obtain ⟨u3, -, h⟩ := bind_ok h
          obtain ⟨u5, -, h⟩ := bind_ok h
          obtain ⟨t1, -, h⟩ := bind_ok h
          obtain ⟨t2, -, h⟩ := bind_ok h
          obtain ⟨t3, -, h⟩ := bind_ok h
          obtain ⟨t4, -, h⟩ := bind_ok h
          exact told_pure h
    · obtain ⟨u3, -, h⟩ := bind_ok h
      obtain ⟨t2, -, h⟩ := bind_ok h
      obtain ⟨t3, -, h⟩ := bind_ok h
      obtain ⟨t4, -, h⟩ := bind_ok h
      exact told_pure h
  rw [if_neg h0] at h
  by_cases h0 : c.op = 13
  · rw [if_pos h0] at h
    unfold linkE at h
    obtain ⟨k, -, h⟩ := bind_ok h
    obtain ⟨u, -, h⟩ := bind_ok h
    obtain ⟨d, -, h⟩ := bind_ok h
    obtain ⟨u2, -, h⟩ := bind_ok h
    obtain ⟨u3, -, h⟩ := bind_ok h
    obtain ⟨t1, -, h⟩ := bind_ok h
    obtain ⟨t2, -, h⟩ := bind_ok h
    exact told_pure h
  rw [if_neg h0] at h
  by_cases h0 : c.op = 14
  · rw [if_pos h0] at h
    unfold readdirE at h
    obtain ⟨k, hk, h⟩ := bind_ok h
    obtain ⟨u, -, h⟩ := bind_ok h
    obtain ⟨u2, -, h⟩ := bind_ok h
    injection h with h
    subst h
    refine told_at ?_
    show (afterM _ _ _).1.length ≤ _
    have h1 : (afterM (entS (atT t k)) c.off (min c.cnt 24)).1.length ≤ (entS (atT t k)).length := by
      unfold afterM
      split
      · exact Nat.zero_le _
      · dsimp only
        rw [List.length_drop, List.length_take]
        omega
    have h2 : (atT t k).mid := by
      by_cases hkl : k < t.l.length
      · exact hm.at (at_of hkl)
      · have : atT t k = Sl0 := by unfold atT; rw [List.getD_eq_getElem?_getD, List.getElem?_eq_none (by omega)]; rfl
        rw [this]
        exact ⟨⟨u32_0, u32_0, u32_0, u32_0, u32_0, u64_0, u64_0, u64_0, rfl⟩, by show (0:Nat) ≤ 768; decide⟩
    have h3 := (entS_ok h2.w).2
    have h4 := h2.l
    omega
  rw [if_neg h0] at h
  by_cases h0 : c.op = 15
  · rw [if_pos h0] at h
    unfold fsstatE at h
    obtain ⟨k, -, h⟩ := bind_ok h
    injection h with h
    subst h
    exact ⟨⟨k, rfl, rfl⟩, by show r.e.length ≤ _; omega⟩
  rw [if_neg h0] at h
  unfold commitE at h
  obtain ⟨k, -, h⟩ := bind_ok h
  injection h with h
  subst h
  exact ⟨⟨k, rfl, rfl⟩, by show r.e.length ≤ _; omega⟩
/-- What a reply tells is of its kind. -/
theorem doT_re {t t' : Th} {c : Ca} {r : Re} (hm : t.mid) (hm' : t'.mid) (he : doT t c = (t', r)) : u32ok r.ai ∧ u32ok r.ag ∧ r.e.length ≤ 768 := by
  have base : ∀ st : Int, u32ok ({ toldR c with st := st } : Re).ai ∧ u32ok ({ toldR c with st := st } : Re).ag ∧ ({ toldR c with st := st } : Re).e.length ≤ 768 := fun st => ⟨u32_0, u32_0, Nat.zero_le _⟩
  unfold doT at he
  split at he
  · split at he
    · rename_i p hp
      obtain ⟨⟨k, h1, h2⟩, h3⟩ := op_told hm hp
      subst he
      have h4 : (atT t' k).mid := by
        by_cases hkl : k < t'.l.length
        · exact hm'.at (at_of hkl)
        · have : atT t' k = Sl0 := by unfold atT; rw [List.getD_eq_getElem?_getD, List.getElem?_eq_none (by omega)]; rfl
          rw [this]
          exact ⟨⟨u32_0, u32_0, u32_0, u32_0, u32_0, u64_0, u64_0, u64_0, rfl⟩, by show (0:Nat) ≤ 768; decide⟩
      have h6 : r.e.length ≤ 0 + 768 := h3
      exact ⟨by rw [h1]; exact h4.w.ino, by rw [h2]; exact h4.w.gen, by omega⟩
    · rename_i e hp
      rw [← (Prod.mk.inj he).2]
      exact base e
  · rw [← (Prod.mk.inj he).2]
    exact base 64
/-- What only asks changes nothing. -/
theorem ask_op {t : Th} {r : Re} {c : Ca} {p : Th × Re} (ho : c.op = 1 ∨ c.op = 2 ∨ c.op = 4 ∨ c.op = 9 ∨ c.op = 14 ∨ c.op = 15 ∨ c.op = 16) (h : opE t r c = .ok p) : p.1 = t := by
  unfold opE at h
  rcases ho with ho | ho | ho | ho | ho | ho | ho
  · rw [if_pos ho] at h
    unfold lookupE at h
    obtain ⟨d, -, h⟩ := bind_ok h
    obtain ⟨u, -, h⟩ := bind_ok h
    obtain ⟨k, -, h⟩ := bind_ok h
    injection h with h
    rw [← h]
  · rw [if_neg (by omega), if_pos ho] at h
    unfold getattrE at h
    obtain ⟨k, -, h⟩ := bind_ok h
    injection h with h
    rw [← h]
  · rw [if_neg (by omega), if_neg (by omega), if_neg (by omega), if_pos ho] at h
    unfold readE at h
    obtain ⟨k, -, h⟩ := bind_ok h
    injection h with h
    rw [← h]
  · simp only [ho] at h
    replace h : readlinkE t r c = .ok p := h
    unfold readlinkE at h
    obtain ⟨k, -, h⟩ := bind_ok h
    obtain ⟨u, -, h⟩ := bind_ok h
    injection h with h
    rw [← h]
  · simp only [ho] at h
    replace h : readdirE t r c = .ok p := h
    unfold readdirE at h
    obtain ⟨k, -, h⟩ := bind_ok h
    obtain ⟨u, -, h⟩ := bind_ok h
    obtain ⟨u2, -, h⟩ := bind_ok h
    injection h with h
    rw [← h]
  · simp only [ho] at h
    replace h : fsstatE t r c = .ok p := h
    unfold fsstatE at h
    obtain ⟨k, -, h⟩ := bind_ok h
    injection h with h
    rw [← h]
  · simp only [ho] at h
    replace h : commitE t r c = .ok p := h
    unfold commitE at h
    obtain ⟨k, -, h⟩ := bind_ok h
    injection h with h
    rw [← h]
theorem ask_do {t : Th} {c : Ca} (ho : c.op = 1 ∨ c.op = 2 ∨ c.op = 4 ∨ c.op = 9 ∨ c.op = 14 ∨ c.op = 15 ∨ c.op = 16) : (doT t c).1 = t := by
  unfold doT
  split
  · split
    · rename_i p hp
      exact ask_op ho hp
    · rfl
  · rfl
end Go.Proofs.YtanemmcddgkpdaaGreat.Hm
end
