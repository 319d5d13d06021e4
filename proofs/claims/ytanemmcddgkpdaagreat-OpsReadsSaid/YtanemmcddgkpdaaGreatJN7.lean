/- Part N7 of the lemmas and walks of the Go functions that these statements reach; conditions: those that each theorem names. -/
import Derived.Test.YtanemmcddgkpdaaGreatJN5
import Derived.Test.YtanemmcddgkpdaaGreatJY6
import Derived.Test.YtanemmcddgkpdaaGreatJX2
import Derived.Test.YtanemmcddgkpdaaGreatJN4
import Derived.WideLaws
import Derived.Test.YtanemmcddgkpdaaGreatJX8
import Derived.Test.YtanemmcddgkpdaaGreatJN6
section
/- Chapter 13: things as they may be, things cloned, an empty volume, walked; conditions: those that each theorem names. -/
namespace Go.Proofs.YtanemmcddgkpdaaGreat.Sx
open Go.RowKit Go.Proofs.YtanemmcddgkpdaaGreat.Hm Go.Proofs.YtanemmcddgkpdaaGreatW.PrintWords Go.Proofs.YtanemmcddgkpdaaGreatW.PrintLast Go.Proofs.YtanemmcddgkpdaaGreatW.PrintMore
set_option linter.unusedVariables false
set_option linter.unusedSimpArgs false
attribute [local irreducible] SX SXL SXA St callK Post Evals
theorem infoSl : ((Tryz.prog).info? 92).map (fun i => (i.zero, i.size, i.bytes)) = some (some (.agg #[.int .u32 0, .int .u32 0, .int .u32 0, .int .u32 0, .int .u32 0, .int .u64 0, .int .u64 0, .int .u64 0, .slice none 0 0]), 9, 72) := by kernel_rfl
instance rowSl : RowT Tryz.prog (cellsK 9) 24 92 72 := ⟨Tryz.underlying24, ⟨_, infoSl, rfl⟩, by decide, by decide⟩
/-- Things in memory, that stay. -/
abbrev thP (b : Nat) (ts : List Sl) (ps : List Pl) : Thing := .per (roR (cellsK 9) (some ⟨b, 0, none⟩) (slZ ts ps))
section
variable {F R : List Thing} {K : Ending → List Thing → Prop} {b cap n : Nat} {ch room : Int} {ts : List Sl} {ps : List Pl} {xs : List (CellsN 9)} {c : Nat}
theorem SClone_S (hr : Ro (cellsK 9) (some ⟨b, 0, none⟩) F xs) (h0 : 0 < xs.length) (hc : xs.length ≤ c) (hl : xs.length ≤ 1000) (h : ∀ b' c', xs.length ≤ c' → K (.returned (.slice (some ⟨b', 0, none⟩) xs.length c')) (.own (some ⟨b', 0, none⟩) (rowR (cellsK 9) 92 (.slice (some ⟨b', 0, none⟩) xs.length c') xs) :: F)) :
    Fn (Tryz.prog) 50 [.slice (some ⟨b, 0, none⟩) xs.length c] F K := by
  refine Fn.enter Tryz.call50 Tryz.func50 rfl rfl rfl ?_
  repeat (first|refine Qa ?_|refine Qd ?_|refine Qe ?_|refine Qf ?_|fail)
  refine SX.know 4 false rfl rfl ?_
  repeat (first|refine Qe ?_|refine Qf ?_|refine Qg ?_|refine Ql ?_|fail)
  refine SXL.lit0 rfl rfl rfl rfl (fun g => ?_)
  refine SXL.emptyRow (b := g) (e := 92) (cellsK 9) inferInstance ?_
  repeat (first|refine Qa ?_|fail)
  refine SXL.appendW (cellsK 9) rfl rfl inferInstance inferInstance rfl inferInstance (by simp; omega) rfl (fun A' d' hd' => ?_)
  rw [List.nil_append] at hd' ⊢
  refine SXL.addrOwn (A := A') (cellsK 9) inferInstance h0 (fun b' e' => ?_)
  subst e'
  repeat (first|refine Qa ?_|refine Qd ?_|fail)
  refine SX.ret (M' := (.own (some ⟨b', 0, none⟩) (rowR (cellsK 9) 92 (.slice (some ⟨b', 0, none⟩) xs.length d') xs) :: F)) rfl (Evals.tmp rfl Evals.nil) ?_ inferInstance
  exact h b' d' hd'
theorem mayT_at {ts : List Sl} (h : ∀ (i : Nat) (s : Sl), ts[i]? = some s → s.ino = (i : Int) ∧ okB s = true) (hn : ts.length = 24) : mayT ts = true := by
  unfold mayT
  rw [decide_eq_true hn, Bool.true_and, List.all_eq_true]
  intro i hi
  cases hq : ts[i]? with
  | none => rfl
  | some s =>
    obtain ⟨h1, h2⟩ := h i s hq
    simp [h1, h2]
theorem mayT_not {ts : List Sl} {i : Nat} {s : Sl} (hs : ts[i]? = some s) (h : ¬ (s.ino = (i : Int) ∧ okB s = true)) : mayT ts = false := by
  unfold mayT
  rw [Bool.and_eq_false_iff]
  right
  rw [List.all_eq_false]
  refine ⟨i, List.mem_range.2 (List.getElem?_eq_some_iff.1 hs).1, ?_⟩
  rw [hs]
  simpa using h
theorem may_S (hr : Ro (cellsK 9) (some ⟨b, 0, none⟩) F (slZ ts ps)) (hd : Has (datR ts ps) F) (hn : ts.length = 24) (hps : ps.length = 24) (hcap : 24 ≤ cap) (hm : ∀ s ∈ ts, s.mid) (h : K (.returned (.bool (mayT ts))) F) :
    Fn (Tryz.prog) 49 [.agg #[.slice (some ⟨b, 0, none⟩) 24 cap, .int .u64 ch, .int .i64 room]] F K := by
  refine Fn.enter Tryz.call49 Tryz.func49 rfl rfl rfl ?_
  repeat (first|refine Qe ?_|refine Qf ?_|fail)
  refine SXL.box rfl rfl rfl (fun q => ?_)
  repeat (first|refine Qa ?_|refine Qb ?_|refine Qd ?_|refine Qe ?_|refine Qf ?_|refine Qh ?_|fail)
  refine SX.loop (fun z a M => ∃ (k : Nat), k + z = 24 ∧ (∀ (i : Nat) (s : Sl), i < k → ts[i]? = some s → s.ino = (i : Int) ∧ okB s = true) ∧ a = [(1, .pointer (some ⟨q, 0, none⟩)), (6, .slice (some ⟨b, 0, none⟩) 24 cap), (7, .int .i64 24), (8, .int .i64 k)] ∧ (.own (some ⟨q, 0, none⟩) (cellsR q [.slice (some ⟨b, 0, none⟩) 24 cap, .int .u64 ch, .int .i64 room] 27) :: F) = M)
    24 ⟨0, by omega, fun j s hj => by omega, rfl, rfl⟩ (by repeat (first | exact trivial | refine ⟨rfl, ?_⟩)) inferInstance ?_
  rintro z _ _ ⟨k, hz, hno, rfl, rfl⟩
  repeat (first|refine Qa ?_|refine Qd ?_|refine Qe ?_|refine Qf ?_|fail)
  refine SX.condp rfl (fun hi => ?_) (fun hi => ?_)
  · obtain ⟨s, hs⟩ : ∃ s, ts[k]? = some s := ⟨_, List.getElem?_eq_getElem (by omega)⟩
    obtain ⟨x, hx⟩ : ∃ x, ps[k]? = some x := ⟨_, List.getElem?_eq_getElem (by omega)⟩
    haveI g1 : GetIs ts k s := ⟨hs⟩
    haveI g2 : GetIs ps k x := ⟨hx⟩
    have hsm := hm s (List.mem_of_getElem? hs)
    have hsl := hsm.l
    have hkw : IntKind.u32.wrap (k : Int) = (k : Int) := IntWalk.u32_in _ (by omega)
    refine SX.derive (datR ts ps) (roR (Kd.int .u8) x.1 s.d) (fun w S h => (h.2 k s x hs hx).2) ?_
    refine SX.derive (datR ts ps) (pureR (s.d.length ≤ x.2)) (fun w S h => (h.2 k s x hs hx).1) ?_
    refine SX.pure (s.d.length ≤ x.2) (fun hle => ?_)
    repeat (first|refine Qa ?_|refine Qe ?_|refine Qf ?_|refine Qg ?_|refine Qh ?_|fail)
    refine SXL.idx rfl rfl rfl rfl rfl (by omega) (by omega) rfl ?_
    refine SXL.same 11 (.pointer (some ⟨b, k * 9, none⟩)) rfl (by simp) ?_
    repeat (first|refine Qy ?_|fail)
    refine SXL.alloc rfl rfl (fun g => ?_)
    repeat (first|refine Qa ?_|refine Qb ?_|refine Qc ?_|refine Qd ?_|refine Qe ?_|refine Qf ?_|fail)
    rw [hkw]
    refine SXL.split (s := 18) rfl (fun k1 => ?_) (fun k1 => ?_)
    · have hne : mayT ts = false := mayT_not hs (fun h9 => by rw [h9.1] at k1; simp at k1)
      rw [hne] at h
      repeat (first|refine Qa ?_|refine Qd ?_|refine Qe ?_|refine Qf ?_|refine Qk ?_|refine Qn ?_|fail)
      refine SX.ret (M' := F) rfl (Evals.tmp rfl Evals.nil) ?_ inferInstance
      exact h
    · have he : s.ino = (k : Int) := by simpa using k1
      repeat (first|refine Qb ?_|refine Qm ?_|fail)
      refine SXL.call rfl rfl rfl ?_
      refine (Check_S (s := s) (A := x.1) (c := x.2) inferInstance hle hsm.w.d (by omega) (callK.ret ?_))
      cases hok : okB s with
      | true =>
        have hc : checkM s = 0 := by unfold checkM; rw [if_pos hok]
        rw [hc]
        repeat (first|refine Qa ?_|refine Qd ?_|refine Qe ?_|refine Qg ?_|refine Qi ?_|refine Ql ?_|refine Qm ?_|fail)
        refine SX.same 8 (.int .i64 ((k + 1 : Nat) : Int)) rfl (by simp (disch := omega) only [IntWalk.i64_in, IntWalk.u8_in, IntWalk.u32_in, IntWalk.u64_in, IntWalk.rem_in, Int.natCast_add, Int.natCast_one]) ?_
        refine SX.again (z - 1) (by omega) ⟨k + 1, by omega, fun i s' hi' hs' => by
          rcases Nat.lt_or_ge i k with h1 | h1
          · exact hno i s' h1 hs'
          · obtain rfl : i = k := by omega
            rw [hs] at hs'
            injection hs' with hs'
            subst hs'
            exact ⟨he, hok⟩, rfl, rfl⟩ (by repeat (first | exact trivial | refine ⟨rfl, ?_⟩)) inferInstance
      | false =>
        have hc : checkM s = 1 := by unfold checkM; rw [if_neg (by rw [hok]; simp)]
        have hne : mayT ts = false := mayT_not hs (fun h9 => by rw [hok] at h9; exact absurd h9.2 (by simp))
        rw [hne] at h
        rw [hc]
        repeat (first|refine Qa ?_|refine Qd ?_|refine Qe ?_|refine Qf ?_|refine Qk ?_|refine Qm ?_|fail)
        refine SX.ret (M' := F) rfl (Evals.tmp rfl Evals.nil) ?_ inferInstance
        exact h
  · have he : mayT ts = true := mayT_at (fun i s hs => hno i s (by have := (List.getElem?_eq_some_iff.1 hs).1; omega) hs) hn
    rw [he] at h
    repeat (first|refine Qa ?_|refine Qb ?_|refine Qd ?_|refine Qe ?_|refine Qf ?_|refine Qj ?_|fail)
    refine SX.ret (M' := F) rfl (Evals.tmp rfl Evals.nil) ?_ inferInstance
    exact h
end
def freesL (k : Nat) : List Sl := (List.range k).map fun (i : Nat) => freeS i
def nonesP (k : Nat) : List Pl := List.replicate k (none, 0)
theorem freesL_len (k : Nat) : (freesL k).length = k := by simp [freesL]
theorem nonesP_len (k : Nat) : (nonesP k).length = k := by simp [nonesP]
theorem slZ_form (k : Nat) : slZ (freesL k) (nonesP k) ++ [slX (freeS k) (none, 0)] = slZ (freesL (k + 1)) (nonesP (k + 1)) := by
  unfold slZ freesL nonesP
  rw [List.range_succ, List.map_append, List.replicate_succ', List.zipWith_append (by simp)]
  rfl
theorem formT_l (room : Int) : (freesL 24).set 0 rootS = (formT room).l := rfl
theorem formT_mid {room : Int} (hr : -9223372036854775808 ≤ room ∧ room ≤ 9223372036854775807) : (formT room).mid := by
  refine ⟨rfl, ⟨by show (0:Int) ≤ 1; decide, by show (1:Int) < 18446744073709551616; decide⟩, fun s hs => ?_, hr⟩
  have h0 : s = rootS ∨ ∃ i : Nat, i < 24 ∧ s = freeS i := by
    rcases List.mem_cons.1 hs with h | h
    · exact .inl h
    · obtain ⟨i, hi, h⟩ := List.mem_map.1 h
      have := List.mem_range.1 hi
      exact .inr ⟨i + 1, by omega, h.symm⟩
  rcases h0 with rfl | ⟨i, hi, rfl⟩
  · refine ⟨⟨⟨?_, ?_⟩, ⟨?_, ?_⟩, ⟨?_, ?_⟩, ⟨?_, ?_⟩, ⟨?_, ?_⟩, ⟨?_, ?_⟩, ⟨?_, ?_⟩, ⟨?_, ?_⟩, rfl⟩, ?_⟩ <;> decide
  · exact ⟨⟨⟨Int.natCast_nonneg i, by show (i : Int) < 4294967296; omega⟩, u32_0, u32_0, u32_0, u32_0, u64_0, u64_0, u64_0, rfl⟩, by simp [freeS]⟩
theorem formT_dat (room : Int) (w : World) (S : Nat → Prop) : (datR (formT room).l (nonesP 24)).P w S := by
  refine ⟨rfl, fun j s x h1 h2 => ?_⟩
  have hx : x = (none, 0) := by
    have := List.mem_of_getElem? h2
    exact List.eq_of_mem_replicate this
  have hd : s.d = [] := by
    have hs := List.mem_of_getElem? h1
    rcases List.mem_cons.1 hs with h | h
    · rw [h]; rfl
    · obtain ⟨i, hi, h⟩ := List.mem_map.1 h
      rw [← h]; rfl
  rw [hx, hd]
  exact ⟨Nat.le_refl _, Kd.F_nil _ w S⟩
instance (priority := 450) Has.datForm {room : Int} {M : List Thing} : Has (datR (formT room).l (nonesP 24)) M := ⟨fun w I U _ => formT_dat room w I⟩
section
variable {F R : List Thing} {K : Ending → List Thing → Prop} {room : Int}
theorem Format_S (h : ∀ b cap, 24 ≤ cap → K (.returned (.agg #[.slice (some ⟨b, 0, none⟩) 24 cap, .int .u64 1, .int .i64 room])) (thP b (formT room).l (nonesP 24) :: .per (datR (formT room).l (nonesP 24)) :: F)) :
    Fn (Tryz.prog) 18 [.int .i64 room] F K := by
  refine Fn.enter Tryz.call18 Tryz.func18 rfl rfl rfl ?_
  repeat (first|refine Qe ?_|refine Qf ?_|fail)
  refine SXL.alloc rfl rfl (fun q => ?_)
  repeat (first|refine Qa ?_|refine Qd ?_|refine Qe ?_|refine Qf ?_|fail)
  refine SXL.alloc rfl rfl (fun p => ?_)
  repeat (first|refine Qa ?_|refine Qc ?_|refine Qd ?_|refine Qe ?_|refine Qf ?_|refine Qh ?_|fail)
  refine SX.loop (fun z a M => ∃ (k : Nat) (A : Option Addr) (cp : Nat), k + z = 24 ∧ k ≤ cp ∧ a = [(2, .pointer (some ⟨q, 0, none⟩)), (3, .pointer (some ⟨p, 0, none⟩)), (7, .int .i64 k)] ∧ (.own (some ⟨q, 0, none⟩) (cellsR q [.slice none 0 0, .int .u64 0, .int .i64 0] 27) :: .own (some ⟨p, 0, none⟩) (cellsR p [.slice A k cp, .int .u64 1, .int .i64 room] 27) :: .own A (rowR (cellsK 9) 92 (.slice A k cp) (slZ (freesL k) (nonesP k))) :: F) = M)
    24 ⟨0, none, 0, by omega, Nat.le_refl _, rfl, rfl⟩ (by repeat (first | exact trivial | refine ⟨rfl, ?_⟩)) (by show Sub _ (_ :: _ :: .own none (rowR (cellsK 9) 92 (.slice none 0 0) []) :: F); infer_instance) ?_
  rintro z _ _ ⟨k, A, cp, hz, hcp, rfl, rfl⟩
  repeat (first|refine Qa ?_|refine Qd ?_|refine Qe ?_|refine Qf ?_|fail)
  refine SX.condp rfl (fun hi => ?_) (fun hi => ?_)
  · have hkw : IntKind.u32.wrap (k : Int) = (k : Int) := IntWalk.u32_in _ (by omega)
    have hzl : (slZ (freesL k) (nonesP k)).length = k := by rw [slZ_len (by rw [freesL_len, nonesP_len]), freesL_len]
    repeat (first|refine Qa ?_|refine Qb ?_|refine Qd ?_|refine Qe ?_|refine Qf ?_|refine Qg ?_|refine Qh ?_|fail)
    rw [hkw]
    refine SXL.lit rfl rfl (fun g => ?_)
    refine SXL.litRow (cellsK 9) g [slX (freeS k) (none, 0)] inferInstance rfl (fun x => x.2.1) (by simp) ?_
    skip
    refine SXL.append (cellsK 9) rfl rfl inferInstance inferInstance rfl inferInstance (by rw [hzl]; simp; omega) rfl (fun A' c' hc' => ?_)
    rw [slZ_form, show (slZ (freesL (k + 1)) (nonesP (k + 1))).length = k + 1 by rw [slZ_len (by rw [freesL_len, nonesP_len]), freesL_len]] at *
    repeat (first|refine Qa ?_|refine Qc ?_|refine Qd ?_|refine Qe ?_|refine Qi ?_|fail)
    refine SX.same 7 (.int .i64 ((k + 1 : Nat) : Int)) rfl (by simp (disch := omega) only [IntWalk.i64_in, IntWalk.u8_in, IntWalk.u32_in, IntWalk.u64_in, IntWalk.rem_in, Int.natCast_add, Int.natCast_one]) ?_
    refine SX.again (z - 1) (by omega) ⟨k + 1, A', c', by omega, hc', rfl, rfl⟩ (by repeat (first | exact trivial | refine ⟨rfl, ?_⟩)) inferInstance
  · obtain rfl : k = 24 := by omega
    refine SX.addrOwn (A := A) (cellsK 9) inferInstance (by rw [slZ_len (by rw [freesL_len, nonesP_len]), freesL_len]; decide) (fun b e => ?_)
    subst e
    repeat (first|refine Qa ?_|refine Qb ?_|refine Qe ?_|refine Qf ?_|refine Qj ?_|fail)
    refine SXL.idx rfl rfl rfl rfl rfl (by omega) (by omega) rfl ?_
    refine SXL.same 22 (.pointer (some ⟨b, 0 * 9, none⟩)) rfl rfl ?_
    refine SXL.stSl (j := 0) (f := 0) (ts := freesL 24) (ps := nonesP 24) rootS (none, 0) rfl rfl inferInstance (s := freeS 0) (q := (none, 0)) rfl rfl rfl ?_
    rw [formT_l room, show (nonesP 24).set 0 (none, 0) = nonesP 24 from rfl]
    refine SXL.keepRow (some ⟨b, 0, none⟩) inferInstance ?_
    repeat (first|refine Qb ?_|refine Qc ?_|refine Qd ?_|refine Qe ?_|refine Qf ?_|fail)
    refine SX.ret (M' := (thP b (formT room).l (nonesP 24) :: .per (datR (formT room).l (nonesP 24)) :: F)) rfl (Evals.cell rfl inferInstance rfl Evals.nil) ?_ inferInstance
    exact h b cp hcp
end
end Go.Proofs.YtanemmcddgkpdaaGreat.Sx
end
section
/- Chapter 13: the closure that recovers, walked in its two modes; conditions: those that each theorem names. -/
namespace Go.Proofs.YtanemmcddgkpdaaGreat.Sx
open Go.RowKit Go.Proofs.YtanemmcddgkpdaaGreat.Hm Go.Proofs.YtanemmcddgkpdaaGreatW.PrintWords Go.Proofs.YtanemmcddgkpdaaGreatW.PrintLast Go.Proofs.YtanemmcddgkpdaaGreatW.PrintMore
set_option linter.unusedVariables false
set_option linter.unusedSimpArgs false
attribute [local irreducible] SX SXL SXA St callK Post Evals
theorem asFail (xT : TypeId) (v : Value) (w : World) : (Instr.typeAssert (.iface 103 v) xT 103 true).run Tryz.prog w = .ok (.tuple #[v, .bool true]) w := by kernel_rfl
section
variable {P : Program} {fn : Func} {K : Ending → List Thing → Prop} {N : Nat} {k : List It} {a : Fr} {M : List Thing} {ops : Array Oper} {rest : List Oper} {d : Nat} {ty : TypeId} {pos : String} {af : Array Edge}
theorem SXL.eqHeld {x y : Operand} {t t' u : TypeId} {v : Value} (hx : evalO a x = some (.iface u v)) (hy : evalO a y = some .nilIface) (hu : P.underlying t = some (.interface (P.methodsAt t))) (hd : Nat.blt d N = true) (hK : SXL P fn K N k ops rest ((d, .bool false) :: a) M) : SXL P fn K N k ops (⟨some d, .binOp .eql t x y t', ty, pos, af, none⟩ :: rest) a M :=
  SXL.val hd (fun act w s => by
    have hg : eqGuard .eql t x y (.iface u v) .nilIface = (Pure.pure () : Sem Unit) := by cases y <;> rfl
    simp [execOp, evalO_ok s.fits hx, evalO_ok s.fits hy, binOp, hg, run_equal_held_nil _ _ _ _ hu]) hK
theorem SXL.eqNone {x : Operand} {t t' : TypeId} (hx : evalO a x = some .nilIface) (hu : P.underlying t = some (.interface (P.methodsAt t))) (hd : Nat.blt d N = true) (hK : SXL P fn K N k ops rest ((d, .bool true) :: a) M) : SXL P fn K N k ops (⟨some d, .binOp .eql t x (.const .nilIface) t', ty, pos, af, none⟩ :: rest) a M :=
  SXL.val hd (fun act w s => by
    have hg : eqGuard .eql t x (.const .nilIface) .nilIface .nilIface = (Pure.pure () : Sem Unit) := by cases x <;> rfl
    have hy : act.eval (.const .nilIface) = .nilIface := rfl
    simp [execOp, evalO_ok s.fits hx, hy, binOp, hg, run_equal_nil_nil _ _ hu]) hK
end
section
variable {R : List Thing} {g2 g4 g5 g6 cap : Nat} {B : Option Addr} {ch room e : Int} {rt : Re}
abbrev thC (B : Option Addr) (n cap : Nat) (ch room : Int) : List Value := [.slice B n cap, .int .u64 ch, .int .i64 room]
abbrev reK (s : Re) (A : Option Addr) (c : Nat) (B : Option Addr) (c2 : Nat) : List Value := [.int .u32 s.client, .int .u32 s.xid, .int .i64 s.st, .int .u32 s.ai, .int .u32 s.ag, .int .u32 s.ak, .int .u32 s.am, .int .u32 s.al, .int .u32 s.sz, .int .u64 s.ac, .slice A s.d.length c, .slice B s.e.length c2, .bool s.eof, .int .u64 s.verf, .int .u32 s.free]
theorem doCatch {w : World} {rz : Re}
    (hM : Holds w (.own (some ⟨g6, 0, none⟩) (cellsR g6 (reK rt none 0 none 0) 49) :: .own (some ⟨g2, 0, none⟩) (cellsR g2 (thC B 24 cap ch room) 27) :: .own (some ⟨g4, 0, none⟩) (cellsR g4 (thC none 0 0 0 0) 27) :: .own (some ⟨g5, 0, none⟩) (cellsR g5 (reK rz none 0 none 0) 49) :: R)) :
    CallsD Tryz.prog 51 #[.pointer (some ⟨g6, 0, none⟩), .pointer (some ⟨g2, 0, none⟩), .pointer (some ⟨g4, 0, none⟩), .pointer (some ⟨g5, 0, none⟩)] (.panicking (failP e)) w fun e2 u2 w' =>
      u2 = .panicking [{ v := .iface 103 (.agg #[.int .i64 e]), recovered := true }] ∧ RK (fun e3 M' => e3 = .returned (.tuple #[]) ∧ M' = (.own (some ⟨g4, 0, none⟩) (cellsR g4 (thC B 24 cap ch room) 27) :: .own (some ⟨g5, 0, none⟩) (cellsR g5 (reK { rt with st := e } none 0 none 0) 49) :: R)) e2 w' := by
  refine CallsD.rec_ (args := [.pointer (some ⟨g6, 0, none⟩), .pointer (some ⟨g2, 0, none⟩), .pointer (some ⟨g4, 0, none⟩), .pointer (some ⟨g5, 0, none⟩)]) (v := .iface 103 (.agg #[.int .i64 e])) Tryz.func51 rfl rfl rfl rfl rfl (fun c₀ cs hu => by cases c₀; dsimp only at hu; subst hu; exact ⟨rfl, rfl⟩) ?_ hM
  repeat (first|refine Qa ?_|refine Qe ?_|refine Qf ?_|fail)
  refine SXL.eqHeld rfl rfl (by kernel_rfl) rfl ?_
  repeat (first|refine Qa ?_|refine Qd ?_|refine Qe ?_|refine Qf ?_|refine Qg ?_|refine Ql ?_|fail)
  refine SXL.val (v := .tuple #[.agg #[.int .i64 e], .bool true]) rfl (fun act w s => ?_) ?_
  · have h8 := evalO_ok s.fits (x := .tmp 11) rfl
    simp [execOp, h8, asFail]
  repeat (first|refine Qa ?_|fail)
  refine SXL.alloc rfl rfl (fun q => ?_)
  repeat (first|refine Qa ?_|refine Qb ?_|refine Qc ?_|refine Qd ?_|refine Qe ?_|refine Qf ?_|refine Qg ?_|refine Ql ?_|fail)
  refine SX.fin (M' := (.own (some ⟨g4, 0, none⟩) (cellsR g4 (thC B 24 cap ch room) 27) :: .own (some ⟨g5, 0, none⟩) (cellsR g5 (reK { rt with st := e } none 0 none 0) 49) :: R)) rfl Evals.nil ?_ inferInstance
  exact ⟨rfl, rfl⟩
theorem doIdle {w : World} {M : List Thing} (hM : Holds w M) :
    CallsD Tryz.prog 51 #[.pointer (some ⟨g6, 0, none⟩), .pointer (some ⟨g2, 0, none⟩), .pointer (some ⟨g4, 0, none⟩), .pointer (some ⟨g5, 0, none⟩)] .returning w fun e2 u2 w' => u2 = .returning ∧ RK (fun e3 M' => e3 = .returned (.tuple #[]) ∧ M' = M) e2 w' := by
  refine CallsD.rec_ (args := [.pointer (some ⟨g6, 0, none⟩), .pointer (some ⟨g2, 0, none⟩), .pointer (some ⟨g4, 0, none⟩), .pointer (some ⟨g5, 0, none⟩)]) (v := .nilIface) Tryz.func51 rfl rfl rfl rfl rfl (fun c₀ cs hu => by cases c₀; dsimp only at hu; subst hu; exact ⟨rfl, rfl⟩) ?_ hM
  repeat (first|refine Qa ?_|refine Qe ?_|refine Qf ?_|fail)
  refine SXL.eqNone rfl (by kernel_rfl) rfl ?_
  repeat (first|refine Qd ?_|refine Qk ?_|fail)
  refine SX.ret (M' := M) rfl Evals.nil ?_ inferInstance
  exact ⟨rfl, rfl⟩
end
end Go.Proofs.YtanemmcddgkpdaaGreat.Sx
end
section
/- Chapter 13: the table of the ops; what a call comes to, walked; conditions: those that each theorem names. -/
namespace Go.Proofs.YtanemmcddgkpdaaGreat.Sx
open Go.RowKit Go.Proofs.YtanemmcddgkpdaaGreat.Hm Go.Proofs.YtanemmcddgkpdaaGreatW.PrintWords Go.Proofs.YtanemmcddgkpdaaGreatW.PrintLast Go.Proofs.YtanemmcddgkpdaaGreatW.PrintMore
set_option linter.unusedVariables false
set_option linter.unusedSimpArgs false
attribute [local irreducible] SX SXL SXA St callK Post Evals
def opF (z : Int) : FuncId := if z = 1 then 33 else if z = 2 then 34 else if z = 3 then 35 else if z = 4 then 36 else if z = 5 then 37 else if z = 6 then 38 else if z = 7 then 39 else if z = 8 then 40 else if z = 9 then 41 else if z = 10 then 42 else if z = 11 then 43 else if z = 12 then 44 else if z = 13 then 45 else if z = 14 then 46 else if z = 15 then 47 else 48
abbrev opES : List MapEntry := [⟨.int .u32 1, .func (.func 33) #[] #[], 0⟩, ⟨.int .u32 2, .func (.func 34) #[] #[], 1⟩, ⟨.int .u32 3, .func (.func 35) #[] #[], 2⟩, ⟨.int .u32 4, .func (.func 36) #[] #[], 3⟩, ⟨.int .u32 5, .func (.func 37) #[] #[], 4⟩, ⟨.int .u32 6, .func (.func 38) #[] #[], 5⟩, ⟨.int .u32 7, .func (.func 39) #[] #[], 6⟩, ⟨.int .u32 8, .func (.func 40) #[] #[], 7⟩, ⟨.int .u32 9, .func (.func 41) #[] #[], 8⟩, ⟨.int .u32 10, .func (.func 42) #[] #[], 9⟩, ⟨.int .u32 11, .func (.func 43) #[] #[], 10⟩, ⟨.int .u32 12, .func (.func 44) #[] #[], 11⟩, ⟨.int .u32 13, .func (.func 45) #[] #[], 12⟩, ⟨.int .u32 14, .func (.func 46) #[] #[], 13⟩, ⟨.int .u32 15, .func (.func 47) #[] #[], 14⟩, ⟨.int .u32 16, .func (.func 48) #[] #[], 15⟩]
theorem find16 {z : Int} (h1 : 1 ≤ z) (h2 : z ≤ 16) : Instr.findNow (.int .u32) (.int .u32 z) opES 0 = some (some ((z - 1).toNat, .func (.func (opF z)) #[] #[])) := by
  have h : z = 1 ∨ z = 2 ∨ z = 3 ∨ z = 4 ∨ z = 5 ∨ z = 6 ∨ z = 7 ∨ z = 8 ∨ z = 9 ∨ z = 10 ∨ z = 11 ∨ z = 12 ∨ z = 13 ∨ z = 14 ∨ z = 15 ∨ z = 16 := by omega
  rcases h with rfl | rfl | rfl | rfl | rfl | rfl | rfl | rfl | rfl | rfl | rfl | rfl | rfl | rfl | rfl | rfl <;> rfl
theorem find0 {z : Int} (h : ¬ (1 ≤ z ∧ z ≤ 16)) : Instr.findNow (.int .u32) (.int .u32 z) opES 0 = some none := by
  have hne : ∀ k : Int, 1 ≤ k → k ≤ 16 → (z == k) = false := fun k h1 h2 => beq_eq_false_iff_ne.2 (by omega)
  simp only [Instr.findNow, Instr.sameNow, opES]
  simp only [hne 1 (by decide) (by decide), hne 2 (by decide) (by decide), hne 3 (by decide) (by decide), hne 4 (by decide) (by decide), hne 5 (by decide) (by decide), hne 6 (by decide) (by decide), hne 7 (by decide) (by decide), hne 8 (by decide) (by decide), hne 9 (by decide) (by decide), hne 10 (by decide) (by decide), hne 11 (by decide) (by decide), hne 12 (by decide) (by decide), hne 13 (by decide) (by decide), hne 14 (by decide) (by decide), hne 15 (by decide) (by decide), hne 16 (by decide) (by decide), if_true]
abbrev toldC (c : Ca) : Re := ⟨c.client, c.xid, 0, 0, 0, 0, 0, 0, 0, 0, [], [], false, 0, 0⟩
abbrev re0 : Re := ⟨0, 0, 0, 0, 0, 0, 0, 0, 0, 0, [], [], false, 0, 0⟩
/-- What an op does at some things, some reply, some call. -/
def OpA (P : Program) (f : FuncId) (E : Th → Re → Ca → Ex (Th × Re)) (t : Th) (r : Re) (c : Ca) : Prop :=
  ∀ {R : List Thing} {K : Ending → List Thing → Prop} {b pw cap cc : Nat} {Ac : Option Addr} {ps : List Pl}, ps.length = 24 → 24 ≤ cap → t.mid → c.wf → c.d.length ≤ 4000000000 → c.d.length ≤ cc → Has (datR t.l ps) R → Ro (Kd.int .u8) Ac R c.d → r.d = [] → r.e = [] →
    (∀ t' r' ps' Ad cd Ae ce, E t r c = .ok (t', r') → r'.d.length ≤ cd → r'.e.length ≤ ce → ps'.length = 24 → t'.mid → K (.returned (.tuple #[])) (.own (some ⟨pw, 0, none⟩) (wkM pw b cap t' c Ac cc r' Ad cd Ae ce) :: .own (some ⟨b, 0, none⟩) (thR b 24 cap t'.l ps') :: .per (datR t'.l ps') :: .per (roR (Kd.int .u8) Ad r'.d) :: .per (roR kE Ae r'.e) :: R)) →
    (∀ e M', E t r c = .error e → Sub M' R → K (.panicked (failP e)) M') →
    Fn P f [.pointer (some ⟨pw, 0, none⟩)] (.own (some ⟨pw, 0, none⟩) (wkM pw b cap t c Ac cc r none 0 none 0) :: .own (some ⟨b, 0, none⟩) (thR b 24 cap t.l ps) :: R) K
theorem OpS.at_ {P : Program} {f : FuncId} {E : Th → Re → Ca → Ex (Th × Re)} (h : OpS P f E) (t : Th) (r : Re) (c : Ca) : OpA P f E t r c := fun h1 h2 h3 h4 h5 h6 h7 h8 h9 h10 h11 h12 => h h1 h2 h3 h4 h5 h6 h7 h8 h9 h10 h11 h12
def OpT (t : Th) (c : Ca) : Prop := ∃ E, OpA Tryz.prog (opF c.op) E t (toldC c) c ∧ opE t (toldC c) c = E t (toldC c) c
/-- An op whose walk is there. -/
def OpK (c : Ca) : Prop := ∃ E, OpS Tryz.prog (opF c.op) E ∧ ∀ t r, opE t r c = E t r c
theorem Ro.ofHas {α : Type} {D : Kd α} {A : Option Addr} {xs : List α} {M : List Thing} (h : Has (roR D A xs) M) : Ro D A M xs := ⟨fun w I U hM => ⟨I, Kd.F_now (h.h w I U hM), h.h w I U hM, fun _ h => .inl h⟩⟩
section
variable {F R : List Thing} {K : Ending → List Thing → Prop} {b0 cap0 cc : Nat} {Ac : Option Addr} {t : Th} {ps : List Pl} {c : Ca}
set_option maxRecDepth 20000 in
theorem Do_M (hB : Has (roR (cellsK 9) (some ⟨b0, 0, none⟩) (slZ t.l ps)) F) (hd : Has (datR t.l ps) F) (hm : t.mid) (hps : ps.length = 24) (hcap : 24 ≤ cap0) (hcw : c.wf) (hcl : c.d.length ≤ 4000000000) (hcc : c.d.length ≤ cc) (hro : Ro (Kd.int .u8) Ac F c.d) (hop : 1 ≤ c.op → c.op ≤ 16 → mayT t.l = true → OpT t c)
    (h : ∀ t' r' b' cap' ps' Ad cd Ae ce, doT t c = (t', r') → 24 ≤ cap' → ps'.length = 24 → t'.mid → r'.d.length ≤ cd → r'.e.length ≤ ce → K (.returned (.tuple #[.agg #[.slice (some ⟨b', 0, none⟩) 24 cap', .int .u64 t'.ch, .int .i64 t'.room], .agg (reK r' Ad cd Ae ce).toArray])) (thP b' t'.l ps' :: .per (datR t'.l ps') :: .per (roR (Kd.int .u8) Ad r'.d) :: .per (roR kE Ae r'.e) :: F)) :
    Fn (Tryz.prog) 21 [.agg #[.slice (some ⟨b0, 0, none⟩) 24 cap0, .int .u64 t.ch, .int .i64 t.room], .agg (caC c Ac cc).toArray] F K := by
  haveI hRo := Ro.ofHas hB
  have hzl : (slZ t.l ps).length = 24 := by rw [slZ_len (by rw [hps, hm.n]), hm.n]
  refine Fn.enterD (fun act w => ∃ D a' M', (fun D a' M' => ∃ g2 g4 g5 g6 pw b cap, 24 ≤ cap ∧ D = [⟨.fn (.func 51) #[.pointer (some ⟨g6, 0, none⟩), .pointer (some ⟨g2, 0, none⟩), .pointer (some ⟨g4, 0, none⟩), .pointer (some ⟨g5, 0, none⟩)], #[]⟩] ∧ a' = [(4, .pointer (some ⟨g4, 0, none⟩)), (5, .pointer (some ⟨g5, 0, none⟩)), (8, .func (.func (opF c.op)) #[] #[]), (10, .pointer (some ⟨pw, 0, none⟩))] ∧ (1 ≤ c.op ∧ c.op ≤ 16) ∧ mayT t.l = true ∧
      M' = (.own (some ⟨pw, 0, none⟩) (wkM pw b cap t c Ac cc (toldC c) none 0 none 0) :: .own (some ⟨b, 0, none⟩) (thR b 24 cap t.l ps) :: .own (some ⟨g6, 0, none⟩) (cellsR g6 (reK (toldC c) none 0 none 0) 49) :: .own (some ⟨g2, 0, none⟩) (cellsR g2 (thC (some ⟨b0, 0, none⟩) 24 cap0 t.ch t.room) 27) :: .own (some ⟨g4, 0, none⟩) (cellsR g4 (thC none 0 0 0 0) 27) :: .own (some ⟨g5, 0, none⟩) (cellsR g5 (reK re0 none 0 none 0) 49) :: F)) D a' M' ∧ DSt D 59 a' M' act w)
    [_, _, _, _, _, _, _, _] Tryz.call21 Tryz.func21 rfl rfl rfl rfl ?_ ?_
  · unfold caC
    repeat (first|refine Qe ?_|fail)
    refine SXL.box rfl rfl rfl (fun g2 => ?_)
    skip
    refine SXL.box rfl rfl rfl (fun g3 => ?_)
    skip
    refine SXL.alloc rfl rfl (fun g4 => ?_)
    skip
    refine SXL.alloc rfl rfl (fun g5 => ?_)
    repeat (first|refine Qa ?_|refine Qb ?_|refine Qd ?_|refine Qe ?_|fail)
    refine SXL.alloc rfl rfl (fun g6 => ?_)
    repeat (first|refine Qc ?_|refine Qd ?_|refine Qe ?_|fail)
    refine SXL.mkMap rfl (fun gm => ?_)
    skip
    refine SXL.insert rfl rfl rfl inferInstance Tryz.underlying97 Tryz.underlying33 rfl ?_
    skip
    refine SXL.insert rfl rfl rfl inferInstance Tryz.underlying97 Tryz.underlying33 rfl ?_
    skip
    refine SXL.insert rfl rfl rfl inferInstance Tryz.underlying97 Tryz.underlying33 rfl ?_
    skip
    refine SXL.insert rfl rfl rfl inferInstance Tryz.underlying97 Tryz.underlying33 rfl ?_
    skip
    refine SXL.insert rfl rfl rfl inferInstance Tryz.underlying97 Tryz.underlying33 rfl ?_
    skip
    refine SXL.insert rfl rfl rfl inferInstance Tryz.underlying97 Tryz.underlying33 rfl ?_
    skip
    refine SXL.insert rfl rfl rfl inferInstance Tryz.underlying97 Tryz.underlying33 rfl ?_
    skip
    refine SXL.insert rfl rfl rfl inferInstance Tryz.underlying97 Tryz.underlying33 rfl ?_
    skip
    refine SXL.insert rfl rfl rfl inferInstance Tryz.underlying97 Tryz.underlying33 rfl ?_
    skip
    refine SXL.insert rfl rfl rfl inferInstance Tryz.underlying97 Tryz.underlying33 rfl ?_
    skip
    refine SXL.insert rfl rfl rfl inferInstance Tryz.underlying97 Tryz.underlying33 rfl ?_
    skip
    refine SXL.insert rfl rfl rfl inferInstance Tryz.underlying97 Tryz.underlying33 rfl ?_
    skip
    refine SXL.insert rfl rfl rfl inferInstance Tryz.underlying97 Tryz.underlying33 rfl ?_
    skip
    refine SXL.insert rfl rfl rfl inferInstance Tryz.underlying97 Tryz.underlying33 rfl ?_
    skip
    refine SXL.insert rfl rfl rfl inferInstance Tryz.underlying97 Tryz.underlying33 rfl ?_
    skip
    refine SXL.insert rfl rfl rfl inferInstance Tryz.underlying97 Tryz.underlying33 rfl ?_
    repeat (first|refine Qa ?_|refine Qb ?_|refine Qd ?_|refine Qe ?_|fail)
    by_cases hk : 1 ≤ c.op ∧ c.op ≤ 16
    · refine SXL.lookup (r := some ((c.op - 1).toNat, .func (.func (opF c.op)) #[] #[])) (bb := true) (vv := .func (.func (opF c.op)) #[] #[]) rfl rfl inferInstance Tryz.underlying97 Tryz.underlying33 rfl rfl rfl (find16 hk.1 hk.2) rfl ?_
      repeat (first|refine Qa ?_|refine Qb ?_|refine Qd ?_|refine Qe ?_|refine Qf ?_|refine Qm ?_|fail)
      refine SXL.call rfl rfl rfl ?_
      refine (may_S (ts := t.l) (ps := ps) (ch := t.ch) (room := t.room) inferInstance inferInstance hm.n hps hcap hm.m (callK.ret ?_))
      cases hmay : mayT t.l with
      | false =>
        repeat (first|refine Qa ?_|refine Qc ?_|refine Qd ?_|refine Qe ?_|refine Qf ?_|refine Qk ?_|refine Qm ?_|fail)
        refine SXA.begin (.own (some ⟨g2, 0, none⟩) (cellsR g2 (thC (some ⟨b0, 0, none⟩) 24 cap0 t.ch t.room) 27) :: .own (some ⟨g6, 0, none⟩) (cellsR g6 (reK { toldC c with st := 64 } none 0 none 0) 49) :: []) [] ?_
        refine Qt 0 ?_
        refine Qt 1 ?_
        refine Qw 2 ?_
        refine Qc ?_
        refine SXL.nil (SXA.next inferInstance ?_)
        refine Qw 3 ?_
        refine Qc ?_
        refine SXL.nil (SXA.next inferInstance ?_)
        refine Qv ?_
        skip
        refine SX.ret (M' := (thP b0 t.l ps :: .per (datR t.l ps) :: .per (roR (Kd.int .u8) none ([] : List Int)) :: .per (roR kE none ([] : List Ent)) :: F)) rfl (Evals.cell rfl inferInstance rfl (Evals.cell rfl inferInstance rfl Evals.nil)) ?_ inferInstance
        exact h t { toldC c with st := 64 } b0 cap0 ps none 0 none 0 (by unfold doT; rw [hmay, Bool.and_false, if_neg (by decide)]; rfl) hcap hps hm (Nat.le_refl _) (Nat.le_refl _)
      | true =>
        repeat (first|refine Qa ?_|refine Qb ?_|refine Qd ?_|refine Qe ?_|refine Qg ?_|refine Ql ?_|refine Qm ?_|fail)
        refine SXL.box rfl rfl rfl (fun pw => ?_)
        repeat (first|refine Qa ?_|refine Qb ?_|refine Qd ?_|refine Qe ?_|fail)
        rw [← hzl]
        refine SXL.call rfl rfl rfl ?_
        refine (SClone_S (xs := slZ t.l ps) (c := cap0) inferInstance (by omega) (by omega) (by omega) (fun b cap hc' => callK.ret ?_))
        rw [hzl] at hc' ⊢
        repeat (first|refine Qa ?_|refine Qc ?_|refine Qd ?_|refine Qe ?_|fail)
        refine SXL.deferLast (a' := [(4, .pointer (some ⟨g4, 0, none⟩)), (5, .pointer (some ⟨g5, 0, none⟩)), (8, .func (.func (opF c.op)) #[] #[]), (10, .pointer (some ⟨pw, 0, none⟩))]) rfl ⟨g2, g4, g5, g6, pw, b, cap, hc', rfl, rfl, hk, rfl, rfl⟩ (by repeat (first | exact trivial | refine ⟨rfl, ?_⟩)) inferInstance
    · refine SXL.lookup (r := none) (bb := false) rfl rfl inferInstance Tryz.underlying97 Tryz.underlying33 rfl rfl rfl (find0 hk) rfl ?_
      repeat (first|refine Qa ?_|refine Qc ?_|refine Qd ?_|refine Qe ?_|refine Qf ?_|refine Qk ?_|refine Qn ?_|fail)
      refine SXA.begin (.own (some ⟨g2, 0, none⟩) (cellsR g2 (thC (some ⟨b0, 0, none⟩) 24 cap0 t.ch t.room) 27) :: .own (some ⟨g6, 0, none⟩) (cellsR g6 (reK { toldC c with st := 64 } none 0 none 0) 49) :: []) [] ?_
      refine Qt 0 ?_
      refine Qt 1 ?_
      refine Qw 2 ?_
      refine Qc ?_
      refine SXL.nil (SXA.next inferInstance ?_)
      refine Qw 3 ?_
      refine Qc ?_
      refine SXL.nil (SXA.next inferInstance ?_)
      refine Qv ?_
      skip
      refine SX.ret (M' := (thP b0 t.l ps :: .per (datR t.l ps) :: .per (roR (Kd.int .u8) none ([] : List Int)) :: .per (roR kE none ([] : List Ent)) :: F)) rfl (Evals.cell rfl inferInstance rfl (Evals.cell rfl inferInstance rfl Evals.nil)) ?_ inferInstance
      exact h t { toldC c with st := 64 } b0 cap0 ps none 0 none 0 (by unfold doT; rw [show (decide (1 ≤ c.op) && decide (c.op ≤ 16)) = false by simpa using hk, Bool.false_and, if_neg (by decide)]; rfl) hcap hps hm (Nat.le_refl _) (Nat.le_refl _)
  · rintro act w ⟨D, a', M', ⟨g2, g4, g5, g6, pw, b, cap, hcap', rfl, rfl, hk, hmay, rfl⟩, s⟩
    obtain ⟨E, hE, hopE⟩ := hop hk.1 hk.2 hmay
    have hcond : (decide (1 ≤ c.op) && decide (c.op ≤ 16) && mayT t.l) = true := by rw [decide_eq_true hk.1, decide_eq_true hk.2, hmay]; rfl
    have hdo : ∀ t' r', E t (toldC c) c = .ok (t', r') → doT t c = (t', r') := fun t' r' he => by
      unfold doT
      rw [if_pos hcond, show toldR c = toldC c from rfl, hopE, he]
    have hdo2 : ∀ e, E t (toldC c) c = .error e → doT t c = (t, { toldC c with st := e }) := fun e he => by
      unfold doT
      rw [if_pos hcond, show toldR c = toldC c from rfl, hopE, he]
    have hinv : ∀ w : World, (invoke (.fn (.func 51) #[.pointer (some ⟨g6, 0, none⟩), .pointer (some ⟨g2, 0, none⟩), .pointer (some ⟨g4, 0, none⟩), .pointer (some ⟨g5, 0, none⟩)]) #[]).run Tryz.prog w = .ok (.enter 51 #[.pointer (some ⟨g6, 0, none⟩), .pointer (some ⟨g2, 0, none⟩), .pointer (some ⟨g4, 0, none⟩), .pointer (some ⟨g5, 0, none⟩)]) w := fun w => by
      simp [invoke]
    refine wp_seq (DXL.region ?_ s)
    refine DXL.pure ?_
    refine DXL.pure ?_
    refine DXL.call rfl rfl rfl ?_
    refine Fn.sub (hE (R := (.own (some ⟨g6, 0, none⟩) (cellsR g6 (reK (toldC c) none 0 none 0) 49) :: .own (some ⟨g2, 0, none⟩) (cellsR g2 (thC (some ⟨b0, 0, none⟩) 24 cap0 t.ch t.room) 27) :: .own (some ⟨g4, 0, none⟩) (cellsR g4 (thC none 0 0 0 0) 27) :: .own (some ⟨g5, 0, none⟩) (cellsR g5 (reK re0 none 0 none 0) 49) :: F)) (pw := pw) (b := b) (cap := cap) (Ac := Ac) (cc := cc) (ps := ps) hps hcap' hm hcw hcl hcc inferInstance inferInstance rfl rfl (fun t' r' ps' Ad cd Ae ce he hc1 hc2 hps' hm' => ?_) (fun e M' he hsub => ?_)) inferInstance
    · refine DXL.nil (fun act w s => ?_)
      refine wp_seq (wp_mono (DXA.begin (J := fun act w => DSt [⟨.fn (.func 51) #[.pointer (some ⟨g6, 0, none⟩), .pointer (some ⟨g2, 0, none⟩), .pointer (some ⟨g4, 0, none⟩), .pointer (some ⟨g5, 0, none⟩)], #[]⟩] 59 [(4, .pointer (some ⟨g4, 0, none⟩)), (5, .pointer (some ⟨g5, 0, none⟩))] (.own (some ⟨b, 0, none⟩) (thR b 24 cap t'.l ps') :: .own (some ⟨g4, 0, none⟩) (cellsR g4 (thC (some ⟨b, 0, none⟩) 24 cap t'.ch t'.room) 27) :: .own (some ⟨g5, 0, none⟩) (cellsR g5 (reK r' Ad cd Ae ce) 49) :: .per (datR t'.l ps') :: .per (roR (Kd.int .u8) Ad r'.d) :: .per (roR kE Ae r'.e) :: F) act w) (.own (some ⟨pw, 0, none⟩) (wkM pw b cap t' c Ac cc r' Ad cd Ae ce) :: []) [] ?_ s) (fun e act' w' hq => ?_))
      · refine DXA.pure 0 ?_
        refine DXA.pure 1 ?_
        refine DXA.pure 2 ?_
        refine DXA.load 3 ?_
        refine DXA.pure 4 ?_
        refine DXA.pure 5 ?_
        refine DXA.pure 6 ?_
        refine DXA.load 7 ?_
        refine DXA.one 8 ?_
        refine DXL.store ?_
        refine DXL.next ?_
        refine DXA.one 9 ?_
        refine DXL.store ?_
        refine DXL.next ?_
        refine DXA.done (fun act w s => ⟨s.1, s.2.1, s.2.2.1.sub (by repeat (first | exact trivial | refine ⟨rfl, ?_⟩)), s.2.2.2.sub inferInstance⟩)
      · obtain ⟨rfl, s3⟩ := hq
        refine wp_ret ?_
        show Leaves _ _ act'.tmps (RK K) act'.defers .returning w'
        rw [s3.2.1]
        refine leaves_cons (by simp) (hinv w') ?_
        refine (doIdle s3.2.2.2).mono ?_
        rintro e2 u2 w2 ⟨rfl, M4, ⟨rfl, rfl⟩, hM4⟩
        refine ⟨_, results_run (act := ⟨act'.tmps, []⟩) rfl (Evals.cell rfl inferInstance rfl (Evals.cell rfl inferInstance rfl Evals.nil)) (DSt.st s3.1 s3.2.2.1 hM4), _, h t' r' b cap ps' Ad cd Ae ce (hdo t' r' he) hcap' hps' hm' hc1 hc2, ?_⟩
        exact (hM4.at_ (inferInstance : At (some ⟨b, 0, none⟩) _ (thR b 24 cap t'.l ps') _)).rowKeep.sub inferInstance
    · intro act w s
      have hM := s.2.2.2.sub hsub
      show Leaves _ _ act.tmps (RK K) act.defers (.panicking (failP e)) w
      rw [s.2.1]
      refine leaves_cons (by simp) (hinv w) ?_
      refine (doCatch (rt := toldC c) (rz := re0) hM).mono ?_
      rintro e2 u2 w2 ⟨rfl, M4, ⟨rfl, rfl⟩, hM4⟩
      refine ⟨_, results_run (act := ⟨act.tmps, []⟩) rfl (Evals.cell rfl inferInstance rfl (Evals.cell rfl inferInstance rfl Evals.nil)) (DSt.st s.1 s.2.2.1 hM4), _, h t { toldC c with st := e } b0 cap0 ps none 0 none 0 (hdo2 e he) hcap hps hm (Nat.le_refl _) (Nat.le_refl _), hM4.sub inferInstance⟩
theorem Do_T (hB : Has (roR (cellsK 9) (some ⟨b0, 0, none⟩) (slZ t.l ps)) F) (hd : Has (datR t.l ps) F) (hm : t.mid) (hps : ps.length = 24) (hcap : 24 ≤ cap0) (hcw : c.wf) (hcl : c.d.length ≤ 4000000000) (hcc : c.d.length ≤ cc) (hro : Ro (Kd.int .u8) Ac F c.d) (hop : 1 ≤ c.op → c.op ≤ 16 → OpT t c)
    (h : ∀ t' r' b' cap' ps' Ad cd Ae ce, doT t c = (t', r') → 24 ≤ cap' → ps'.length = 24 → t'.mid → r'.d.length ≤ cd → r'.e.length ≤ ce → K (.returned (.tuple #[.agg #[.slice (some ⟨b', 0, none⟩) 24 cap', .int .u64 t'.ch, .int .i64 t'.room], .agg (reK r' Ad cd Ae ce).toArray])) (thP b' t'.l ps' :: .per (datR t'.l ps') :: .per (roR (Kd.int .u8) Ad r'.d) :: .per (roR kE Ae r'.e) :: F)) :
    Fn (Tryz.prog) 21 [.agg #[.slice (some ⟨b0, 0, none⟩) 24 cap0, .int .u64 t.ch, .int .i64 t.room], .agg (caC c Ac cc).toArray] F K :=
  Do_M hB hd hm hps hcap hcw hcl hcc hro (fun h8 h9 _ => hop h8 h9) h
theorem Do_S (hB : Has (roR (cellsK 9) (some ⟨b0, 0, none⟩) (slZ t.l ps)) F) (hd : Has (datR t.l ps) F) (hm : t.mid) (hps : ps.length = 24) (hcap : 24 ≤ cap0) (hcw : c.wf) (hcl : c.d.length ≤ 4000000000) (hcc : c.d.length ≤ cc) (hro : Ro (Kd.int .u8) Ac F c.d) (hop : 1 ≤ c.op → c.op ≤ 16 → OpK c)
    (h : ∀ t' r' b' cap' ps' Ad cd Ae ce, doT t c = (t', r') → 24 ≤ cap' → ps'.length = 24 → t'.mid → r'.d.length ≤ cd → r'.e.length ≤ ce → K (.returned (.tuple #[.agg #[.slice (some ⟨b', 0, none⟩) 24 cap', .int .u64 t'.ch, .int .i64 t'.room], .agg (reK r' Ad cd Ae ce).toArray])) (thP b' t'.l ps' :: .per (datR t'.l ps') :: .per (roR (Kd.int .u8) Ad r'.d) :: .per (roR kE Ae r'.e) :: F)) :
    Fn (Tryz.prog) 21 [.agg #[.slice (some ⟨b0, 0, none⟩) 24 cap0, .int .u64 t.ch, .int .i64 t.room], .agg (caC c Ac cc).toArray] F K :=
  Do_T hB hd hm hps hcap hcw hcl hcc hro (fun h8 h9 => by obtain ⟨E, hE, he⟩ := hop h8 h9; exact ⟨E, hE.at_ t (toldC c) c, he t (toldC c)⟩) h
end
end Go.Proofs.YtanemmcddgkpdaaGreat.Sx
end
section
/- Chapter 13: the document's example, pure; conditions: those that each theorem names. -/
namespace Go.Proofs.YtanemmcddgkpdaaGreat.Hm
open Go.RowKit Go.Proofs.YtanemmcddgkpdaaGreatW.PrintWords Go.Proofs.YtanemmcddgkpdaaGreatW.PrintLast Go.Proofs.YtanemmcddgkpdaaGreatW.PrintMore
set_option linter.unusedVariables false
set_option linter.unusedSimpArgs false
/-- A call with nothing but an op, a handle, a name, a count, an offset, data. -/
abbrev ca (op i g : Int) (name : ByteArray) (cnt off : Int) (d : List Int) : Ca := ⟨0, 0, op, i, g, name, 0, 0, ⟨#[]⟩, off, 0, cnt, 0, d⟩
theorem ca_wf {op i g cnt off : Int} {name : ByteArray} {d : List Int} (h1 : u32ok op) (h2 : u32ok i) (h3 : u32ok g) (h4 : u32ok cnt) (h5 : u64ok off) (h6 : bytesB d = true) : (ca op i g name cnt off d).wf :=
  ⟨u32_0, u32_0, h1, h2, h3, u32_0, u32_0, h5, u64_0, h4, u32_0, h6⟩
noncomputable def aw1 : Th × Re := doT (formT 20) (ca 7 0 1 ⟨#[97]⟩ 0 0 [])
noncomputable def aw2 : Th × Re := doT aw1.1 (ca 6 1 1 ⟨#[102]⟩ 0 0 [])
noncomputable def aw3 : Th × Re := doT aw2.1 (ca 5 2 1 ⟨#[]⟩ 0 2 [120])
noncomputable def aw4 : Th × Re := doT aw3.1 (ca 4 2 1 ⟨#[]⟩ 9 0 [])
noncomputable def aw5 : Th × Re := doT aw3.1 (ca 1 1 1 ⟨#[103]⟩ 0 0 [])
theorem aw1_st : aw1.2.st = 0 := by kernel_rfl
theorem aw1_ai : aw1.2.ai = 1 := by kernel_rfl
theorem aw1_ag : aw1.2.ag = 1 := by kernel_rfl
theorem aw2_ai : aw2.2.ai = 2 := by kernel_rfl
theorem aw2_ag : aw2.2.ag = 1 := by kernel_rfl
theorem aw3_st : aw3.2.st = 0 := by kernel_rfl
theorem aw3_sz : aw3.2.sz = 3 := by kernel_rfl
theorem aw4_d : aw4.2.d = [0, 0, 120] := by kernel_rfl
theorem aw4_eof : aw4.2.eof = true := by kernel_rfl
theorem aw5_st : aw5.2.st = 60 := by kernel_rfl
theorem aw3_u : usedT aw3.1.l = 3 := by kernel_rfl
end Go.Proofs.YtanemmcddgkpdaaGreat.Hm
end
section
/- Chapter 13: the document's example, walked; conditions: those that each theorem names. -/
namespace Go.Proofs.YtanemmcddgkpdaaGreat.Sx
open Go.RowKit Go.Proofs.YtanemmcddgkpdaaGreat.Hm Go.Proofs.YtanemmcddgkpdaaGreatW.PrintWords Go.Proofs.YtanemmcddgkpdaaGreatW.PrintLast Go.Proofs.YtanemmcddgkpdaaGreatW.PrintMore
set_option linter.unusedVariables false
set_option linter.unusedSimpArgs false
attribute [local irreducible] SX SXL SXA St callK Post Evals
section
variable {F R : List Thing} {K : Ending → List Thing → Prop} {b0 cap0 cc : Nat} {Ac : Option Addr} {t : Th} {ps : List Pl} {c : Ca}
theorem awake13_S (h : K (.returned (.bool true)) F) : Fn (Tryz.prog) 17 [] F K := by
  refine Fn.enter Tryz.call17 Tryz.func17 rfl rfl rfl ?_
  repeat (first|refine Qa ?_|refine Qd ?_|refine Qe ?_|refine Qf ?_|fail)
  refine SXL.call rfl rfl rfl ?_
  refine (Format_S (room := 20) (fun b0 cap0 hcap0 => callK.ret ?_))
  skip
  refine SXL.alloc rfl rfl (fun p1 => ?_)
  repeat (first|refine Qa ?_|refine Qb ?_|refine Qc ?_|refine Qd ?_|refine Qe ?_|refine Qf ?_|fail)
  have m0 : (formT 20).mid := formT_mid ⟨by decide, by decide⟩
  refine SXL.call rfl rfl rfl ?_
  refine (Do_S (t := formT 20) (ps := nonesP 24) (c := ca 7 0 1 ⟨#[97]⟩ 0 0 []) (Ac := none) (cc := 0) inferInstance inferInstance m0 rfl hcap0 (ca_wf ⟨by decide, by decide⟩ u32_0 ⟨by decide, by decide⟩ u32_0 u64_0 rfl) (by decide) (Nat.le_refl _) inferInstance (fun _ _ => ⟨mkdirE, mkdir_S, fun t r => rfl⟩) (fun t1 r1 b1 cap1 ps1 Ad1 cd1 Ae1 ce1 he1 hcap1 hps1 m1 hd1 hx1 => callK.ret ?_))
  obtain ⟨rfl, rfl⟩ : t1 = aw1.1 ∧ r1 = aw1.2 := by unfold aw1; rw [he1]; exact ⟨rfl, rfl⟩
  clear he1
  repeat (first|refine Qa ?_|fail)
  refine SXL.alloc rfl rfl (fun p2 => ?_)
  repeat (first|refine Qa ?_|refine Qb ?_|refine Qc ?_|refine Qd ?_|refine Qe ?_|refine Qf ?_|fail)
  rw [aw1_st, aw1_ai, aw1_ag]
  skip
  refine SXL.call rfl rfl rfl ?_
  refine (Do_S (t := aw1.1) (ps := ps1) (c := ca 6 1 1 ⟨#[102]⟩ 0 0 []) (Ac := none) (cc := 0) inferInstance inferInstance m1 hps1 hcap1 (ca_wf ⟨by decide, by decide⟩ ⟨by decide, by decide⟩ ⟨by decide, by decide⟩ u32_0 u64_0 rfl) (by decide) (Nat.le_refl _) inferInstance (fun _ _ => ⟨createE, create_S, fun t r => rfl⟩) (fun t2 r2 b2 cap2 ps2 Ad2 cd2 Ae2 ce2 he2 hcap2 hps2 m2 hd2 hx2 => callK.ret ?_))
  obtain ⟨rfl, rfl⟩ : t2 = aw2.1 ∧ r2 = aw2.2 := by unfold aw2; rw [he2]; exact ⟨rfl, rfl⟩
  clear he2
  repeat (first|refine Qa ?_|fail)
  refine SXL.alloc rfl rfl (fun p3 => ?_)
  repeat (first|refine Qa ?_|refine Qb ?_|refine Qc ?_|refine Qd ?_|refine Qe ?_|refine Qf ?_|fail)
  rw [aw2_ai, aw2_ag]
  skip
  refine SXL.lit rfl rfl (fun g => ?_)
  refine SXL.litBytes [120] rfl inferInstance rfl Tryz.underlying38 Tryz.underlying5 (by simp) rfl ?_
  repeat (first|refine Qa ?_|fail)
  refine SXL.call rfl rfl rfl ?_
  refine (Do_S (t := aw2.1) (ps := ps2) (c := ca 5 2 1 ⟨#[]⟩ 0 2 [120]) (Ac := some ⟨g, 0, none⟩) (cc := 1) inferInstance inferInstance m2 hps2 hcap2 (ca_wf ⟨by decide, by decide⟩ ⟨by decide, by decide⟩ ⟨by decide, by decide⟩ u32_0 ⟨by decide, by decide⟩ rfl) (by decide) (Nat.le_refl _) inferInstance (fun _ _ => ⟨writeE, write_S, fun t r => rfl⟩) (fun t3 r3 b3 cap3 ps3 Ad3 cd3 Ae3 ce3 he3 hcap3 hps3 m3 hd3 hx3 => callK.ret ?_))
  obtain ⟨rfl, rfl⟩ : t3 = aw3.1 ∧ r3 = aw3.2 := by unfold aw3; rw [he3]; exact ⟨rfl, rfl⟩
  clear he3
  repeat (first|refine Qa ?_|fail)
  refine SXL.alloc rfl rfl (fun p4 => ?_)
  repeat (first|refine Qa ?_|refine Qb ?_|refine Qc ?_|refine Qd ?_|refine Qe ?_|refine Qf ?_|fail)
  rw [aw3_st, aw3_sz]
  skip
  refine SXL.call rfl rfl rfl ?_
  refine (Do_S (t := aw3.1) (ps := ps3) (c := ca 4 2 1 ⟨#[]⟩ 9 0 []) (Ac := none) (cc := 0) inferInstance inferInstance m3 hps3 hcap3 (ca_wf ⟨by decide, by decide⟩ ⟨by decide, by decide⟩ ⟨by decide, by decide⟩ ⟨by decide, by decide⟩ u64_0 rfl) (by decide) (Nat.le_refl _) inferInstance (fun _ _ => ⟨readE, read_S, fun t r => rfl⟩) (fun t4 r4 b4 cap4 ps4 Ad4 cd4 Ae4 ce4 he4 hcap4 hps4 m4 hd4 hx4 => callK.ret ?_))
  obtain ⟨rfl, rfl⟩ : t4 = aw4.1 ∧ r4 = aw4.2 := by unfold aw4; rw [he4]; exact ⟨rfl, rfl⟩
  clear he4
  repeat (first|refine Qa ?_|fail)
  refine SXL.alloc rfl rfl (fun p5 => ?_)
  skip
  refine SXL.alloc rfl rfl (fun p6 => ?_)
  repeat (first|refine Qa ?_|refine Qb ?_|refine Qc ?_|refine Qd ?_|refine Qe ?_|refine Qf ?_|fail)
  refine SXL.call rfl rfl rfl ?_
  refine (Do_S (t := aw3.1) (ps := ps3) (c := ca 1 1 1 ⟨#[103]⟩ 0 0 []) (Ac := none) (cc := 0) inferInstance inferInstance m3 hps3 hcap3 (ca_wf ⟨by decide, by decide⟩ ⟨by decide, by decide⟩ ⟨by decide, by decide⟩ u32_0 u64_0 rfl) (by decide) (Nat.le_refl _) inferInstance (fun _ _ => ⟨lookupE, lookup_S, fun t r => rfl⟩) (fun t5 r5 b5 cap5 ps5 Ad5 cd5 Ae5 ce5 he5 hcap5 hps5 m5 hd5 hx5 => callK.ret ?_))
  obtain ⟨rfl, rfl⟩ : t5 = aw5.1 ∧ r5 = aw5.2 := by unfold aw5; rw [he5]; exact ⟨rfl, rfl⟩
  clear he5
  repeat (first|refine Qa ?_|fail)
  refine SXL.alloc rfl rfl (fun p7 => ?_)
  skip
  refine SXL.alloc rfl rfl (fun p8 => ?_)
  repeat (first|refine Qa ?_|refine Qb ?_|refine Qc ?_|refine Qd ?_|refine Qe ?_|refine Qf ?_|refine Qm ?_|fail)
  rw [aw5_st, aw4_eof]
  skip
  refine SXL.bytesStr rfl inferInstance rfl Tryz.underlying38 Tryz.underlying5 Tryz.underlying9 rfl ?_
  rw [aw4_d]
  repeat (first|refine Qa ?_|refine Qm ?_|fail)
  refine SXL.know 95 true rfl (by decide +kernel) ?_
  repeat (first|refine Qa ?_|refine Qb ?_|refine Qm ?_|fail)
  refine SXL.call rfl rfl rfl ?_
  refine (Used_P (ts := aw3.1.l) (ps := ps3) inferInstance m3.n hps3 hcap3 m3.m (callK.ret ?_))
  rw [aw3_u]
  repeat (first|refine Qa ?_|refine Qd ?_|refine Qm ?_|fail)
  refine SX.ret (M' := F) rfl (Evals.tmp rfl Evals.nil) ?_ inferInstance
  exact h
end
end Go.Proofs.YtanemmcddgkpdaaGreat.Sx
end
