/- Part N8 of the lemmas and walks of the Go functions that these statements reach; conditions: those that each theorem names. -/
import Derived.Test.YtanemmcddgkpdaaGreatJN7
section
/- Chapter 13: a file made by a number, pure; conditions: those that each theorem names. -/
namespace Go.Proofs.YtanemmcddgkpdaaGreat.Hm
open Go.RowKit Go.Proofs.YtanemmcddgkpdaaGreatW.PrintWords Go.Proofs.YtanemmcddgkpdaaGreatW.PrintLast Go.Proofs.YtanemmcddgkpdaaGreatW.PrintMore
set_option linter.unusedVariables false
set_option linter.unusedSimpArgs false

/-- A call by the root's handle, with a number. -/
abbrev cx (name : ByteArray) (cnt v : Int) : Ca := ⟨0, 0, 6, 0, 1, name, 0, 0, ⟨#[]⟩, 0, v, cnt, 0, []⟩
theorem cx_wf {name : ByteArray} {cnt v : Int} (h1 : u32ok cnt) (h2 : u64ok v) : (cx name cnt v).wf :=
  ⟨u32_0, u32_0, ⟨by show (0:Int) ≤ 6; decide, by show (6:Int) < 4294967296; decide⟩, u32_0, ⟨by show (0:Int) ≤ 1; decide, by show (1:Int) < 4294967296; decide⟩, u32_0, u32_0, u64_0, h2, h1, u32_0, rfl⟩
theorem doT_op {t : Th} {c : Ca} (h1 : mayT t.l = true) (h2 : 1 ≤ c.op) (h3 : c.op ≤ 16) : doT t c = match opE t (toldR c) c with | .ok p => p | .error e => (t, { toldR c with st := e }) := by
  unfold doT
  rw [decide_eq_true h2, decide_eq_true h3, h1]
  rfl
noncomputable def ex1 (v : Int) : Th × Re := doT (formT 20) (cx ⟨#[102]⟩ 1 v)
noncomputable def ex2 (v o : Int) : Th × Re := doT (ex1 v).1 (cx ⟨#[102]⟩ 1 o)
noncomputable def ex3 (v : Int) : Th × Re := doT (ex1 v).1 (cx ⟨#[102]⟩ 2 0)
noncomputable def ex4 (v : Int) : Th × Re := doT (ex1 v).1 (cx ⟨#[102]⟩ 0 0)
noncomputable def ex5 (v how : Int) : Th × Re := doT (ex1 v).1 (cx ⟨#[104]⟩ how 0)
theorem ex1_may (v : Int) : mayT (ex1 v).1.l = true := by kernel_rfl
theorem ex1_st (v : Int) : (ex1 v).2.st = 0 := by kernel_rfl
theorem ex1_ai (v : Int) : (ex1 v).2.ai = 1 := by kernel_rfl
theorem ex1_ag (v : Int) : (ex1 v).2.ag = 1 := by kernel_rfl
theorem ex1_ch (v : Int) : (ex1 v).1.ch = 2 := by kernel_rfl
theorem ex2_E (v o : Int) : opE (ex1 v).1 (toldR (cx ⟨#[102]⟩ 1 o)) (cx ⟨#[102]⟩ 1 o) = (needE (o != 0 && v == o) 61 >>= fun _ => .ok ((ex1 v).1, tellS (atT (ex1 v).1 1) (toldR (cx ⟨#[102]⟩ 1 o)))) := by kernel_rfl
theorem op6 {name : ByteArray} {cnt v : Int} : 1 ≤ (cx name cnt v).op := by show (1:Int) ≤ 6; decide
theorem op6' {name : ByteArray} {cnt v : Int} : (cx name cnt v).op ≤ 16 := by show (6:Int) ≤ 16; decide
theorem ex2_te {v : Int} (h : v ≠ 0) : ex2 v v = ((ex1 v).1, tellS (atT (ex1 v).1 1) (toldR (cx ⟨#[102]⟩ 1 v))) := by
  unfold ex2
  rw [doT_op (ex1_may v) op6 op6', ex2_E, show (v != 0 && v == v) = true by simp [h], needT, okE]
theorem ex2_fe {v o : Int} (h : ¬ (o ≠ 0 ∧ v = o)) : ex2 v o = ((ex1 v).1, { toldR (cx ⟨#[102]⟩ 1 o) with st := 61 }) := by
  unfold ex2
  rw [doT_op (ex1_may v) op6 op6', ex2_E, show (o != 0 && v == o) = false by simpa using h, needF, erE]
theorem tl_st (v : Int) : (tellS (atT (ex1 v).1 1) (toldR (cx ⟨#[102]⟩ 1 v))).st = 0 := by kernel_rfl
theorem tl_ai (v : Int) : (tellS (atT (ex1 v).1 1) (toldR (cx ⟨#[102]⟩ 1 v))).ai = 1 := by kernel_rfl
theorem tl_ag (v : Int) : (tellS (atT (ex1 v).1 1) (toldR (cx ⟨#[102]⟩ 1 v))).ag = 1 := by kernel_rfl
theorem ex2_st {v : Int} (h : v ≠ 0) : (ex2 v v).2.st = 0 := by simp only [ex2_te h, tl_st]
theorem ex2_ai {v : Int} (h : v ≠ 0) : (ex2 v v).2.ai = 1 := by simp only [ex2_te h, tl_ai]
theorem ex2_ag {v : Int} (h : v ≠ 0) : (ex2 v v).2.ag = 1 := by simp only [ex2_te h, tl_ag]
theorem ex2_ch {v : Int} (h : v ≠ 0) : (ex2 v v).1.ch = 2 := by simp only [ex2_te h, ex1_ch]
theorem ex2_fst {v o : Int} (h : ¬ (o ≠ 0 ∧ v = o)) : (ex2 v o).2.st = 61 := by rw [ex2_fe h]
theorem ex2_fch {v o : Int} (h : ¬ (o ≠ 0 ∧ v = o)) : (ex2 v o).1.ch = 2 := by simp only [ex2_fe h, ex1_ch]
theorem ex3_st (v : Int) : (ex3 v).2.st = 61 := by kernel_rfl
theorem ex4_st (v : Int) : (ex4 v).2.st = 0 := by kernel_rfl
theorem ex4_ai (v : Int) : (ex4 v).2.ai = 1 := by kernel_rfl
theorem ex4_ag (v : Int) : (ex4 v).2.ag = 1 := by kernel_rfl
theorem fo_r (v : Int) : folderE (ex1 v).1 0 1 = .ok 0 := by kernel_rfl
theorem na_h : namedE ⟨#[104]⟩ = .ok () := by kernel_rfl
theorem ex5_E {v how : Int} (h : ¬ how ≤ 2) : createE (ex1 v).1 (toldR (cx ⟨#[104]⟩ how 0)) (cx ⟨#[104]⟩ how 0) = .error 64 := by
  unfold createE
  dsimp only
  rw [fo_r, okE, na_h, okE, decide_eq_false h, needF, erE]
theorem op_6 (t : Th) (r : Re) (name : ByteArray) (cnt v : Int) : opE t r (cx name cnt v) = createE t r (cx name cnt v) := rfl
theorem ex5_f {v how : Int} (h : ¬ how ≤ 2) : (ex5 v how).2.st = 64 := by
  unfold ex5
  rw [doT_op (ex1_may v) op6 op6', op_6, ex5_E h]
theorem ex5_0 (v : Int) : (ex5 v 0).2.st = 0 := by kernel_rfl
theorem ex5_1 (v : Int) : (ex5 v 1).2.st = 0 := by kernel_rfl
theorem ex5_2 (v : Int) : (ex5 v 2).2.st = 0 := by kernel_rfl
theorem ex5_t {v how : Int} (h0 : 0 ≤ how) (h : how ≤ 2) : (ex5 v how).2.st = 0 := by
  have h3 : how = 0 ∨ how = 1 ∨ how = 2 := by omega
  rcases h3 with h4 | h4 | h4
  · rw [h4]; exact ex5_0 v
  · rw [h4]; exact ex5_1 v
  · rw [h4]; exact ex5_2 v
end Go.Proofs.YtanemmcddgkpdaaGreat.Hm
end
section
/- Chapter 13: each op for one kind of thing refuses the others, pure; conditions: those that each theorem names. -/
namespace Go.Proofs.YtanemmcddgkpdaaGreat.Hm
open Go.RowKit Go.Proofs.YtanemmcddgkpdaaGreatW.PrintWords Go.Proofs.YtanemmcddgkpdaaGreatW.PrintLast Go.Proofs.YtanemmcddgkpdaaGreatW.PrintMore
set_option linter.unusedVariables false
set_option linter.unusedSimpArgs false

noncomputable def kd1 : Th × Re := doT (formT 40) (ca 6 0 1 ⟨#[102]⟩ 0 0 [])
/-- Things behind a link made, with data. -/
noncomputable def kdT (d : List Int) : Th := match enterE (setT kd1.1 2 ⟨2, 3, 1, 1, 0, 0, 0, 0, d⟩) 0 ⟨#[115]⟩ 2 1 with
  | .ok t => [2, 0].foldl (fun t k => setT t k { atT t k with change := t.ch }) ⟨t.l, up64 t.ch, t.room⟩
  | .error _ => kd1.1
theorem kd1_ai : kd1.2.ai = 1 := by kernel_rfl
theorem kd1_ag : kd1.2.ag = 1 := by kernel_rfl
theorem kd1_may : mayT kd1.1.l = true := by kernel_rfl
theorem kd2_E (d : List Int) : symlinkE kd1.1 (toldR (ca 8 0 1 ⟨#[115]⟩ 0 0 d)) (ca 8 0 1 ⟨#[115]⟩ 0 0 d) = (needE (decide (1 ≤ d.length) && decide (d.length ≤ 768)) 64 >>= fun _ => (needE (decide ((usedT (kdT d).l : Int) ≤ 40)) 66 >>= fun _ => (pure (kdT d) : Ex Th)) >>= fun t2 => pure (t2, tellS (atT t2 2) (toldR (ca 8 0 1 ⟨#[115]⟩ 0 0 d)))) := by kernel_rfl
theorem kdT_u (d : List Int) : (kdT d).l.map (fun s => needB s.d.length) = 1 :: 0 :: needB d.length :: List.replicate 21 0 := by kernel_rfl
theorem kdT_may (d : List Int) : mayT (kdT d).l = (((decide ((d.length : Int) ≤ 768)) && true) && true) := by kernel_rfl
theorem kdT_ai (d : List Int) : (atT (kdT d) 2).ino = 2 := by kernel_rfl
theorem kdT_ag (d : List Int) : (atT (kdT d) 2).gen = 1 := by kernel_rfl
theorem op_8 (t : Th) (r : Re) (i g : Int) (name : ByteArray) (cnt off : Int) (d : List Int) : opE t r (ca 8 i g name cnt off d) = symlinkE t r (ca 8 i g name cnt off d) := rfl
noncomputable def kd2 (d : List Int) : Th × Re := doT kd1.1 (ca 8 0 1 ⟨#[115]⟩ 0 0 d)
theorem op_in {op i g cnt off : Int} {name : ByteArray} {d : List Int} (h1 : 1 ≤ op) (h2 : op ≤ 16) : 1 ≤ (ca op i g name cnt off d).op ∧ (ca op i g name cnt off d).op ≤ 16 := ⟨h1, h2⟩
theorem kd2_e {d : List Int} (h1 : 1 ≤ d.length) (h2 : d.length ≤ 700) : kd2 d = (kdT d, tellS (atT (kdT d) 2) (toldR (ca 8 0 1 ⟨#[115]⟩ 0 0 d))) := by
  have hu : usedT (kdT d).l = 1 + needB d.length := by
    unfold usedT
    rw [kdT_u]
    rw [List.sum_cons, List.sum_cons, List.sum_cons, show (List.replicate 21 0).sum = 0 from rfl]
    omega
  have hn : needB d.length ≤ 10 := by unfold needB; omega
  unfold kd2
  rw [doT_op kd1_may (op_in (by decide) (by decide)).1 (op_in (by decide) (by decide)).2, op_8, kd2_E, decide_eq_true h1, decide_eq_true (show d.length ≤ 768 by omega), Bool.and_self, needT, okE, hu, decide_eq_true (by omega), needT, okE, puE, okE, puE]
theorem kd2_st {d : List Int} (h1 : 1 ≤ d.length) (h2 : d.length ≤ 700) : (kd2 d).2.st = 0 := by rw [kd2_e h1 h2]; simp only [tellS, toldR, Re0]
theorem kd2_ai {d : List Int} (h1 : 1 ≤ d.length) (h2 : d.length ≤ 700) : (kd2 d).2.ai = 2 := by rw [kd2_e h1 h2]; simp only [tellS, kdT_ai]
theorem kd2_ag {d : List Int} (h1 : 1 ≤ d.length) (h2 : d.length ≤ 700) : (kd2 d).2.ag = 1 := by rw [kd2_e h1 h2]; simp only [tellS, kdT_ag]
theorem kdT_ok {d : List Int} (h2 : d.length ≤ 700) : mayT (kdT d).l = true := by rw [kdT_may, decide_eq_true (by omega)]; rfl
theorem err_st {t : Th} {c : Ca} {e : Int} (h1 : mayT t.l = true) (h2 : 1 ≤ c.op ∧ c.op ≤ 16) (h : opE t (toldR c) c = .error e) : (doT t c).2.st = e := by rw [doT_op h1 h2.1 h2.2, h]
/-! ### what each of them is refused with -/
theorem ka_E (d : List Int) : readlinkE (kdT d) (toldR (ca 9 2 1 ⟨#[]⟩ 0 0 [])) (ca 9 2 1 ⟨#[]⟩ 0 0 []) = .ok (kdT d, tellS (atT (kdT d) 2) { toldR (ca 9 2 1 ⟨#[]⟩ 0 0 []) with d := d }) := by kernel_rfl
theorem ka_d {d : List Int} (h2 : d.length ≤ 700) : (doT (kdT d) (ca 9 2 1 ⟨#[]⟩ 0 0 [])).2.d = d := by
  rw [doT_op (kdT_ok h2) (op_in (by decide) (by decide)).1 (op_in (by decide) (by decide)).2, show opE (kdT d) (toldR (ca 9 2 1 ⟨#[]⟩ 0 0 [])) (ca 9 2 1 ⟨#[]⟩ 0 0 []) = _ from ka_E d]
theorem kb_E (d : List Int) : readlinkE (kdT d) (toldR (ca 9 1 1 ⟨#[]⟩ 0 0 [])) (ca 9 1 1 ⟨#[]⟩ 0 0 []) = .error 64 := by kernel_rfl
theorem kc_E (d : List Int) : readE (kdT d) (toldR (ca 4 2 1 ⟨#[]⟩ 9 0 [])) (ca 4 2 1 ⟨#[]⟩ 9 0 []) = .error 64 := by kernel_rfl
theorem kd_E (d : List Int) : readE (kdT d) (toldR (ca 4 0 1 ⟨#[]⟩ 9 0 [])) (ca 4 0 1 ⟨#[]⟩ 9 0 []) = .error 63 := by kernel_rfl
theorem ke_E (d : List Int) : writeE (kdT d) (toldR (ca 5 0 1 ⟨#[]⟩ 0 0 d)) (ca 5 0 1 ⟨#[]⟩ 0 0 d) = .error 63 := by kernel_rfl
theorem kg_E (d : List Int) : writeE (kdT d) (toldR (ca 5 2 1 ⟨#[]⟩ 0 0 d)) (ca 5 2 1 ⟨#[]⟩ 0 0 d) = .error 64 := by kernel_rfl
theorem kh_E (d : List Int) : readdirE (kdT d) (toldR (ca 14 1 1 ⟨#[]⟩ 1 0 [])) (ca 14 1 1 ⟨#[]⟩ 1 0 []) = .error 62 := by kernel_rfl
theorem ki_E (d : List Int) : lookupE (kdT d) (toldR (ca 1 1 1 ⟨#[97]⟩ 0 0 [])) (ca 1 1 1 ⟨#[97]⟩ 0 0 []) = .error 62 := by kernel_rfl
theorem kj_E (d : List Int) : setattrE (kdT d) (toldR (ca 3 0 1 ⟨#[]⟩ 5 1 [])) (ca 3 0 1 ⟨#[]⟩ 5 1 []) = .error 63 := by kernel_rfl
theorem kk_E (d : List Int) : setattrE (kdT d) (toldR (ca 3 2 1 ⟨#[]⟩ 5 1 [])) (ca 3 2 1 ⟨#[]⟩ 5 1 []) = .error 64 := by kernel_rfl
theorem kl_E (d : List Int) : createE (kdT d) (toldR (ca 6 0 1 ⟨#[115]⟩ 0 0 [])) (ca 6 0 1 ⟨#[115]⟩ 0 0 []) = .error 61 := by kernel_rfl
end Go.Proofs.YtanemmcddgkpdaaGreat.Hm
end
