/- Chapter 13: a name that may not be is refused, pure; conditions: those that each theorem names. -/
import Derived.Test.YtanemmcddgkpdaaGreatJEx
namespace Go.Proofs.YtanemmcddgkpdaaGreat.Sx
open Go.RowKit Go.Proofs.YtanemmcddgkpdaaGreat.Hm Go.Proofs.YtanemmcddgkpdaaGreatW.PrintWords Go.Proofs.YtanemmcddgkpdaaGreatW.PrintLast Go.Proofs.YtanemmcddgkpdaaGreatW.PrintMore
set_option linter.unusedVariables false
set_option linter.unusedSimpArgs false
/-- A call by a name, in the root. -/
abbrev nc (op : Int) (x : ByteArray) : Ca := ⟨0, 0, op, 0, 1, x, 0, 1, ⟨#[98]⟩, 0, 0, 0, 0, [120]⟩
theorem nc_wf {op : Int} {x : ByteArray} (h : u32ok op) : (nc op x).wf :=
  ⟨u32_0, u32_0, h, u32_0, ⟨by show (0:Int) ≤ 1; decide, by show (1:Int) < 4294967296; decide⟩, u32_0, ⟨by show (0:Int) ≤ 1; decide, by show (1:Int) < 4294967296; decide⟩, u64_0, u64_0, u32_0, u32_0, rfl⟩
theorem n_fo : folderE (formT 20) 0 1 = .ok 0 := by kernel_rfl
theorem n_may : mayT (formT 20).l = true := by kernel_rfl
theorem n_es : entS (atT (formT 20) 0) = [] := by kernel_rfl
theorem n_b : namedE ⟨#[98]⟩ = .ok () := by kernel_rfl
theorem n_found (x : ByteArray) : foundS (atT (formT 20) 0) x = none := by unfold foundS; rw [n_es]; rfl
theorem n_child (x : ByteArray) : childE (formT 20) 0 x = .error 60 := by unfold childE; rw [n_found]
theorem n_fil (op : Int) (x : ByteArray) : filB (formT 20) (nc op x) = true := by
  unfold filB
  dsimp only
  rw [n_fo]
  dsimp only
  rw [n_child]
theorem nameE_67 {l : List Int} (h : ¬ nameE l = 0) : nameE l = 67 := by
  unfold nameE at h ⊢
  split
  · rename_i h1; rw [if_pos h1] at h; exact absurd rfl h
  · rfl
theorem n_named0 {x : ByteArray} (h : nameE (bytesOf x) = 0) : namedE x = .ok () := by unfold namedE; rw [h]; rfl
theorem n_named1 {x : ByteArray} (h : ¬ nameE (bytesOf x) = 0) : namedE x = .error 67 := by unfold namedE; rw [nameE_67 h]; rfl
/-! ### what is refused -/
section
variable {x : ByteArray} {r : Re}
theorem bad1 (h : ¬ nameE (bytesOf x) = 0) : lookupE (formT 20) r (nc 1 x) = .error 67 := by unfold lookupE; simp only [n_fo, n_named1 h, okE, erE]
theorem bad6 (h : ¬ nameE (bytesOf x) = 0) : createE (formT 20) r (nc 6 x) = .error 67 := by unfold createE; simp only [n_fo, n_named1 h, okE, erE]
theorem bad7 (h : ¬ nameE (bytesOf x) = 0) : mkdirE (formT 20) r (nc 7 x) = .error 67 := by unfold mkdirE vacantE; simp only [n_fo, n_named1 h, okE, erE]
theorem bad8 (h : ¬ nameE (bytesOf x) = 0) : symlinkE (formT 20) r (nc 8 x) = .error 67 := by unfold symlinkE vacantE; simp only [n_fo, n_named1 h, okE, erE]
theorem bad10 (h : ¬ nameE (bytesOf x) = 0) : removeE (formT 20) r (nc 10 x) = .error 67 := by unfold removeE innerE; simp only [n_fo, n_named1 h, okE, erE]
theorem bad11 (h : ¬ nameE (bytesOf x) = 0) : rmdirE (formT 20) r (nc 11 x) = .error 67 := by unfold rmdirE innerE; simp only [n_fo, n_named1 h, okE, erE]
theorem bad12 (h : ¬ nameE (bytesOf x) = 0) : renameE (formT 20) r (nc 12 x) = .error 67 := by unfold renameE; simp only [n_fo, n_named1 h, okE, erE]
/-! ### what isn't there -/
theorem non1 (h : nameE (bytesOf x) = 0) : lookupE (formT 20) r (nc 1 x) = .error 60 := by unfold lookupE; simp only [n_fo, n_named0 h, n_child, okE, erE]
theorem non10 (h : nameE (bytesOf x) = 0) : removeE (formT 20) r (nc 10 x) = .error 60 := by unfold removeE innerE; simp only [n_fo, n_named0 h, n_child, okE, erE]
theorem non11 (h : nameE (bytesOf x) = 0) : rmdirE (formT 20) r (nc 11 x) = .error 60 := by unfold rmdirE innerE; simp only [n_fo, n_named0 h, n_child, okE, erE]
theorem non12 (h : nameE (bytesOf x) = 0) : renameE (formT 20) r (nc 12 x) = .error 60 := by unfold renameE; simp only [n_fo, n_named0 h, n_b, n_child, okE, erE]
/-! ### what is made -/
theorem n_free : freeAt (formT 20) = some 1 := by kernel_rfl
theorem n_us (s s' : Sl) : (((formT 20).l.set 1 s).set 0 s').map (fun s => needB s.d.length) = needB s'.d.length :: needB s.d.length :: List.replicate 22 0 := by kernel_rfl
theorem n_add (h : nameE (bytesOf x) = 0) : addM [] ⟨1, 1, 1, x⟩ = ([⟨1, 1, 1, x⟩], 0) := by
  unfold addM
  rw [if_neg (by rw [h]; simp), if_neg (by unfold idxE; simp), if_neg (by show ¬ (1 : Int) ≤ lastC []; decide)]
  rfl
theorem n_put (h : nameE (bytesOf x) = 0) : (putM [⟨1, 1, 1, x⟩]).2 = 0 ∧ (putM [⟨1, 1, 1, x⟩]).1.length ≤ 60 := by
  have hm : mayB [⟨1, 1, 1, x⟩] = true := by
    rw [mayB_iff, show ([⟨1, 1, 1, x⟩] : List Ent) = [] ++ [⟨1, 1, 1, x⟩] from rfl, mayOk_snoc]
    exact ⟨mayOk_nil, by rw [n_add h]⟩
  have hl := name_len h
  unfold putM
  rw [if_pos hm]
  refine ⟨rfl, ?_⟩
  show ([⟨1, 1, 1, x⟩] : List Ent).flatMap encE |>.length |> (· ≤ 60)
  simp only [List.flatMap_cons, List.flatMap_nil, List.append_nil, encE, List.length_append]
  unfold opq be64 be32
  simp
  omega
theorem n_make {kind : Int} {c : Ca} {data : List Int} (hc : c.name = x) (hd : data.length ≤ 100) (h : nameE (bytesOf x) = 0) : ∃ t2, freshE (formT 20) r c 0 kind 0 data = .ok (t2, tellS (atT t2 1) r) := by
  obtain ⟨hp0, hpl⟩ := n_put h
  unfold freshE
  rw [n_free, hc]
  dsimp only
  obtain ⟨s, hs⟩ : ∃ s : Sl, s = ⟨(atT (formT 20) 1).ino, kind, ((atT (formT 20) 1).gen + 1) % 4294967296, 1, c.mode % 512, 0, 0, 0, data⟩ := ⟨_, rfl⟩
  have hi : s.ino = 1 := by rw [hs]; kernel_rfl
  have hg : s.gen = 1 := by rw [hs]; kernel_rfl
  have hsd : s.d = data := by rw [hs]
  rw [← hs]
  have h0 : atT (setT (formT 20) 1 s) 0 = rootS := rfl
  have hen : enterE (setT (formT 20) 1 s) 0 x s.ino s.gen = .ok (setT (setT (formT 20) 1 s) 0 { rootS with cookie := 1, d := (putM [⟨1, 1, 1, x⟩]).1 }) := by
    rw [enterE_at h0]
    unfold enterS
    dsimp only
    rw [hi, hg, show entS { rootS with cookie := up64 rootS.cookie } = [] by kernel_rfl, show up64 rootS.cookie = 1 by kernel_rfl, n_add h]
    unfold keepE
    rw [hp0]
    simp only [beq_self_eq_true, needT, okE, decide_eq_true (show (putM [⟨1, 1, 1, x⟩]).1.length ≤ 768 by omega), puE]
    rfl
  have hi2 : (atT (formT 20) 1).ino = s.ino := by rw [hs]
  have hg2 : ((atT (formT 20) 1).gen + 1) % 4294967296 = s.gen := by rw [hs]
  rw [hi2, hg2, hen, okE]
  obtain ⟨tq, htq⟩ : ∃ tq : Th, tq = setT (setT (formT 20) 1 s) 0 { rootS with cookie := 1, d := (putM [⟨1, 1, 1, x⟩]).1 } := ⟨_, rfl⟩
  have hu : usedT tq.l ≤ 3 := by
    rw [htq]
    unfold usedT
    show ((((formT 20).l.set 1 s).set 0 _).map (fun s => needB s.d.length)).sum ≤ 3
    rw [n_us, List.sum_cons, List.sum_cons, show (List.replicate 22 0).sum = 0 from rfl, hsd]
    show needB (putM [⟨1, 1, 1, x⟩]).1.length + (needB data.length + 0) ≤ 3
    unfold needB
    omega
  have hr : tq.room = 20 := by rw [htq]; rfl
  rw [← htq]
  unfold touchE
  dsimp only
  obtain ⟨h1, h2, h3, h4⟩ := touch_fold [1, 0] ⟨tq.l, up64 tq.ch, tq.room⟩
  generalize ([1, 0] : List Nat).foldl (fun t k => setT t k { atT t k with change := t.ch }) ⟨tq.l, up64 tq.ch, tq.room⟩ = w at h1 h2 h3 h4 ⊢
  rw [usedT_d h3, h2, decide_eq_true (show ((usedT tq.l : Nat) : Int) ≤ tq.room by rw [hr]; omega), needT, okE, puE, okE, puE]
  exact ⟨w, rfl⟩
end
end Go.Proofs.YtanemmcddgkpdaaGreat.Sx
