/- Part N1 of the lemmas and walks of the Go functions that these statements reach; conditions: those that each theorem names. -/
import Derived.Test.YtanemmcddgkpdaaGreatJZ5
import Derived.Test.YtanemmcddgkpdaaGreatJZ1
import Derived.Test.YtanemmcddgkpdaaGreatJV7
section
/- Go code walked by what is known of slots and memory: rows of elements told by their cells: a field read, a field written, through a pointer; conditions: those that each theorem names. -/
namespace Go.Proofs.YtanemmcddgkpdaaGreat.Sx
open Go.RowKit Go.Proofs.YtanemmcddgkpdaaGreat.Hm Go.Proofs.YtanemmcddgkpdaaGreatW.PrintWords Go.Proofs.YtanemmcddgkpdaaGreatW.PrintLast Go.Proofs.YtanemmcddgkpdaaGreatW.PrintMore
set_option linter.unusedVariables false
set_option linter.unusedSimpArgs false
/-- What stands in a row at a place. -/
class GetIs {α : Type} (xs : List α) (j : Nat) (x : outParam α) : Prop where
  h : xs[j]? = some x
theorem info_of_size {P : Program} {t s : Nat} {w : World} (h : (sizeOf t).run P w = .ok s w) : (P.info? t).map (·.size) = some s := by
  unfold sizeOf typeInfo at h
  cases hi : P.info? t with
  | none => simp [hi] at h
  | some i => simp [hi] at h ⊢; exact h
theorem storeC_get {T : List (Nat × TI)} {t off : Nat} {cs cs' : List Value} {v : Value} (h : storeC T t cs off v = some cs') :
    ∃ ti, lookT T t = some ti ∧ off + ti.size ≤ cs.length ∧ v.cells.size = ti.size ∧ (∀ u ∈ v.cells.toList, u.oneCell' = true) ∧ cs' = cs.take off ++ v.cells.toList ++ cs.drop (off + v.cells.toList.length) := by
  unfold storeC at h
  split at h
  · rename_i s g z dd r hl
    split at h
    · rename_i h1 h2 h3
      have h1' := Nat.le_of_ble_eq_true h1
      have h2' := Nat.eq_of_beq_eq_true h2
      refine ⟨_, hl, h1', h2', ?_, ?_⟩
      · exact ones_ok h3
      · rw [putAt_eq] at h
        have h9 := Option.some.inj h
        rw [← h9, ins_eq cs off v.cells.toList (by rw [Array.length_toList, h2']; exact h1')]
    · cases h
  · cases h
section
variable {P : Program} {fn : Func} {K : Ending → List Thing → Prop} {N : Nat} {k : List It} {a : Fr} {M M0 R : List Thing} {ops : Array Oper} {rest : List Oper} {T : List (Nat × TI)}
variable {d : Nat} {op : Op} {ty : TypeId} {pos : String} {af : Array Edge}
theorem SXL.ldElt [hT : TOk P T] {t b p j f n : Nat} {x : Operand} {css : List (CellsN n)} {e : CellsN n} {v : Value} (hx : evalO a x = some (.pointer (some ⟨b, p, none⟩))) (hp : p = j * n + f) [hr : Ro (cellsK n) (some ⟨b, 0, none⟩) M css] (he : css[j]? = some e)
    (h : loadC T t e.1 f = some v) (hd : Nat.blt d N = true) (hK : SXL P fn K N k ops rest ((d, v) :: a) M) : SXL P fn K N k ops (⟨some d, .load t x, ty, pos, af, none⟩ :: rest) a M :=
  SXL.val hd (fun act w st => by
    subst hp
    have h9 := loadC_ro (P := P) (T := T) (st.holds.ro hr) he h
    have h8 : (cellsK n).sz = n := rfl
    rw [h8, Nat.zero_add] at h9
    simp [execOp, evalO_ok st.fits hx, Instr.loadAt, Instr.sureAddr, h9]) hK
theorem SXL.stElt [hT : TOk P T] {t b p j f n m c : Nat} {x y : Operand} {css : List (CellsN n)} {e e' : CellsN n} {v : Value} {ty' : TypeId} (hx : evalO a x = some (.pointer (some ⟨b, p, none⟩))) (hp : p = j * n + f) (hy : evalO a y = some v)
    (hat : At (some ⟨b, 0, none⟩) M (rowR (cellsK n) ty' (.slice (some ⟨b, 0, none⟩) m c) css) R) (he : css[j]? = some e) (h : storeC T t e.1 f v = some e'.1)
    (hK : SXL P fn K N k ops rest a (.own (some ⟨b, 0, none⟩) (rowR (cellsK n) ty' (.slice (some ⟨b, 0, none⟩) m c) (css.set j e')) :: R)) : SXL P fn K N k ops (⟨none, .store t x y, ty, pos, af, none⟩ :: rest) a M := by
  intro act w st
  obtain ⟨ti, hl, h1, h2, h3, h4⟩ := storeC_get h
  have hM := st.holds.at_ hat
  obtain ⟨I, hI, S, hS, hr, hL⟩ := hM
  have hr' : (cellsK n).R ty' w 0 S (.slice (some ⟨b, 0, none⟩) m c) css := hr
  have hmc : m = css.length := (Kd.R_reads' hr').1
  have hj : j < css.length := (List.getElem?_eq_some_iff.1 he).1
  obtain ⟨A1, c1, e1, _, hC⟩ := Kd.R_reads hr'
  have hcc : ∀ i u, e.1[i]? = some u → w.cell? ⟨b, (j : Int).toNat * (cellsK n).sz + i, none⟩ = some u := by
    intro i u hu
    have hF := Kd.F_get (Kd.R_F hr') e (j : Int) (by omega) (by omega)
    obtain ⟨ad', c9, he9, hcl, hK9, hcc9, -⟩ := hF
    injection he9 with he9
    subst he9
    rw [Int.toNat_natCast] at hK9 hcc9
    have hj9 : css.getD j e = e := by rw [List.getD_eq_getElem?_getD, he]; rfl
    rw [hj9] at hK9
    have h10 : c9 = e.1 := Kd.FK_now hK9
    subst h10
    have h11 := hcc9 i u hu
    rw [Int.toNat_natCast]
    have h12 : (⟨b, 0, none⟩ : Addr).add (j * (cellsK n).sz + i) = ⟨b, j * (cellsK n).sz + i, none⟩ := by
      simp [add_plain]
    rw [h12] at h11
    exact h11
  have hsz := (tok (P := P) hl).size
  refine Kd.R_store (cellsK n) (w0 := w) 0 rfl rfl t x y rfl ty' (j : Int) f css e' v v.cells.toList e.1 (fun k => S k ∨ w.heap.size ≤ k) (fun _ => False) (evalO_ok st.fits hx) (by rw [hp, Int.toNat_natCast]; rfl) (evalO_ok st.fits hy) rfl
    (by rw [info_of_size (hsz w), Array.length_toList, h2]) h3 (Kd.R_mono hr' (fun _ h => .inl h)) (by omega) (by omega) e.2.1 hcc (by rw [Array.length_toList, h2]; have := e.2.1; show f + ti.size ≤ n; omega) ?_ (fun _ h => h.elim) (Below.refl 0 w) ?_
  · show e.1.take f ++ v.cells.toList ++ e.1.drop (f + v.cells.toList.length) = e'.1
    exact h4.symm
  intro w1 hr1 hb1 hg1
  rw [Int.toNat_natCast] at hr1
  refine hK _ _ (st.keep ?_)
  exact Holds.act1 hI hS hL ⟨hg1.os, hg1.tape, hg1.output⟩ hg1.size (fun k hk hn => hg1.block k hk (fun e => hn (by
    have h9 := hr.1 b (by simp [Value.ownBlock])
    injection e with e
    exact e ▸ h9))) (S' := fun k => (S k ∨ w.heap.size ≤ k) ∧ k < w1.heap.size) (fun k hk => hk)
    (Kd.R_mono (Kd.R_bound hr1) (fun k hk => ⟨hk.1, hk.2.2.1⟩))
/-- A row's element at an address: its cells. -/
class EltAt (M : List Thing) (b p : Nat) (cs : outParam (List Value)) : Prop where
  h : ∀ w, Holds w M → ∃ (n j : Nat) (css : List (CellsN n)) (e : CellsN n), p = j * n ∧ css[j]? = some e ∧ e.1 = cs ∧ (cellsK n).C w (some ⟨b, 0, none⟩) css.length css
instance EltAt.of {M : List Thing} {b n j : Nat} {css : List (CellsN n)} {e : CellsN n} [hr : Ro (cellsK n) (some ⟨b, 0, none⟩) M css] [hg : GetIs css j e] : EltAt M b (j * n) e.1 :=
  ⟨fun w hw => ⟨n, j, css, e, rfl, hg.h, rfl, hw.ro hr⟩⟩
theorem elt_load [hT : TOk P T] {t b p f : Nat} {cs : List Value} {v : Value} {w : World} (hw : Holds w M) (he : EltAt M b p cs) (h : loadC T t cs f = some v) : (loadVar t ⟨b, p + f, none⟩).run P w = .ok v w := by
  obtain ⟨n, j, css, e, rfl, h1, rfl, hC⟩ := he.h w hw
  have h9 := loadC_ro (P := P) (T := T) hC h1 h
  have h8 : (cellsK n).sz = n := rfl
  rw [h8, Nat.zero_add] at h9
  exact h9
theorem Qx [hT : TOk P T] {t b p f : Nat} {x : Operand} {cs : List Value} {v : Value} (hK : SXL P fn K N k ops rest ((d, v) :: a) M) (hx : evalO a x = some (.pointer (some ⟨b, p + f, none⟩)) := by exact rfl) (he : EltAt M b p cs := by infer_instance)
    (h : loadC T t cs f = some v := by exact rfl) (hd : Nat.blt d N = true := by exact rfl) : SXL P fn K N k ops (⟨some d, .load t x, ty, pos, af, none⟩ :: rest) a M :=
  SXL.val hd (fun act w st => by
    simp [execOp, evalO_ok st.fits hx, Instr.loadAt, Instr.sureAddr, elt_load (P := P) (T := T) st.holds he h]) hK
theorem Qy [hT : TOk P T] {t b p : Nat} {x : Operand} {cs : List Value} {v : Value} (hK : SXL P fn K N k ops rest ((d, v) :: a) M) (hx : evalO a x = some (.pointer (some ⟨b, p, none⟩)) := by exact rfl) (he : EltAt M b p cs := by infer_instance)
    (h : loadC T t cs 0 = some v := by exact rfl) (hd : Nat.blt d N = true := by exact rfl) : SXL P fn K N k ops (⟨some d, .load t x, ty, pos, af, none⟩ :: rest) a M :=
  SXL.val hd (fun act w st => by
    have h9 := elt_load (P := P) (T := T) st.holds he h
    rw [Nat.add_zero] at h9
    simp [execOp, evalO_ok st.fits hx, Instr.loadAt, Instr.sureAddr, h9]) hK
variable {ds : List Nat} {fuel : Nat} {l : Array Bool}
theorem Qxa [hT : TOk P T] (i : Nat) {t b p f : Nat} {x : Operand} {cs : List Value} {v : Value} {g : Option (Nat × Bool)} (hK : SXA P fn K N k ops M0 ds fuel (l.setIfInBounds i true) ((d, v) :: a) M) (hi : ops[i]? = some ⟨some d, .load t x, ty, pos, af, g⟩ := by exact rfl) (hc : takeB .any ops ds l (l.setIfInBounds i true) i = true := by decide +kernel)
    (hg : guardB ops a g = some true := by exact rfl) (hx : evalO a x = some (.pointer (some ⟨b, p + f, none⟩)) := by exact rfl) (he : EltAt M0 b p cs := by infer_instance) (h : loadC T t cs f = some v := by exact rfl) (hd : Nat.blt d N = true := by exact rfl) (hM : Sub M M0 := by infer_instance) : SXA P fn K N k ops M0 ds (fuel + 1) l a M :=
  SXA.val i hi hc hg (fun act w st w' hw' => by
    simp [execOp, evalO_ok st.fits hx, Instr.loadAt, Instr.sureAddr, elt_load (P := P) (T := T) hw' he h]) hd hM hK
theorem Qya [hT : TOk P T] (i : Nat) {t b p : Nat} {x : Operand} {cs : List Value} {v : Value} {g : Option (Nat × Bool)} (hK : SXA P fn K N k ops M0 ds fuel (l.setIfInBounds i true) ((d, v) :: a) M) (hi : ops[i]? = some ⟨some d, .load t x, ty, pos, af, g⟩ := by exact rfl) (hc : takeB .any ops ds l (l.setIfInBounds i true) i = true := by decide +kernel)
    (hg : guardB ops a g = some true := by exact rfl) (hx : evalO a x = some (.pointer (some ⟨b, p, none⟩)) := by exact rfl) (he : EltAt M0 b p cs := by infer_instance) (h : loadC T t cs 0 = some v := by exact rfl) (hd : Nat.blt d N = true := by exact rfl) (hM : Sub M M0 := by infer_instance) : SXA P fn K N k ops M0 ds (fuel + 1) l a M :=
  SXA.val i hi hc hg (fun act w st w' hw' => by
    have h9 := elt_load (P := P) (T := T) hw' he h
    rw [Nat.add_zero] at h9
    simp [execOp, evalO_ok st.fits hx, Instr.loadAt, Instr.sureAddr, h9]) hd hM hK
def plainD : TypeDesc → Bool
  | .interface _ => false
  | _ => true
theorem SXL.mkIface [hT : TOk P T] {t : Nat} {x : Operand} {v : Value} {ti : TI} (hx : evalO a x = some v) (hl : lookT T t = some ti) (hs : plainD ti.desc = true) (hd : Nat.blt d N = true)
    (hK : SXL P fn K N k ops rest ((d, .iface t v) :: a) M) : SXL P fn K N k ops (⟨some d, .makeInterface t x, ty, pos, af, none⟩ :: rest) a M :=
  SXL.val hd (fun act w st => by
    have h9 := (tok (P := P) hl).desc w
    simp only [execOp, Instr.makeInterface, Sem.run_bind, h9, Result.andThen_ok, evalO_ok st.fits hx]
    cases hc : ti.desc <;> first | (simp [plainD, hc] at hs; done) | rfl) hK
/-- The text's own panic. -/
theorem SXL.panicOp {dst : Option Nat} {x : Operand} {t : TypeId} {v : Value} {M' : List Thing} (hx : evalO a x = some (.iface t v)) (h : K (.panicked [{ v := .iface t v, recovered := false }]) M') (hM : Sub M M') : SXL P fn K N k ops (⟨dst, .panic x, ty, pos, af, none⟩ :: rest) a M :=
  SXL.step rfl (fun act w st => by
    have hr : (execOp act.eval ⟨dst, .panic x, ty, pos, af, none⟩).run P w = .halt (.panic (.iface t v)) w := by
      simp only [execOp, evalO_ok st.fits hx, Sem.run_bind, run_panic_iface]
      rfl
    unfold Oper.wp
    rw [hr]
    exact Post_panic ⟨st.2.1, M', h, st.holds.sub hM⟩ k)
/-- What follows from what stays, stays. -/
theorem SX.derive (r r' : Res) [hr : Has r M] (himp : ∀ w S, r.P w S → r'.P w S) (h : SX P fn K N k a (.per r' :: M)) : SX P fn K N k a M := fun act w s => by
  obtain ⟨I, hI, hL⟩ := s.holds
  exact h act w (s.keep ⟨I, hI, himp w I (hr.h _ _ _ hL), hL⟩)
theorem SXL.derive {l : List Oper} (r r' : Res) [hr : Has r M] (himp : ∀ w S, r.P w S → r'.P w S) (h : SXL P fn K N k ops l a (.per r' :: M)) : SXL P fn K N k ops l a M := fun act w s => by
  obtain ⟨I, hI, hL⟩ := s.holds
  exact h act w (s.keep ⟨I, hI, himp w I (hr.h _ _ _ hL), hL⟩)
theorem Fn.derive {f : FuncId} {args : List Value} (r r' : Res) [hr : Has r M] (himp : ∀ w S, r.P w S → r'.P w S) (h : Fn P f args (.per r' :: M) K) : Fn P f args M K :=
  ⟨h.call, fun w hw => by
    obtain ⟨I, hI, hL⟩ := hw
    exact h.runs w ⟨I, hI, himp w I (hr.h _ _ _ hL), hL⟩⟩
end
end Go.Proofs.YtanemmcddgkpdaaGreat.Sx
end
section
/- Chapter 13: things, and what calls do to them, pure; conditions: those that each theorem names. -/
namespace Go.Proofs.YtanemmcddgkpdaaGreat.Hm
open Go.RowKit Go.Proofs.YtanemmcddgkpdaaGreatW.PrintWords Go.Proofs.YtanemmcddgkpdaaGreatW.PrintLast Go.Proofs.YtanemmcddgkpdaaGreatW.PrintMore
set_option linter.unusedVariables false
set_option linter.unusedSimpArgs false
/-- All things, how many changes there were, and how many blocks there are. -/
structure Th where
  l : List Sl
  ch : Int
  room : Int
abbrev Ex := Except Int
def needB (n : Nat) : Nat := (n + 95) / 96
def usedT (l : List Sl) : Nat := (l.map fun s => needB s.d.length).sum
def freeS (i : Nat) : Sl := ⟨i, 0, 0, 0, 0, 0, 0, 0, []⟩
def rootS : Sl := ⟨0, 2, 1, 1, 493, 1, 0, 0, []⟩
def formT (room : Int) : Th := ⟨rootS :: (List.range 23).map (fun i => freeS (i + 1)), 1, room⟩
def mayT (l : List Sl) : Bool := decide (l.length = 24) && (List.range l.length).all fun i => match l[i]? with | some s => decide (s.ino = i) && okB s | none => true
def needE (b : Bool) (e : Int) : Ex Unit := if b then .ok () else .error e
def atT (t : Th) (k : Nat) : Sl := t.l.getD k Sl0
/-- That of a handle. -/
def thingE (t : Th) (i g : Int) : Ex Nat := do
  needE (decide (i < 24)) 69
  needE ((atT t i.toNat).kind != 0 && (atT t i.toNat).gen == g) 69
  pure i.toNat
def folderE (t : Th) (i g : Int) : Ex Nat := do
  let k ← thingE t i g
  needE ((atT t k).kind == 2) 62
  pure k
def fileE (t : Th) (i g : Int) : Ex Nat := do
  let k ← thingE t i g
  needE ((atT t k).kind != 2) 63
  needE ((atT t k).kind == 1) 64
  pure k
def namedE (s : ByteArray) : Ex Unit := needE (nameE (bytesOf s) == 0) (nameE (bytesOf s))
def entS (s : Sl) : List Ent := (getM s.d).1
def foundS (s : Sl) (name : ByteArray) : Option Ent := (entS s).find? fun e => e.s.toList == name.toList
def childE (t : Th) (d : Nat) (name : ByteArray) : Ex Nat := match foundS (atT t d) name with
  | none => .error 60
  | some e => thingE t e.i e.g
def keepE (s : Sl) (l : List Ent) : Ex Sl := do
  needE ((putM l).2 == 0) 64
  needE (decide ((putM l).1.length ≤ 768)) 66
  pure { s with d := (putM l).1 }
abbrev setT (t : Th) (k : Nat) (s : Sl) : Th := ⟨t.l.set k s, t.ch, t.room⟩
abbrev tellS (s : Sl) (r : Re) : Re := { r with ai := s.ino, ag := s.gen, ak := s.kind, am := s.mode, al := s.links, sz := (s.d.length : Int), ac := s.change }
def up64 (x : Int) : Int := (x + 1) % 18446744073709551616
def touchE (t : Th) (ks : List Nat) : Ex Th := do
  let t' : Th := ks.foldl (fun t k => setT t k { atT t k with change := t.ch }) ⟨t.l, up64 t.ch, t.room⟩
  needE (decide ((usedT t'.l : Int) ≤ t'.room)) 66
  pure t'
def enterE (t : Th) (d : Nat) (name : ByteArray) (i g : Int) : Ex Th := do
  let s := { atT t d with cookie := up64 (atT t d).cookie }
  let p := addM (entS s) ⟨s.cookie, i, g, name⟩
  needE (p.2 == 0) p.2
  let s' ← keepE s p.1
  pure (setT t d s')
def leaveE (t : Th) (d : Nat) (name : ByteArray) : Ex Th := do
  let p := removeM (entS (atT t d)) name
  needE (p.2 == 0) p.2
  let s' ← keepE (atT t d) p.1
  pure (setT t d s')
def unlinkS (s : Sl) : Sl :=
  if (s.links - 1) % 4294967296 = 0 then ⟨s.ino, 0, s.gen, 0, 0, s.change, 0, 0, []⟩ else { s with links := (s.links - 1) % 4294967296 }
def sizedL (b : List Int) (n : Nat) : List Int := b.take n ++ List.replicate (n - b.length) 0
def freeAt (t : Th) : Option Nat := t.l.findIdx? fun s => s.kind == 0
def freshE (t : Th) (r : Re) (c : Ca) (d : Nat) (kind verf : Int) (data : List Int) : Ex (Th × Re) := match freeAt t with
  | none => .error 66
  | some k => do
    let s : Sl := ⟨(atT t k).ino, kind, ((atT t k).gen + 1) % 4294967296, 1, c.mode % 512, 0, 0, verf, data⟩
    let t1 ← enterE (setT t k s) d c.name s.ino s.gen
    let t2 ← touchE t1 [k, d]
    pure (t2, tellS (atT t2 k) r)
def lookupE (t : Th) (r : Re) (c : Ca) : Ex (Th × Re) := do
  let d ← folderE t c.ai c.ag
  namedE c.name
  let k ← childE t d c.name
  pure (t, tellS (atT t k) r)
def getattrE (t : Th) (r : Re) (c : Ca) : Ex (Th × Re) := do
  let k ← thingE t c.ai c.ag
  pure (t, tellS (atT t k) r)
def setattrE (t : Th) (r : Re) (c : Ca) : Ex (Th × Re) := do
  let k ← thingE t c.ai c.ag
  if c.off = 1 then
    let _ ← fileE t c.ai c.ag
    needE (decide (c.cnt ≤ 768)) 65
  needE (decide (c.off ≤ 1)) 64
  let s := { atT t k with mode := c.mode % 512 }
  let s' := if c.off = 1 then { s with d := sizedL s.d c.cnt.toNat } else s
  let t' ← touchE (setT t k s') [k]
  pure (t', tellS (atT t' k) r)
def readE (t : Th) (r : Re) (c : Ca) : Ex (Th × Re) := do
  let k ← fileE t c.ai c.ag
  let d := (atT t k).d
  let fr := min c.off.toNat d.length
  let n := min c.cnt.toNat (d.length - fr)
  pure (t, tellS (atT t k) { r with d := (d.drop fr).take n, eof := decide (fr + n = d.length) })
def writeE (t : Th) (r : Re) (c : Ca) : Ex (Th × Re) := do
  let k ← fileE t c.ai c.ag
  needE (decide (c.off ≤ 768) && decide (c.off + c.d.length ≤ 768)) 65
  if c.d.length = 0 then pure (t, tellS (atT t k) r)
  else
    let s := atT t k
    let b := sizedL s.d (max s.d.length (c.off.toNat + c.d.length))
    let t' ← touchE (setT t k { s with d := b.take c.off.toNat ++ c.d ++ b.drop (c.off.toNat + c.d.length) }) [k]
    pure (t', tellS (atT t' k) r)
def readlinkE (t : Th) (r : Re) (c : Ca) : Ex (Th × Re) := do
  let k ← thingE t c.ai c.ag
  needE ((atT t k).kind == 3) 64
  pure (t, tellS (atT t k) { r with d := (atT t k).d })
def readdirE (t : Th) (r : Re) (c : Ca) : Ex (Th × Re) := do
  let k ← folderE t c.ai c.ag
  needE (decide (0 < c.cnt)) 64
  needE (c.off == 0 || c.verf == (atT t k).gen) 70
  let p := afterM (entS (atT t k)) c.off (min c.cnt 24)
  pure (t, tellS (atT t k) { r with e := p.1, eof := p.2, verf := (atT t k).gen })
def fsstatE (t : Th) (r : Re) (c : Ca) : Ex (Th × Re) := do
  let k ← thingE t c.ai c.ag
  pure (t, { tellS (atT t k) r with free := (max (max t.room 0 - (usedT t.l : Int)) 0) % 4294967296 })
def commitE (t : Th) (r : Re) (c : Ca) : Ex (Th × Re) := do
  let k ← thingE t c.ai c.ag
  pure (t, { tellS (atT t k) r with verf := 1 })
def vacantE (t : Th) (c : Ca) : Ex Nat := do
  let d ← folderE t c.ai c.ag
  namedE c.name
  needE ((foundS (atT t d) c.name).isNone) 61
  pure d
def createE (t : Th) (r : Re) (c : Ca) : Ex (Th × Re) := do
  let d ← folderE t c.ai c.ag
  namedE c.name
  needE (decide (c.cnt ≤ 2)) 64
  let verf := if c.cnt = 1 then c.verf else 0
  match foundS (atT t d) c.name with
  | none => freshE t r c d 1 verf []
  | some e =>
    let k ← thingE t e.i e.g
    needE ((atT t k).kind == 1 && (c.cnt == 0 || (c.cnt == 1 && (verf != 0 && (atT t k).verf == verf)))) 61
    pure (t, tellS (atT t k) r)
def mkdirE (t : Th) (r : Re) (c : Ca) : Ex (Th × Re) := do
  let d ← vacantE t c
  freshE t r c d 2 0 []
def symlinkE (t : Th) (r : Re) (c : Ca) : Ex (Th × Re) := do
  let d ← vacantE t c
  needE (decide (1 ≤ c.d.length) && decide (c.d.length ≤ 768)) 64
  freshE t r c d 3 0 c.d
def outE (t : Th) (r : Re) (c : Ca) (d k : Nat) : Ex (Th × Re) := do
  let t1 ← leaveE t d c.name
  let t2 ← touchE (setT t1 k (unlinkS (atT t1 k))) [d, k]
  pure (t2, tellS (atT t2 d) r)
def innerE (t : Th) (c : Ca) : Ex (Nat × Nat) := do
  let d ← folderE t c.ai c.ag
  namedE c.name
  let k ← childE t d c.name
  pure (d, k)
def removeE (t : Th) (r : Re) (c : Ca) : Ex (Th × Re) := do
  let p ← innerE t c
  needE ((atT t p.2).kind != 2) 63
  outE t r c p.1 p.2
def rmdirE (t : Th) (r : Re) (c : Ca) : Ex (Th × Re) := do
  let p ← innerE t c
  needE ((atT t p.2).kind == 2) 62
  needE ((entS (atT t p.2)).length == 0) 68
  outE t r c p.1 p.2
def linkE (t : Th) (r : Re) (c : Ca) : Ex (Th × Re) := do
  let k ← thingE t c.ai c.ag
  needE ((atT t k).kind != 2) 63
  let d ← folderE t c.ti c.tg
  namedE c.toName
  needE ((foundS (atT t d) c.toName).isNone) 61
  let t1 ← enterE t d c.toName (atT t k).ino (atT t k).gen
  let t2 ← touchE (setT t1 k { atT t1 k with links := ((atT t1 k).links + 1) % 4294967296 }) [k, d]
  pure (t2, tellS (atT t2 k) r)
/-- A directory's entries that are directories: one step down, and any number of steps. -/
inductive Reach (t : Th) (k : Nat) : Nat → Prop
  | here : Reach t k k
  | step {a b : Nat} {e : Ent} : Reach t k a → (atT t a).kind = 2 → e ∈ entS (atT t a) → folderE t e.i e.g = .ok b → Reach t k b
noncomputable def belowB (t : Th) (k d : Nat) : Bool := @decide (Reach t k d) (Classical.propDecidable _)
noncomputable def renameE (t : Th) (r : Re) (c : Ca) : Ex (Th × Re) := do
  let fr ← folderE t c.ai c.ag
  let to' ← folderE t c.ti c.tg
  namedE c.name
  namedE c.toName
  let k ← childE t fr c.name
  match foundS (atT t to') c.toName with
  | some e =>
    let old ← thingE t e.i e.g
    if old = k then pure (t, tellS (atT t k) r)
    else
      if (atT t k).kind = 2 then
        needE ((atT t old).kind == 2) 62
        needE ((entS (atT t old)).length == 0) 68
      else needE ((atT t old).kind != 2) 63
      needE ((atT t k).kind != 2 || !belowB t k to') 64
      let t1 ← leaveE t to' c.toName
      let t2 ← leaveE (setT t1 old (unlinkS (atT t1 old))) fr c.name
      let t3 ← enterE t2 to' c.toName (atT t2 k).ino (atT t2 k).gen
      let t4 ← touchE t3 [fr, to', k, old]
      pure (t4, tellS (atT t4 k) r)
  | none =>
    needE ((atT t k).kind != 2 || !belowB t k to') 64
    let t2 ← leaveE t fr c.name
    let t3 ← enterE t2 to' c.toName (atT t2 k).ino (atT t2 k).gen
    let t4 ← touchE t3 [fr, to', k]
    pure (t4, tellS (atT t4 k) r)
noncomputable def opE (t : Th) (r : Re) (c : Ca) : Ex (Th × Re) :=
  if c.op = 1 then lookupE t r c else if c.op = 2 then getattrE t r c else if c.op = 3 then setattrE t r c else if c.op = 4 then readE t r c
  else if c.op = 5 then writeE t r c else if c.op = 6 then createE t r c else if c.op = 7 then mkdirE t r c else if c.op = 8 then symlinkE t r c
  else if c.op = 9 then readlinkE t r c else if c.op = 10 then removeE t r c else if c.op = 11 then rmdirE t r c else if c.op = 12 then renameE t r c
  else if c.op = 13 then linkE t r c else if c.op = 14 then readdirE t r c else if c.op = 15 then fsstatE t r c else commitE t r c
def toldR (c : Ca) : Re := { Re0 with client := c.client, xid := c.xid }
noncomputable def doT (t : Th) (c : Ca) : Th × Re :=
  if (decide (1 ≤ c.op) && decide (c.op ≤ 16) && mayT t.l) = true then
    match opE t (toldR c) c with
    | .ok p => p
    | .error e => (t, { toldR c with st := e })
  else (t, { toldR c with st := 64 })
/-! ### things' cells -/
theorem slC_one (s : Sl) (A : Option Addr) (c : Nat) : ∀ u ∈ slC s A c, u.oneCell' = true := by
  intro u hu
  simp only [slC, List.mem_cons, List.not_mem_nil, or_false] at hu
  rcases hu with rfl | rfl | rfl | rfl | rfl | rfl | rfl | rfl | rfl <;> rfl
end Go.Proofs.YtanemmcddgkpdaaGreat.Hm
end
