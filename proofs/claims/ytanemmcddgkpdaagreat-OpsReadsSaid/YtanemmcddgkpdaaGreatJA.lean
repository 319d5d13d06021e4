/- Part A of the lemmas and walks of the Go functions that these statements reach; conditions: those that each theorem names. -/
import Derived.Test.YtanemmcddgkpdaaGreatProg
import Derived.Below
import Derived.Deep.Draws
import Derived.Deep.AppendLies
import Derived.Maps.AppendAt
import Derived.OwnWalk
import Derived.Laws.BytesArg
import Derived.Laws.MakeOwn
import Derived.Laws.OwnMore
import Derived.Deep.OwnRows
import Derived.Tactics
import Derived.Lib.ConvBytes
import Derived.Laws.Slices
import Derived.WalkKit
import Derived.KernelRfl
import Derived.RowKit3
import Derived.Deep.LoopGhost
import Derived.Deep.QuietTactic
import Derived.BigQuiet
import Derived.WideLaws
import Derived.Deep.DeepCutAuto
import Derived.Deep.CutBlock
import Derived.Deep.RegionHeld3
import Derived.Laws.Rows
import Derived.Lib.AppendStr
import Derived.ArgAppend
import Derived.Laws.IdiomCopy
import Derived.OrdersHeld
import Derived.Laws.BitsLemmas
import Derived.RowKit
import Derived.Laws.BitsAllLaws
import Derived.Laws.CopyOwn
import Derived.Lib.SliceRun
import Derived.LoopTactic
import Derived.WalkLawsBesides
import Derived.WalkSpells
import Derived.Lib.SlBytesConst
import Derived.Test.YtanemmcddgkpdaaGreatJWWords
import Derived.Test.YtanemmcddgkpdaaGreatJWLast
import Derived.Test.YtanemmcddgkpdaaGreatJWQPut
import Derived.Test.YtanemmcddgkpdaaGreatJWApart
import Derived.Test.YtanemmcddgkpdaaGreatJWArr
import Derived.Test.YtanemmcddgkpdaaGreatJWZeros
import Derived.Test.YtanemmcddgkpdaaGreatJWFoot
import Derived.Test.YtanemmcddgkpdaaGreatJWKept
import Derived.Test.YtanemmcddgkpdaaGreatJWShare
import Derived.Test.YtanemmcddgkpdaaGreatJWN
import Derived.Test.YtanemmcddgkpdaaGreatJWFootNe
import Derived.Test.YtanemmcddgkpdaaGreatJWEqStruct
import Derived.Test.YtanemmcddgkpdaaGreatJWNEv
import Derived.Test.YtanemmcddgkpdaaGreatJWMore
import Derived.Deep.Slices
import Derived.Deep.Fields
import Derived.ChangeArms
import Derived.WideShapes
section
/- What the hand-made texts of this seat import: the program, the library's laws, the print's words. -/
namespace Go.Proofs.YtanemmcddgkpdaaGreat.Hm
open Go.RowKit Go.Proofs.YtanemmcddgkpdaaGreatW.PrintWords Go.Proofs.YtanemmcddgkpdaaGreatW.PrintLast Go.Proofs.YtanemmcddgkpdaaGreatW.PrintMore
set_option linter.unusedVariables false
set_option linter.unusedSimpArgs false
theorem infoB : (Tryz.prog.info? 5).map (fun i => (i.zero, i.size, i.bytes)) = some (some (.int .u8 0), 1, 1) := by kernel_rfl
set_option linter.unusedVariables false
set_option linter.unusedSimpArgs false
/-- A block of bytes, marked or not, reads as its numbers. -/
theorem C_of_block {W : World} {g : Nat} {C : Array Value} {e : TypeId} {fr : Nat × Nat} (xs : List Int) (h : W.heap[g]? = some (.cells C e fr)) (hC : C = (nums .u8 xs).toArray) (hl : xs.length ≤ 9223372036854775807) :
    Kd.C (Kd.int .u8) W (some ⟨g, 0, none⟩) xs.length xs := by
  refine Kd.C_of_reads (d := (0 : Int)) (h1 := fun _ => rfl) (show ReadsInt W .u8 (some ⟨g, 0, none⟩) xs.length xs from ⟨rfl, hl, fun _ => ⟨_, rfl, fun j hj => ?_⟩⟩)
  rw [add_plain, cell_of_row W g j C e fr h, hC]
  simp [nums, hj]
section
variable {ops : Array Oper} {rest : List Oper} {o : Oper} {a : Act} {Q : Exit → Act → World → Prop} {W : World}
set_option maxRecDepth 100000 in
/-- '[]byte(s)' of a string. -/
theorem V_conv_str (hgd : o.guard = none) {N' : Tmp} (_hd : o.dst = some N') (x : Operand) (ho : o.op = .convert 9 38 x) (s : ByteArray) (hx : a.eval x = .string s)
    (hl : s.size ≤ 9223372036854775807)
    (h : ∀ v1 w1, Kd.V (Kd.int .u8) 5 w1 W.heap.size (fun k => W.heap.size ≤ k) v1 (bytesOf s) → Below W.heap.size W w1 → wpList Tryz.prog ops Q rest (a.put o.dst v1) w1) : wpList Tryz.prog ops Q (o :: rest) a W := by
  have hr := print_bytes (P := Tryz.prog) 9 38 5 Tryz.underlying9 Tryz.underlying38 Tryz.underlying5 s W
  refine Kd.event_run hgd (v := .slice (some ⟨W.heap.size, 0, none⟩) s.size (grownCap W s.size 0 5)) (w1 := Lib.bytesWorld W 5 s) ?_ (h _ _ ?_ (bytes_below (Below.refl _ _) (Nat.le_refl _) _ _))
  · unfold execOp
    simp only [ho, hx, Sem.run_bind, hr]
    rfl
  · have hcap : s.size ≤ grownCap W s.size 0 5 := Nat.le_add_right s.size _
    refine ⟨_, _, by rw [bytesOf_length], by rw [bytesOf_length]; exact hcap, fun W' hk => ?_⟩
    have hb := hk W.heap.size (Nat.le_refl _) (by rw [Lib.bytesWorld_size]; omega)
    refine Kd.C_of_reads (d := (0 : Int)) (h1 := fun _ => rfl) (show ReadsInt W' .u8 (some ⟨W.heap.size, 0, none⟩) (bytesOf s).length (bytesOf s) from ⟨rfl, by rw [bytesOf_length]; exact hl, fun _ => ⟨_, rfl, fun j hj => ?_⟩⟩)
    rw [bytesOf_length] at hj
    have hr := bytes_reads W 5 s hl
    obtain ⟨ad, e1, e2⟩ := hr.2.2 (by omega)
    injection e1 with e1
    subst e1
    have h2 := e2 j hj
    have h3 : W'.cell? ((⟨W.heap.size, 0, none⟩ : Addr).add j) = (Lib.bytesWorld W 5 s).cell? ((⟨W.heap.size, 0, none⟩ : Addr).add j) := by
      rw [add_plain]
      simp only [World.cell?, hb]
    rw [h3, h2]
end
end Go.Proofs.YtanemmcddgkpdaaGreat.Hm
end
section
/- What a value that came in holds, kind by kind: an argument of any type of whole numbers, bools, strings, slices and structs is opened to a plain value; conditions: those that each theorem names. -/
namespace Go.Proofs.YtanemmcddgkpdaaGreat.Hm
open Go.RowKit Go.ChangeShapes Go.WideShapes Go.Deep Go.Proofs.YtanemmcddgkpdaaGreatW.PrintWords Go.Proofs.YtanemmcddgkpdaaGreatW.PrintLast Go.Proofs.YtanemmcddgkpdaaGreatW.PrintMore
set_option linter.unusedVariables false
set_option linter.unusedSimpArgs false
/-- Whatever is read at type t is a value of the kind d, of which ok holds. -/
def Opens (P : Program) (t : TypeId) {α : Type} (d : Kd α) (ok : α → Prop) : Prop :=
  ∀ (H : Type) (enc : TypeId × Value → H) (w : World) (base : Nat) (spare : Nat → Bool) (held : Bool) (fuel : Nat) (cs : List Value) (x : DataW H × List MemPlace),
    DataW.trod enc P w base spare held fuel t cs = some x → ∃ a, d.K w a cs ∧ ok a
theorem opens_int {P : Program} {t : TypeId} {k : IntKind} (ht : P.underlying t = some (.int k)) : Opens P t (Kd.int k) (fun n => (Lit.int k n).wf = true) := by
  intro H enc w base spare held fuel cs x h
  obtain ⟨n, rfl, _, hw⟩ := DataW.trod_int ht h
  exact ⟨n, rfl, hw⟩
theorem opens_bool {P : Program} {t : TypeId} (ht : P.underlying t = some .bool) : Opens P t Kd.bool (fun _ => True) := by
  intro H enc w base spare held fuel cs x h
  obtain ⟨b, rfl, _⟩ := DataW.trod_bool ht h
  exact ⟨b, rfl, trivial⟩
theorem exists_list {α : Type} {p : Nat → α → Prop} (n : Nat) (h : ∀ i, i < n → ∃ x, p i x) : ∃ l : List α, l.length = n ∧ ∀ i x, l[i]? = some x → p i x := by
  induction n with
  | zero => exact ⟨[], rfl, fun i x hx => by simp at hx⟩
  | succ n ih =>
    obtain ⟨l, hl, hp⟩ := ih (fun i hi => h i (by omega))
    obtain ⟨y, hy⟩ := h n (by omega)
    refine ⟨l ++ [y], by simp [hl], fun i x hx => ?_⟩
    rcases Nat.lt_or_ge i n with hi | hi
    · rw [List.getElem?_append_left (by omega)] at hx
      exact hp i x hx
    · have hi2 : i = n := by
        have := (List.getElem?_eq_some_iff.1 hx).1
        rw [List.length_append, hl, List.length_singleton] at this
        omega
      subst hi2
      rw [List.getElem?_append_right (by omega), hl, Nat.sub_self] at hx
      obtain rfl : y = x := by simpa using hx
      exact hy
theorem opens_slice {P : Program} {t e : TypeId} {α : Type} {d : Kd α} {ok : α → Prop} (e' : Nat) (ht : P.underlying t = some (.slice e)) (hc : P.cellsOf e = d.sz) (h : Opens P e d ok) :
    Opens P t (Kd.slice e' d) (fun l => l.length ≤ maxLen ∧ ∀ x ∈ l, ok x) := by
  intro H enc w base spare held fuel cs x hx
  rcases open_slice ht hx with ⟨rfl, _⟩ | ⟨a, len, cap, m, n, D, Pl, rfl, _, hl, hm, hmm, _, hi⟩
  · refine ⟨[], ⟨none, 0, rfl, Nat.le_refl _, ⟨rfl, by simp, fun h0 => by simp at h0⟩⟩, by simp, fun x hx => by simp at hx⟩
  · have hlm : len ≤ m := by rw [hmm]; split <;> omega
    obtain ⟨l, hll, hp⟩ := exists_list (p := fun i y => ok y ∧ ∃ cs', d.K w y cs' ∧ w.cells? base (a.add (i * P.cellsOf e)) (P.cellsOf e) = some cs') len (fun i hil => by
      obtain ⟨cs', hcs, htr⟩ := hi i (by omega)
      obtain ⟨y, hy, hoky⟩ := h H enc w base spare held n cs' _ htr
      exact ⟨y, hoky, cs', hy, hcs⟩)
    refine ⟨l, ⟨some a, cap, by rw [hll], by omega, ⟨rfl, by rw [hll]; simp only [maxLen] at hm; omega, fun _ => ⟨a, rfl, fun j p hj => ?_⟩⟩⟩, by rw [hll]; omega, fun x hx => ?_⟩
    · obtain ⟨_, cs', hK, hcs⟩ := hp j p hj
      refine ⟨cs', d.K_len hK, hK, fun i u hu => ?_⟩
      obtain ⟨_, hcl, hat⟩ := World.cells?_some hcs
      have hiu := (List.getElem?_eq_some_iff.1 hu).1
      have := hat i (by omega)
      rw [Go.Deep.add_add, hc] at this
      rw [this, hu]
    · obtain ⟨i, hil, rfl⟩ := List.mem_iff_getElem.1 hx
      exact (hp i _ (List.getElem?_eq_getElem hil)).1
/-- The cells of fields, one behind the other. -/
def Fields (P : Program) (H : Type) (enc : TypeId × Value → H) (w : World) (base : Nat) (spare : Nat → Bool) (held : Bool) (n : Nat) : List TypeId → List Value → Prop
  | [], cs => cs = []
  | t :: ts, cs => ∃ c1 c2, cs = c1 ++ c2 ∧ (∃ y, DataW.trod enc P w base spare held n t c1 = some y) ∧ Fields P H enc w base spare held n ts c2
def laidFrom (P : Program) (total : Nat) : Nat → List Field → Bool
  | o, [] => decide (o = total)
  | o, f :: l => decide (f.offset = o) && laidFrom P total (o + P.cellsOf f.type) l
def OpensF (P : Program) (ts : List TypeId) {α : Type} (d : Kd α) (ok : α → Prop) : Prop :=
  ∀ (H : Type) (enc : TypeId × Value → H) (w : World) (base : Nat) (spare : Nat → Bool) (held : Bool) (n : Nat) (cs : List Value),
    Fields P H enc w base spare held n ts cs → ∃ a, d.K w a cs ∧ ok a
theorem opensF_one {P : Program} {t : TypeId} {α : Type} {d : Kd α} {ok : α → Prop} (h : Opens P t d ok) : OpensF P [t] d ok := by
  rintro H enc w base spare held n cs ⟨c1, c2, rfl, ⟨y, hy⟩, rfl⟩
  rw [List.append_nil]
  exact h H enc w base spare held n c1 y hy
theorem opensF_cons {P : Program} {t : TypeId} {ts : List TypeId} {α β : Type} {d : Kd α} {d' : Kd β} {ok : α → Prop} {ok' : β → Prop} (h : Opens P t d ok) (h' : OpensF P ts d' ok') :
    OpensF P (t :: ts) (Kd.pair d d') (fun x => ok x.1 ∧ ok' x.2) := by
  rintro H enc w base spare held n cs ⟨c1, c2, rfl, ⟨y, hy⟩, hf⟩
  obtain ⟨a, ha, hoa⟩ := h H enc w base spare held n c1 y hy
  obtain ⟨b, hb, hob⟩ := h' H enc w base spare held n c2 hf
  exact ⟨(a, b), ⟨c1, c2, rfl, ha, hb⟩, hoa, hob⟩
theorem fields_from {P : Program} {H : Type} {enc : TypeId × Value → H} {w : World} {base : Nat} {spare : Nat → Bool} {held : Bool} {n total : Nat} {cs : List Value} (hcs : cs.length = total) (l : List Field) :
    ∀ o, laidFrom P total o l = true → (∀ f ∈ l, ∃ y, DataW.trod enc P w base spare held n f.type ((cs.drop f.offset).take (P.cellsOf f.type)) = some y) → Fields P H enc w base spare held n (l.map (·.type)) (cs.drop o) := by
  induction l with
  | nil =>
    intro o ho _
    have : o = total := by simpa [laidFrom] using ho
    show cs.drop o = []
    exact List.drop_eq_nil_of_le (by omega)
  | cons f l ih =>
    intro o ho hf
    simp only [laidFrom, Bool.and_eq_true, decide_eq_true_eq] at ho
    obtain ⟨y, hy⟩ := hf f (by simp)
    refine ⟨(cs.drop o).take (P.cellsOf f.type), cs.drop (o + P.cellsOf f.type), ?_, ⟨y, by rw [← ho.1]; exact hy⟩, ih _ ho.2 (fun g hg => hf g (by simp [hg]))⟩
    rw [← List.drop_drop, List.take_append_drop]
theorem opens_struct {P : Program} {t : TypeId} {fs : Array Field} {α β : Type} {d : Kd α} {ok : α → Prop} (f : β → α) (g : α → β) (hfg : ∀ a, f (g a) = a) (ht : P.underlying t = some (.struct fs))
    (hl : laidFrom P (P.cellsOf t) 0 fs.toList = true) (h : OpensF P (fs.toList.map (·.type)) d ok) : Opens P t (Kd.iso d f) (fun b => ok (f b)) := by
  intro H enc w base spare held fuel cs x hx
  obtain ⟨xs, n, _, _, hcs, hxl, hat⟩ := DataW.trod_struct ht hx
  have hF := fields_from (P := P) (enc := enc) (w := w) (base := base) (spare := spare) (held := held) (n := n) hcs fs.toList 0 hl (fun q hq => by
    obtain ⟨i, hi, rfl⟩ := List.mem_iff_getElem.1 hq
    have hi' : i < fs.size := by simpa using hi
    have := hat i fs[i] (Array.getElem?_eq_getElem hi')
    rw [List.getElem?_eq_getElem (by omega)] at this
    exact ⟨_, by simpa using this⟩)
  obtain ⟨a, ha, hoa⟩ := h H enc w base spare held n _ hF
  rw [List.drop_zero] at ha
  exact ⟨g a, by show d.K w (f (g a)) cs; rw [hfg]; exact ha, by show ok (f (g a)); rw [hfg]; exact hoa⟩
end Go.Proofs.YtanemmcddgkpdaaGreat.Hm
end
section
/- Bytes, strings and numbers as plain lists; slices.Clone of bytes; conditions: those that each theorem names. -/
namespace Go.Proofs.YtanemmcddgkpdaaGreat.Hm
open Go.RowKit Go.Proofs.YtanemmcddgkpdaaGreatW.PrintWords Go.Proofs.YtanemmcddgkpdaaGreatW.PrintLast Go.Proofs.YtanemmcddgkpdaaGreatW.PrintMore
set_option linter.unusedVariables false
set_option linter.unusedSimpArgs false
def bytesB (l : List Int) : Bool := l.all fun x => decide (0 ≤ x) && decide (x < 256)
theorem bytesB_iff (l : List Int) : bytesB l = true ↔ ∀ x ∈ l, 0 ≤ x ∧ x < 256 := by
  simp [bytesB]
def be32 (x : Int) : List Int := [x / 16777216 % 256, x / 65536 % 256, x / 256 % 256, x % 256]
theorem size_strOfNums (l : List Int) : (strOfNums l).size = l.length := by
  show ((l.map fun n => UInt8.ofNat n.toNat).toArray).size = _
  simp
theorem bytesOf_strOfNums (l : List Int) (h : bytesB l = true) : bytesOf (strOfNums l) = l := by
  have h' := (bytesB_iff l).1 h
  unfold bytesOf
  rw [strOfNums_data, List.map_map]
  conv => rhs; rw [← List.map_id l]
  apply List.map_congr_left
  intro x hx
  have := h' x hx
  simp only [Function.comp, id, UInt8.toNat_ofNat']
  omega
theorem bytesOf_range (s : ByteArray) : bytesB (bytesOf s) = true := by
  rw [bytesB_iff]
  intro x hx
  simp only [bytesOf, List.mem_map] at hx
  obtain ⟨b, _, rfl⟩ := hx
  have := b.toNat_lt
  omega
theorem bytesOf_inj (s t : ByteArray) (h : bytesOf s = bytesOf t) : s = t := by
  have h1 : s.data.toList = t.data.toList := by
    unfold bytesOf at h
    have hi : Function.Injective (fun b : UInt8 => (b.toNat : Int)) := fun a b hab => UInt8.toNat_inj.1 (Int.ofNat_inj.1 hab)
    exact List.map_inj_right (fun a b hab => hi hab) |>.1 h
  have h2 : s.data = t.data := by
    rw [← Array.toArray_toList (xs := s.data), ← Array.toArray_toList (xs := t.data), h1]
  cases s; cases t; simp_all
theorem toList_iff (s t : ByteArray) : s.toList = t.toList ↔ bytesOf s = bytesOf t := by
  rw [ByteArray.toList_eq, ByteArray.toList_eq]
  constructor
  · intro h; unfold bytesOf; rw [h]
  · intro h; rw [bytesOf_inj s t h]
theorem toList_strs (a b : List Int) (ha : bytesB a = true) (hb : bytesB b = true) : (strOfNums a).toList = (strOfNums b).toList ↔ a = b := by
  rw [toList_iff, bytesOf_strOfNums a ha, bytesOf_strOfNums b hb]
theorem strOfNums_bytesOf (s : ByteArray) : strOfNums (bytesOf s) = s := bytesOf_inj _ _ (bytesOf_strOfNums _ (bytesOf_range s))
theorem bytesB_append (a b : List Int) : bytesB (a ++ b) = (bytesB a && bytesB b) := by simp [bytesB]
theorem bytesB_drop (l : List Int) (k : Nat) (h : bytesB l = true) : bytesB (l.drop k) = true := (bytesB_iff _).2 fun x hx => (bytesB_iff l).1 h x (List.mem_of_mem_drop hx)
theorem bytesB_be32 (x : Int) (h0 : 0 ≤ x) (h1 : x < 4294967296) : bytesB (be32 x) = true := by
  rw [bytesB_iff]
  intro y hy
  simp only [be32, List.mem_cons, List.not_mem_nil, or_false] at hy
  omega
theorem bytesB_of_wf (l : List Int) (h : ∀ x ∈ l, (Lit.int .u8 x).wf = true) : bytesB l = true := by
  rw [bytesB_iff]
  intro x hx
  have := h x hx
  simp [Lit.wf] at this
  simp [IntKind.min, IntKind.max, IntKind.bits, IntKind.signed] at this
  omega
theorem u32_of_wf (x : Int) (h : (Lit.int .u32 x).wf = true) : 0 ≤ x ∧ x < 4294967296 := by
  simp [Lit.wf] at h
  simp [IntKind.min, IntKind.max, IntKind.bits, IntKind.signed] at h
  omega
theorem u16_of_wf (x : Int) (h : (Lit.int .u16 x).wf = true) : 0 ≤ x ∧ x < 65536 := by
  simp [Lit.wf] at h
  simp [IntKind.min, IntKind.max, IntKind.bits, IntKind.signed] at h
  omega
theorem u8_of_wf (x : Int) (h : (Lit.int .u8 x).wf = true) : 0 ≤ x ∧ x < 256 := by
  simp [Lit.wf] at h
  simp [IntKind.min, IntKind.max, IntKind.bits, IntKind.signed] at h
  omega
/-- slices.Clone of bytes. -/
def slices_Clone.f (l : List Int) : Option (List Int) := if l.length ≤ 140737488355327 then some l else none
set_option maxHeartbeats 1000000 in
theorem slices_Clone.calls (A0 : Option Addr) (c0 : Nat) (l0 : List Int) (r : List Int) (w : World) (hr0 : Kd.C (Kd.int .u8) w A0 l0.length l0) (hc0 : l0.length ≤ c0) (h : slices_Clone.f l0 = some r) :
    Calls Tryz.prog 74 #[.slice A0 l0.length c0] w fun e w' => ∃ v0_ : Value, e = .returned v0_ ∧ Kd.R (Kd.int .u8) 5 w' w.heap.size (fun _ => True) v0_ r ∧ Below w.heap.size w w' := by
  unfold slices_Clone.f at h
  by_cases hl : l0.length ≤ 140737488355327
  · rw [if_pos hl] at h
    obtain rfl := Option.some.inj h
    clear h
    have HR := Aside0.mk hr0
    clear hr0
    have hn := fun (w : World) => Lib.run_eql_slice_nil (P := Tryz.prog) w 38 5 A0 l0.length c0 0 0 Tryz.underlying38
    cases A0 with
    | none =>
      have e : l0.length = 0 := by
        rcases Nat.eq_zero_or_pos l0.length with h0 | h0
        · exact h0
        · obtain ⟨ad, h1, _⟩ := Kd.at_int HR.out 0 (by omega) (by omega)
          cases h1
      have e' : l0 = [] := List.eq_nil_of_length_eq_zero e
      subst e'
      clear hn
      have hn := fun (w : World) => Lib.run_eql_slice_nil (P := Tryz.prog) w 38 5 none 0 c0 0 0 Tryz.underlying38
      go_enter Tryz.func74, Tryz.ntmps74
      go_wp2
      go_ret
      exact ⟨_, rfl, Kd.R_nil _ _ _ _ _, Below.refl _ _⟩
    | some ad =>
      go_enter Tryz.func74, Tryz.ntmps74
      go_wp2_with (first | ((with_reducible refine gate_dst (N := 5) rfl ?_); refine Kd.R_lit (Kd.int .u8) (w0 := w) w.heap.size 5 ?hg (N := 5) ?hd (xs := []) (inner := []) (ok := fun _ => True) (okp := fun _ => True) ?hr (Reps.none _ _) (fun _ hk => hk) trivial (Below.refl _ _) (Nat.le_refl _) (by simp) ?_; (case hd => rfl); (case hg => rfl); (case hr => first | (go_simp; done) | (go_simp; rfl)); intro v5 w1 hro hb1 hg1 hat1; have HRO := Aside0.mk hro; have HB := Aside0.mk hb1; clear hro hb1 hg1 hat1) | (at_builtin; refine Kd.R_append_row (Value.int .u8) 0 (w0 := w) w.heap.size rfl (.tmp 5) (.tmp 6) 38 5 (.int .u8 0) 1 rfl Tryz.underlying38 infoB rfl (by decide) v5 [] l0 (some ad) l0.length c0 (fun _ => True) rfl rfl (fun _ _ => trivial) HRO.out (Kd.C_below HR.out HB.out) HB.out HB.out.size (by simp; omega) ?_; intro v7 w2 hro hb2 hg2 hat2; have HRO2 := Aside0.mk hro; have HB2 := Aside0.mk hb2; clear hro hb2 hg2 hat2))
      go_ret
      exact ⟨_, rfl, HRO2.out, HB2.out⟩
  · rw [if_neg hl] at h
    cases h
/-- Eight bytes of a number. -/
def be64 (x : Int) : List Int := be32 (x / 4294967296) ++ be32 (x % 4294967296)
def numN (x : Int) (l : List Int) : Int := l.foldl (fun x c => x * 256 + c) x
/-- The lowest k bytes of a number, the highest first. -/
def beR (x : Int) : Nat → List Int
  | 0 => []
  | k + 1 => (x / 2 ^ (8 * k) % 256) :: beR x k
theorem beR_4 (x : Int) : beR x 4 = be32 x := by simp [beR, be32]
theorem beR_8 (x : Int) (h0 : 0 ≤ x) (h1 : x < 18446744073709551616) : beR x 8 = be64 x := by
  simp only [beR, be64, be32, List.cons_append, List.nil_append, List.cons.injEq]
  refine ⟨?_, ?_, ?_, ?_, ?_, ?_, ?_, ?_, trivial⟩ <;> (simp only [Nat.reduceMul, Int.reducePow]; try omega)
theorem bytesB_take (l : List Int) (k : Nat) (h : bytesB l = true) : bytesB (l.take k) = true := (bytesB_iff _).2 fun x hx => (bytesB_iff l).1 h x (List.mem_of_mem_take hx)
theorem bytesB_zeros (n : Nat) : bytesB (List.replicate n 0) = true := by
  rw [bytesB_iff]
  intro x hx
  rw [List.mem_replicate] at hx
  omega
theorem bytesB_be64 (x : Int) (h0 : 0 ≤ x) (h1 : x < 18446744073709551616) : bytesB (be64 x) = true := by
  unfold be64
  rw [bytesB_append, bytesB_be32 _ (by omega) (by omega), bytesB_be32 _ (by omega) (by omega)]
  rfl
theorem rd_at (l : List Int) (k : Nat) (h : k < l.length) : rd l (k : Int) = l[k] := by simp [rd, h]
theorem rd_range (l : List Int) (h : bytesB l = true) (j : Nat) (hj : j < l.length) : 0 ≤ rd l (j : Int) ∧ rd l (j : Int) < 256 := by
  rw [rd_at l j hj]
  exact (bytesB_iff l).1 h _ (List.getElem_mem _)
theorem u64w (x : Int) (h0 : 0 ≤ x) (h1 : x < 18446744073709551616) : IntKind.u64.wrap x = x := by
  simp only [IntKind.wrap, IntKind.bits, IntKind.signed]
  simp
  omega
theorem p64 : (2 : Int) ^ 64 = 18446744073709551616 := rfl
theorem p8 : (2 : Int) ^ 8 = 256 := rfl
theorem u64_or8' (x y : Int) (hx0 : 0 ≤ x) (hx1 : x * 256 < 18446744073709551616) (hy0 : 0 ≤ y) (hy1 : y < 256) : Go.bits .or .u64 (x * 256) y = x * 256 + y :=
  bits_join .u64 64 (by decide) (fun n h0 h1 => u64w n h0 (by rw [p64] at h1; exact h1)) 8 (x * 256) y (by omega) (by rw [p8]; omega) (by rw [p64]; exact hx1) hy0 (by rw [p8]; exact hy1) (by rw [p64]; omega)
theorem p256 (i : Nat) (h : i ≤ 7) : (256 : Int) ^ i ≤ 72057594037927936 := by
  have h1 := Nat.pow_le_pow_right (n := 256) (by omega) h
  have h2 : (256 ^ 7 : Nat) = 72057594037927936 := rfl
  rw [h2] at h1
  have h3 := Int.ofNat_le.2 h1
  rw [Int.natCast_pow] at h3
  exact h3
theorem u32w (x : Int) (h0 : 0 ≤ x) (h1 : x < 4294967296) : IntKind.u32.wrap x = x := by
  simp only [IntKind.wrap, IntKind.bits, IntKind.signed]
  simp
  omega
theorem p32 : (2 : Int) ^ 32 = 4294967296 := rfl
theorem u32_or8' (x y : Int) (hx0 : 0 ≤ x) (hx1 : x * 256 < 4294967296) (hy0 : 0 ≤ y) (hy1 : y < 256) : Go.bits .or .u32 (x * 256) y = x * 256 + y :=
  bits_join .u32 32 (by decide) (fun n h0 h1 => u32w n h0 (by rw [p32] at h1; exact h1)) 8 (x * 256) y (by omega) (by rw [p8]; omega) (by rw [p32]; exact hx1) hy0 (by rw [p8]; exact hy1) (by rw [p32]; omega)
theorem p256s (i : Nat) (h : i ≤ 3) : (256 : Int) ^ i ≤ 16777216 := by
  have h1 := Nat.pow_le_pow_right (n := 256) (by omega) h
  have h2 : (256 ^ 3 : Nat) = 16777216 := rfl
  rw [h2] at h1
  have h3 := Int.ofNat_le.2 h1
  rw [Int.natCast_pow] at h3
  exact h3
/-- Bytes, with how many they are, filled up to four. -/
def opq (l : List Int) : List Int := be32 l.length ++ l ++ List.replicate ((4 - l.length % 4) % 4) 0
end Go.Proofs.YtanemmcddgkpdaaGreat.Hm
end
section
/- The Go type xdr.Writer: its functions append bytes to what was put; conditions: those that each theorem names. -/
namespace Go.Proofs.YtanemmcddgkpdaaGreat.Hm
open Go.RowKit Go.Proofs.YtanemmcddgkpdaaGreatW.PrintWords Go.Proofs.YtanemmcddgkpdaaGreatW.PrintLast Go.Proofs.YtanemmcddgkpdaaGreatW.PrintMore
set_option linter.unusedVariables false
set_option linter.unusedSimpArgs false
/-- Block p is a writer that has put the bytes xs; all that it writes lies from block B on, and, but for p, in blocks of S. -/
structure Wr (w : World) (B p : Nat) (S : Nat → Prop) (xs : List Int) : Prop where
  le : B ≤ p
  ex : ∃ v, w.heap[p]? = some (.cells #[v] 233 (0, 0)) ∧ Kd.R (Kd.int .u8) 5 w B S v xs
  by_ : bytesB xs = true
theorem Wr.lt {w : World} {B p : Nat} {S : Nat → Prop} {xs : List Int} (h : Wr w B p S xs) : p < w.heap.size := by
  obtain ⟨v, hb, _⟩ := h.ex
  exact blk_lt hb
theorem Wr.below {w w' : World} {B p : Nat} {S : Nat → Prop} {xs : List Int} (h : Wr w B p S xs) (hb : Below w.heap.size w w') : Wr w' B p S xs := by
  obtain ⟨v, h1, h2⟩ := h.ex
  exact ⟨h.le, ⟨v, blk_below h1 hb, Kd.R_below h2 hb⟩, h.by_⟩
theorem Wr.mono {w : World} {B p : Nat} {S S' : Nat → Prop} {xs : List Int} (h : Wr w B p S xs) (hs : ∀ k, S k → S' k) : Wr w B p S' xs := by
  obtain ⟨v, h1, h2⟩ := h.ex
  exact ⟨h.le, ⟨v, h1, Kd.R_mono h2 hs⟩, h.by_⟩
/-- What was made since is none of its rows. -/
theorem Wr.apart {w w' : World} {B p : Nat} {S : Nat → Prop} {xs : List Int} (h : Wr w B p S xs) (hb : Below w.heap.size w w') : Wr w' B p (fun k => k < w.heap.size ∨ w'.heap.size ≤ k) xs := by
  obtain ⟨v, h1, h2⟩ := h.ex
  exact ⟨h.le, ⟨v, blk_below h1 hb, Kd.R_below (Kd.R_mono (Kd.R_bound h2) (fun k hk => .inl hk.2.2.1)) hb⟩, h.by_⟩
theorem Wr.len {w : World} {B p : Nat} {S : Nat → Prop} {xs ys : List Int} (h : Wr w B p S xs) (e : xs = ys) : Wr w B p S ys := e ▸ h
theorem Wr.stored {w : World} {B p n c : Nat} {S : Nat → Prop} {xs : List Int} {A : Option Addr} {v : Value} (hbk : w.heap[p]? = some (.cells #[v] 233 (0, 0))) (hr : Kd.R (Kd.int .u8) 5 w B S (.slice A xs.length c) xs) (hle : B ≤ p) (hb : bytesB xs = true) (hn : n = xs.length) :
    Wr (w.setCell ⟨p, 0, none⟩ (.slice A n c)) B p S xs := by
  subst hn
  exact ⟨hle, ⟨_, blk_set hbk 0 _, Kd.R_set hr hbk (by simp [Kd.int, Kd.scalar]) 0 _⟩, hb⟩
theorem below_out {B p : Nat} {w W : World} (h : Below B w W) (hp : B ≤ p) (j : Nat) (v : Value) : Below B w (W.setCell ⟨p, j, none⟩ v) := h.setCell hp v
theorem Kept.refl' (w : World) (S : Nat → Prop) : Kept w w S := ⟨Nat.le_refl _, fun _ _ _ => rfl⟩
theorem Kept.trans' {w w1 w2 : World} {S : Nat → Prop} (h : Kept w w1 S) (k : Kept w1 w2 S) : Kept w w2 S :=
  ⟨Nat.le_trans h.1 k.1, fun i hi hs => (k.2 i (Nat.lt_of_lt_of_le hi h.1) hs).trans (h.2 i hi hs)⟩
theorem Kept.grown' {w w1 w2 : World} {S : Nat → Prop} {v : Value} (h : Kept w w1 S) (hg : w1.grownBy w2 v.ownBlock) (hv : ∀ k, v.ownBlock = some k → S k) : Kept w w2 S :=
  ⟨Nat.le_trans h.1 hg.size, fun i hi hs => (hg.block i (Nat.lt_of_lt_of_le hi h.1) (fun e => hs (hv i e.symm))).trans (h.2 i hi hs)⟩
theorem Kept.put' {w w1 : World} {S : Nat → Prop} {p : Nat} (h : Kept w w1 S) (hp : S p) (j : Nat) (u : Value) : Kept w (w1.setCell ⟨p, j, none⟩ u) S :=
  ⟨by simpa [World.setCell] using h.1, fun i hi hs => (Below.heap_setCell w1 ⟨p, j, none⟩ u i (fun e => hs (e ▸ hp))).trans (h.2 i hi hs)⟩
theorem Kept.below' {w w1 w2 : World} {S : Nat → Prop} (h : Kept w w1 S) (hb : Below w1.heap.size w1 w2) : Kept w w2 S :=
  ⟨Nat.le_trans h.1 hb.size, fun i hi hs => (hb.block i (Nat.lt_of_lt_of_le hi h.1)).trans (h.2 i hi hs)⟩
set_option maxHeartbeats 1000000 in
theorem NewWriter_any (w : World) : Calls Tryz.prog 163 #[] w fun e w' => e = .returned (.pointer (some ⟨w.heap.size, 0, none⟩)) ∧ Wr w' w.heap.size w.heap.size (fun _ => True) [] ∧ Below w.heap.size w w' := by
  go_enter Tryz.func163, Tryz.ntmps163
  go_wp2
  go_ret
  exact ⟨rfl, ⟨Nat.le_refl _, ⟨_, blk_new _ _, Kd.R_nil _ _ _ _ _⟩, rfl⟩, below_alloc (Below.refl _ _) _⟩
set_option maxHeartbeats 2000000 in
set_option maxRecDepth 100000 in
theorem put32_any (B p : Nat) (S : Nat → Prop) (xs : List Int) (x : Int) (w : World) (hw : Wr w B p S xs) (hS : ∀ k, w.heap.size ≤ k → S k) (h0 : 0 ≤ x) (h1 : x < 4294967296) (hl : xs.length ≤ 140737488355000) :
    Calls Tryz.prog 172 #[.pointer (some ⟨p, 0, none⟩), .int .u32 x, .int .i64 4] w fun e w' => e = .returned (.tuple #[]) ∧ Wr w' B p S (xs ++ be32 x) ∧ Kept w w' (fun k => S k ∨ k = p) ∧ Below B w w' := by
  have HW := Aside0.mk hw
  have HS := Aside0.mk hS
  clear hw hS
  go_enter Tryz.func172, Tryz.ntmps172
  go_wp2
  go_loopg [2] 4 (fun kq v2 w' => ∃ ys : List Int, v2 = .int .i64 kq ∧ kq ≤ 4 ∧ Aside0 (Wr w' B p S (xs ++ ys)) ∧ Aside0 (ys ++ beR x kq = beR x 4) ∧ Aside0 (Kept w w' (fun k => S k ∨ k = p)) ∧ Aside0 (Below B w w'))
  case atStart => exact ⟨[], rfl, by omega, ⟨by rw [List.append_nil]; exact HW.out⟩, ⟨rfl⟩, ⟨Kept.refl' _ _⟩, ⟨Below.refl _ _⟩⟩
  case round =>
    obtain ⟨ys, rfl, hk4, HWi, HYi, HKi, HBi⟩ := hrel
    by_cases hk : gk = 0
    · subst hk
      have hy : ys = be32 x := by have h := HYi.out; rw [beR, List.append_nil, beR_4] at h; exact h
      have HY := Aside0.mk hy
      clear hy
      go_wp2
      go_end0
      exact ⟨rfl, by rw [← HY.out]; exact HWi.out, HKi.out, HBi.out⟩
    · obtain ⟨k, rfl⟩ : ∃ k, gk = k + 1 := ⟨gk - 1, by omega⟩
      have hd : decide ((0 : Int) < ((k + 1 : Nat) : Int)) = true := decide_eq_true (by omega)
      clear hk
      obtain ⟨v, hbk, hro⟩ := HWi.out.ex
      have HRO := Aside0.mk hro
      have HBK := Aside0.mk hbk
      have HNE := Aside0.mk (Kd.R_ne hro hbk (by decide))
      have hcl := blk_cell hbk 0
      have hfz := blk_frozen hbk 0
      have hal := blk_cell (blk_alloc hbk (.cells #[.int .u8 (x / 2 ^ (8 * k) % 256)] 5)) 0
      have hyl : ys.length ≤ 4 := by have h := congrArg List.length HYi.out; rw [List.length_append] at h; simp [beR] at h; omega
      clear hbk hro
      have hm8 : IntKind.i64.wrap (8 * (k : Int)) = 8 * (k : Int) := IntWalk.i64_in _ (by omega)
      have hp8 : 0 ≤ 8 * (k : Int) := by omega
      have hu8 : 8 * (k : Int) ≤ 32 := by omega
      have ht8 : (8 * (k : Int)).toNat = 8 * k := by omega
      have hq0 : 0 ≤ x / 2 ^ (8 * k) := Int.ediv_nonneg h0 (Int.le_of_lt (Int.pow_pos (by decide)))
      have hq1 : x / 2 ^ (8 * k) < 4294967296 := Int.lt_of_le_of_lt (Int.ediv_le_self _ h0) h1
      have hw8 : IntKind.u8.wrap (x / 2 ^ (8 * k)) = x / 2 ^ (8 * k) % 256 := by simp only [IntKind.wrap, IntKind.signed, IntKind.bits]; simp
      go_wp2
      go_region_law ((refine Kd.R_append_step (Kd.int .u8) (w0 := w) B (by rfl) _ _ 38 5 (.int .u8 0) 1 (by rfl) Tryz.underlying38 infoB rfl (by decide) (by decide) v (xs ++ ys) (x / 2 ^ (8 * k) % 256) [.int .u8 (x / 2 ^ (8 * k) % 256)] S (fun _ => False) (by rfl) (by rfl) rfl (fun _ hk => hk.elim) (fun k hk => HS.out k (Nat.le_trans HKi.out.1 (by simpa using hk))) (Kd.R_below HRO.out (below_drew1 (Below.refl _ _))) (below_drew1 HBi.out) (by have := HWi.out.le; have := HWi.out.lt; simp; omega) (by simp; omega) ?_; intro v1 w1 hr1 hb1 hg1 hat1; obtain ⟨A1, c1, e1⟩ := Kd.R_slice hr1; subst e1; have HR1 := Aside0.mk hr1; have HB1 := Aside0.mk hb1; have HK1 := Aside0.mk (Kept.grown' (v := v) (Kept.below' HKi.out (below_drew1 (Below.refl _ _))) hg1 (fun k hk => Or.inl (HRO.out.1 k hk))); have HBK1 := Aside0.mk (blk_grown (blk_drew HBK.out) hg1 HNE.out); have hcl1 := blk_cell HBK1.out 0; have hfz1 := blk_frozen HBK1.out 0; clear hr1 hb1 hg1 hat1))
      all_goals
        go_wp2
        go_roundg k
        case measure => omega
        case rel =>
          refine ⟨ys ++ [x / 2 ^ (8 * k) % 256], rfl, by omega, ⟨?_⟩, ⟨?_⟩, ⟨Kept.put' HK1.out (Or.inr rfl) _ _⟩, ⟨below_out HB1.out HWi.out.le _ _⟩⟩
          · rw [← List.append_assoc]
            exact Wr.stored HBK1.out HR1.out HWi.out.le (by rw [bytesB_append, HWi.out.by_]; simp [bytesB]; omega) (by simp)
          · rw [List.append_assoc]; exact HYi.out
set_option maxHeartbeats 2000000 in
set_option maxRecDepth 100000 in
theorem put64_any (B p : Nat) (S : Nat → Prop) (xs : List Int) (x : Int) (w : World) (hw : Wr w B p S xs) (hS : ∀ k, w.heap.size ≤ k → S k) (h0 : 0 ≤ x) (h1 : x < 18446744073709551616) (hl : xs.length ≤ 140737488355000) :
    Calls Tryz.prog 171 #[.pointer (some ⟨p, 0, none⟩), .int .u64 x, .int .i64 8] w fun e w' => e = .returned (.tuple #[]) ∧ Wr w' B p S (xs ++ be64 x) ∧ Kept w w' (fun k => S k ∨ k = p) ∧ Below B w w' := by
  have HW := Aside0.mk hw
  have HS := Aside0.mk hS
  clear hw hS
  go_enter Tryz.func171, Tryz.ntmps171
  go_wp2
  go_loopg [2] 8 (fun kq v2 w' => ∃ ys : List Int, v2 = .int .i64 kq ∧ kq ≤ 8 ∧ Aside0 (Wr w' B p S (xs ++ ys)) ∧ Aside0 (ys ++ beR x kq = beR x 8) ∧ Aside0 (Kept w w' (fun k => S k ∨ k = p)) ∧ Aside0 (Below B w w'))
  case atStart => exact ⟨[], rfl, by omega, ⟨by rw [List.append_nil]; exact HW.out⟩, ⟨rfl⟩, ⟨Kept.refl' _ _⟩, ⟨Below.refl _ _⟩⟩
  case round =>
    obtain ⟨ys, rfl, hk4, HWi, HYi, HKi, HBi⟩ := hrel
    by_cases hk : gk = 0
    · subst hk
      have hy : ys = be64 x := by have h := HYi.out; rw [beR, List.append_nil, beR_8 x h0 h1] at h; exact h
      have HY := Aside0.mk hy
      clear hy
      go_wp2
      go_end0
      exact ⟨rfl, by rw [← HY.out]; exact HWi.out, HKi.out, HBi.out⟩
    · obtain ⟨k, rfl⟩ : ∃ k, gk = k + 1 := ⟨gk - 1, by omega⟩
      have hd : decide ((0 : Int) < ((k + 1 : Nat) : Int)) = true := decide_eq_true (by omega)
      clear hk
      obtain ⟨v, hbk, hro⟩ := HWi.out.ex
      have HRO := Aside0.mk hro
      have HBK := Aside0.mk hbk
      have HNE := Aside0.mk (Kd.R_ne hro hbk (by decide))
      have hcl := blk_cell hbk 0
      have hfz := blk_frozen hbk 0
      have hal := blk_cell (blk_alloc hbk (.cells #[.int .u8 (x / 2 ^ (8 * k) % 256)] 5)) 0
      have hyl : ys.length ≤ 8 := by have h := congrArg List.length HYi.out; rw [List.length_append] at h; simp [beR] at h; omega
      clear hbk hro
      have hm8 : IntKind.i64.wrap (8 * (k : Int)) = 8 * (k : Int) := IntWalk.i64_in _ (by omega)
      have hp8 : 0 ≤ 8 * (k : Int) := by omega
      have hu8 : 8 * (k : Int) ≤ 64 := by omega
      have ht8 : (8 * (k : Int)).toNat = 8 * k := by omega
      have hq0 : 0 ≤ x / 2 ^ (8 * k) := Int.ediv_nonneg h0 (Int.le_of_lt (Int.pow_pos (by decide)))
      have hq1 : x / 2 ^ (8 * k) < 18446744073709551616 := Int.lt_of_le_of_lt (Int.ediv_le_self _ h0) h1
      have hw8 : IntKind.u8.wrap (x / 2 ^ (8 * k)) = x / 2 ^ (8 * k) % 256 := by simp only [IntKind.wrap, IntKind.signed, IntKind.bits]; simp
      go_wp2
      go_region_law ((refine Kd.R_append_step (Kd.int .u8) (w0 := w) B (by rfl) _ _ 38 5 (.int .u8 0) 1 (by rfl) Tryz.underlying38 infoB rfl (by decide) (by decide) v (xs ++ ys) (x / 2 ^ (8 * k) % 256) [.int .u8 (x / 2 ^ (8 * k) % 256)] S (fun _ => False) (by rfl) (by rfl) rfl (fun _ hk => hk.elim) (fun k hk => HS.out k (Nat.le_trans HKi.out.1 (by simpa using hk))) (Kd.R_below HRO.out (below_drew1 (Below.refl _ _))) (below_drew1 HBi.out) (by have := HWi.out.le; have := HWi.out.lt; simp; omega) (by simp; omega) ?_; intro v1 w1 hr1 hb1 hg1 hat1; obtain ⟨A1, c1, e1⟩ := Kd.R_slice hr1; subst e1; have HR1 := Aside0.mk hr1; have HB1 := Aside0.mk hb1; have HK1 := Aside0.mk (Kept.grown' (v := v) (Kept.below' HKi.out (below_drew1 (Below.refl _ _))) hg1 (fun k hk => Or.inl (HRO.out.1 k hk))); have HBK1 := Aside0.mk (blk_grown (blk_drew HBK.out) hg1 HNE.out); have hcl1 := blk_cell HBK1.out 0; have hfz1 := blk_frozen HBK1.out 0; clear hr1 hb1 hg1 hat1))
      all_goals
        go_wp2
        go_roundg k
        case measure => omega
        case rel =>
          refine ⟨ys ++ [x / 2 ^ (8 * k) % 256], rfl, by omega, ⟨?_⟩, ⟨?_⟩, ⟨Kept.put' HK1.out (Or.inr rfl) _ _⟩, ⟨below_out HB1.out HWi.out.le _ _⟩⟩
          · rw [← List.append_assoc]
            exact Wr.stored HBK1.out HR1.out HWi.out.le (by rw [bytesB_append, HWi.out.by_]; simp [bytesB]; omega) (by simp)
          · rw [List.append_assoc]; exact HYi.out
theorem fill_any (n : Nat) (w : World) (h : n ≤ 140737488355328) : Calls Tryz.prog 142 #[.int .i64 (n : Int)] w fun e w' => e = .returned (.int .i64 (((4 - n % 4) % 4 : Nat) : Int)) ∧ w' = w := by
  have h1 : (n : Int) % 4 < 4 := Int.emod_lt_of_pos _ (by decide)
  have h2 : 0 ≤ (n : Int) % 4 := Int.emod_nonneg _ (by decide)
  go_enter Tryz.func142, Tryz.ntmps142
  go_wp2
  go_ret
  refine ⟨?_, rfl⟩
  refine congrArg (fun z => Ending.returned (.int .i64 z)) ?_
  omega
theorem U32_any (B p : Nat) (S : Nat → Prop) (xs : List Int) (x : Int) (w : World) (hw : Wr w B p S xs) (hS : ∀ k, w.heap.size ≤ k → S k) (h0 : 0 ≤ x) (h1 : x < 4294967296) (hl : xs.length ≤ 140737488355000) :
    Calls Tryz.prog 165 #[.pointer (some ⟨p, 0, none⟩), .int .u32 x] w fun e w' => e = .returned (.tuple #[]) ∧ Wr w' B p S (xs ++ be32 x) ∧ Kept w w' (fun k => S k ∨ k = p) ∧ Below B w w' := by
  go_enter Tryz.func165, Tryz.ntmps165
  go_wp2_with fail
  (with_reducible refine (put32_any B p S xs x w hw hS h0 h1 hl).mono ?_)
  rintro e w1 ⟨rfl, hw1, hk1, hb1⟩
  go_wp2
  go_end0
  exact ⟨rfl, hw1, hk1, hb1⟩
theorem U64_any (B p : Nat) (S : Nat → Prop) (xs : List Int) (x : Int) (w : World) (hw : Wr w B p S xs) (hS : ∀ k, w.heap.size ≤ k → S k) (h0 : 0 ≤ x) (h1 : x < 18446744073709551616) (hl : xs.length ≤ 140737488355000) :
    Calls Tryz.prog 164 #[.pointer (some ⟨p, 0, none⟩), .int .u64 x] w fun e w' => e = .returned (.tuple #[]) ∧ Wr w' B p S (xs ++ be64 x) ∧ Kept w w' (fun k => S k ∨ k = p) ∧ Below B w w' := by
  go_enter Tryz.func164, Tryz.ntmps164
  go_wp2_with fail
  (with_reducible refine (put64_any B p S xs x w hw hS h0 h1 hl).mono ?_)
  rintro e w1 ⟨rfl, hw1, hk1, hb1⟩
  go_wp2
  go_end0
  exact ⟨rfl, hw1, hk1, hb1⟩
theorem Out_any (B p : Nat) (S : Nat → Prop) (xs : List Int) (w : World) (hw : Wr w B p S xs) (hl : xs.length ≤ 140737488355000) :
    Calls Tryz.prog 167 #[.pointer (some ⟨p, 0, none⟩)] w fun e w' => ∃ v0_ : Value, e = .returned v0_ ∧ Kd.R (Kd.int .u8) 5 w' w.heap.size (fun _ => True) v0_ xs ∧ Below w.heap.size w w' := by
  obtain ⟨v, hbk, hro⟩ := hw.ex
  obtain ⟨A, c, e1, hc, hr⟩ := Kd.R_reads hro
  subst e1
  have HC := Aside0.mk hr
  have hcl := blk_cell hbk 0
  clear hro hr hw hbk
  go_enter Tryz.func167, Tryz.ntmps167
  go_wp2_with fail
  (with_reducible refine (slices_Clone.calls A c xs xs w HC.out hc (by unfold slices_Clone.f; rw [if_pos (by omega)])).mono ?_)
  rintro e w1 ⟨v0, rfl, h1, h2⟩
  go_wp2
  go_ret
  exact ⟨_, rfl, h1, h2⟩
set_option maxHeartbeats 2000000 in
set_option maxRecDepth 100000 in
theorem Opaque_any (B p : Nat) (S T : Nat → Prop) (xs : List Int) (A : Option Addr) (c : Nat) (l : List Int) (w : World) (hw : Wr w B p S xs) (hS : ∀ k, w.heap.size ≤ k → S k)
    (hF : Kd.F (Kd.int .u8) w T A l.length l) (hc : l.length ≤ c) (hT : ∀ k, T k → k < w.heap.size → ¬ (S k ∨ k = p)) (hb : bytesB l = true) (hl : xs.length ≤ 140737488000000) (hll : l.length ≤ 300000) :
    Calls Tryz.prog 166 #[.pointer (some ⟨p, 0, none⟩), .slice A l.length c] w fun e w' => e = .returned (.tuple #[]) ∧ Wr w' B p S (xs ++ opq l) ∧ Kept w w' (fun k => S k ∨ k = p) ∧ Below B w w' := by
  have HW := Aside0.mk hw
  have HS := Aside0.mk hS
  have HF := Aside0.mk hF
  have HT := Aside0.mk hT
  have HB := Aside0.mk hb
  clear hw hS hF hT hb
  go_enter Tryz.func166, Tryz.ntmps166
  go_wp2_with fail
  (with_reducible refine (U32_any B p S xs (l.length : Int) w HW.out HS.out (by omega) (by omega) (by omega)).mono ?_)
  rintro e w1 ⟨rfl, hw1, hk1, hb1⟩
  obtain ⟨v, hbk, hro⟩ := hw1.ex
  have HNE := Aside0.mk (Kd.R_ne hro hbk (by decide))
  have HRO := Aside0.mk hro
  have HBK := Aside0.mk hbk
  have HBY := Aside0.mk hw1.by_
  have HK1 := Aside0.mk hk1
  have HB1 := Aside0.mk hb1
  have HC := Aside0.mk (Kd.F_now (Kd.F_kept (Kd.F_bound HF.out) hk1 (fun k hk => HT.out k hk.1 hk.2)))
  have hcl := blk_cell hbk 0
  have hle := HW.out.le
  have hlt := HW.out.lt
  have hz1 := hk1.1
  have hbl : (be32 (l.length : Int)).length = 4 := rfl
  have HL := Aside0.mk hbl
  clear hw1 hk1 hb1 hbk hro hbl
  obtain ⟨zs, hzs⟩ : ∃ zs, xs ++ be32 (l.length : Int) = zs := ⟨_, rfl⟩
  have hzl : zs.length ≤ xs.length + 4 := by rw [← hzs, List.length_append, HL.out]; exact Nat.le_refl _
  rw [hzs] at HRO HBY
  have HZ := Aside0.mk hzs
  clear hzs
  go_wp2_with (first | (go_at_call 142; (with_reducible refine (fill_any l.length _ (by omega)).mono ?_); rintro e w' ⟨rfl, rfl⟩) | (at_builtin; refine Kd.R_append_row (Value.int .u8) 0 (w0 := w) B rfl (.tmp 15) (.tmp 16) 38 5 (.int .u8 0) 1 rfl Tryz.underlying38 infoB rfl (by decide) v zs l A l.length c S rfl rfl (fun k hk => HS.out k (by omega)) HRO.out HC.out HB1.out (by omega) (by omega) ?_; intro v17 w2 hro2 hb2 hg2 hat2; have HRO2 := Aside0.mk hro2; have HB2 := Aside0.mk hb2; have HBK2 := Aside0.mk (blk_grown HBK.out hg2 HNE.out); have HNE2 := Aside0.mk (Kd.R_ne hro2 HBK2.out (by decide)); have HK2 := Aside0.mk (Kept.grown' (v := v) HK1.out hg2 (fun k hk => Or.inl (HRO.out.1 k hk))); have hz2 := hg2.size; clear hro2 hb2 hg2 hat2 hcl) | (at_builtin; refine Kd.R_append_zeros (Kd.int .u8) (w0 := w) B rfl (.tmp 17) (.tmp 20) 38 3 5 (.int .u8 0) 1 rfl Tryz.underlying38 Tryz.underlying3 infoB rfl (by decide) (by decide) v17 (zs ++ l) 0 (((4 - l.length % 4) % 4 : Nat) : Int) S rfl rfl rfl (fun k hk => HS.out k (by omega)) HRO2.out (by omega) HB2.out (by omega) (by simp; omega) ?_; intro v21 w3 hro3 hb3 hg3 hat3; have HRO3 := Aside0.mk hro3; have HB3 := Aside0.mk hb3; have HBK3 := Aside0.mk (blk_grown HBK2.out hg3 HNE2.out); have HK3 := Aside0.mk (Kept.grown' (v := v17) HK2.out hg3 (fun k hk => Or.inl (HRO2.out.1 k hk))); obtain ⟨A3, c3, e3⟩ := Kd.R_slice hro3; subst e3; have hcl3 := blk_cell HBK3.out 0; have hfz3 := blk_frozen HBK3.out 0; clear hro3 hb3 hg3 hat3))
  go_end0
  refine ⟨rfl, Wr.len (Wr.stored HBK3.out HRO3.out hle (by rw [bytesB_append, bytesB_append, HBY.out, HB.out, bytesB_zeros]; rfl) (by simp; omega)) ?_, Kept.put' HK3.out (Or.inr rfl) _ _, below_out HB3.out hle _ _⟩
  rw [← HZ.out, opq, Int.toNat_natCast]
  simp only [List.append_assoc]
end Go.Proofs.YtanemmcddgkpdaaGreat.Hm
end
section
/- The Go type xdr.Reader: what its functions read of the bytes that are left, and the first error; conditions: those that each theorem names. -/
namespace Go.Proofs.YtanemmcddgkpdaaGreat.Hm
open Go.RowKit Go.Proofs.YtanemmcddgkpdaaGreatW.PrintWords Go.Proofs.YtanemmcddgkpdaaGreatW.PrintLast Go.Proofs.YtanemmcddgkpdaaGreatW.PrintMore
set_option linter.unusedVariables false
set_option linter.unusedSimpArgs false
theorem infoI : ∃ i, Tryz.prog.info? 5 = some i ∧ i.size = 1 := by
  obtain ⟨i0, hi, hzz⟩ := Option.map_eq_some_iff.1 infoB
  simp only [Prod.mk.injEq] at hzz
  exact ⟨i0, hi, hzz.2.1⟩
/-- Block p is a reader: the bytes xs are left, and e is the first error. -/
structure Rd (w : World) (B p L : Nat) (xs : List Int) (e : Int) : Prop where
  le : B ≤ p
  ex : ∃ A c, w.heap[p]? = some (.cells #[.slice A xs.length c, .int .i64 e] 196 (0, 0)) ∧ xs.length ≤ c ∧ Kd.F (Kd.int .u8) w (fun k => k ≠ p ∧ k < L) A xs.length xs
  by_ : bytesB xs = true
  mx : xs.length ≤ 140737488355328
theorem Rd.lt {w : World} {B p L : Nat} {xs : List Int} {e : Int} (h : Rd w B p L xs e) : p < w.heap.size := by
  obtain ⟨A, c, hb, _⟩ := h.ex
  exact blk_lt hb
theorem Rd.below {w w' : World} {B p L : Nat} {xs : List Int} {e : Int} (h : Rd w B p L xs e) (hb : Below w.heap.size w w') : Rd w' B p L xs e := by
  obtain ⟨A, c, h1, h2, h3⟩ := h.ex
  exact ⟨h.le, ⟨A, c, blk_below h1 hb, h2, Kd.F_below h3 hb⟩, h.by_, h.mx⟩
set_option maxHeartbeats 1000000 in
theorem NewReader_any (A : Option Addr) (c : Nat) (l : List Int) (w : World) (hr : Kd.C (Kd.int .u8) w A l.length l) (hc : l.length ≤ c) (hb : bytesB l = true) (hl : l.length ≤ 140737488355000) :
    Calls Tryz.prog 113 #[.slice A l.length c] w fun e w' => ∃ p, e = .returned (.pointer (some ⟨p, 0, none⟩)) ∧ Rd w' w.heap.size p w'.heap.size l 0 ∧ Below w.heap.size w w' := by
  have HR := Aside0.mk hr
  have HB := Aside0.mk hb
  clear hr hb
  go_enter Tryz.func113, Tryz.ntmps113
  go_wp2_with fail
  (with_reducible refine (slices_Clone.calls A c l l w HR.out hc (by unfold slices_Clone.f; rw [if_pos (by omega)])).mono ?_)
  rintro e w1 ⟨v0, rfl, hro, hb1⟩
  obtain ⟨A1, c1, e1, hc1, hr1⟩ := Kd.R_reads hro
  subst e1
  have HRO := Aside0.mk hro
  have HB1 := Aside0.mk hb1
  clear hro hr1 hb1
  go_wp2
  go_ret
  exact ⟨_, rfl, ⟨HB1.out.size, ⟨A1, c1, blk_new _ _, hc1, Kd.F_alloc (Kd.F_mono (Kd.F_bound (Kd.R_F HRO.out)) (fun k hk => by have := hk.2; rw [World.size_alloc]; omega)) _⟩, HB.out, by omega⟩, below_alloc HB1.out _⟩
theorem Rd.stored {w : World} {B p L : Nat} {xs ys : List Int} {e e' : Int} {A A' : Option Addr} {c c' : Nat} {u : Value} {j : Nat} (hbk : w.heap[p]? = some (.cells #[.slice A xs.length c, .int .i64 e] 196 (0, 0))) (hle : B ≤ p) (hb : bytesB ys = true) (hm : ys.length ≤ 140737488355328)
    (hc : ys.length ≤ c') (hF : Kd.F (Kd.int .u8) w (fun k => k ≠ p ∧ k < L) A' ys.length ys) (hj : (#[.slice A xs.length c, .int .i64 e] : Array Value).setIfInBounds j u = #[.slice A' ys.length c', .int .i64 e']) : Rd (w.setCell ⟨p, j, none⟩ u) B p L ys e' :=
  ⟨hle, ⟨A', c', blk_put hbk j u hj, hc, Kd.F_far hF (fun k hk => hk.1) u⟩, hb, hm⟩
def failM (e n : Int) : Int := if e = 0 then n else e
theorem failM_0 (n : Int) : failM 0 n = n := rfl
theorem failM_e {e : Int} (n : Int) (h : ¬ e = 0) : failM e n = e := if_neg h
set_option maxHeartbeats 1000000 in
theorem fail_any (B p L : Nat) (xs : List Int) (e n : Int) (w : World) (hr : Rd w B p L xs e) :
    Calls Tryz.prog 140 #[.pointer (some ⟨p, 0, none⟩), .int .i64 n] w fun e' w' => e' = .returned (.tuple #[]) ∧ Rd w' B p L xs (failM e n) ∧ Kept w w' (fun k => k = p) ∧ Below B w w' := by
  have HR := Aside0.mk hr
  obtain ⟨A, c, hbk, hc, hF⟩ := hr.ex
  have HBK := Aside0.mk hbk
  have HF := Aside0.mk hF
  have hcl := blk_cell hbk 1
  have hfz := blk_frozen hbk 1
  clear hr hbk hF
  by_cases he : e = 0
  · subst he
    go_enter Tryz.func140, Tryz.ntmps140
    go_wp2
    go_end0
    exact ⟨rfl, by rw [failM_0]; exact Rd.stored HBK.out HR.out.le HR.out.by_ HR.out.mx hc HF.out rfl, Kept.put' (S := fun k => k = p) (Kept.refl' _ _) rfl _ _, below_out (Below.refl _ _) HR.out.le _ _⟩
  · have hd : ((e : Int) == 0) = false := by simp [he]
    have HE := Aside0.mk he
    clear he
    go_enter Tryz.func140, Tryz.ntmps140
    go_wp2
    go_end0
    exact ⟨rfl, by rw [failM_e n HE.out]; exact HR.out, Kept.refl' _ _, Below.refl _ _⟩
/-- The next n bytes, what is left then, and the first error. -/
def takeM (xs : List Int) (e : Int) (n : Nat) : List Int × List Int × Int := if e ≠ 0 then ([], xs, e) else if xs.length < n then ([], xs, 10) else (xs.take n, xs.drop n, 0)
theorem Err_any (B p L : Nat) (xs : List Int) (e : Int) (w : World) (hr : Rd w B p L xs e) :
    Calls Tryz.prog 118 #[.pointer (some ⟨p, 0, none⟩)] w fun e' w' => e' = .returned (.int .i64 e) ∧ w' = w := by
  obtain ⟨A, c, hbk, hc, hF⟩ := hr.ex
  have hcl := blk_cell hbk 1
  clear hr hbk hF
  go_enter Tryz.func118, Tryz.ntmps118
  go_wp2
  go_ret
  exact ⟨rfl, rfl⟩
theorem Left_any (B p L : Nat) (xs : List Int) (e : Int) (w : World) (hr : Rd w B p L xs e) :
    Calls Tryz.prog 114 #[.pointer (some ⟨p, 0, none⟩)] w fun e' w' => e' = .returned (.int .i64 (xs.length : Int)) ∧ w' = w := by
  obtain ⟨A, c, hbk, hc, hF⟩ := hr.ex
  have hcl := blk_cell hbk 0
  clear hr hbk hF
  go_enter Tryz.func114, Tryz.ntmps114
  go_wp2
  go_ret
  exact ⟨rfl, rfl⟩
set_option maxHeartbeats 2000000 in
set_option maxRecDepth 100000 in
theorem take_any (B p L : Nat) (xs : List Int) (e : Int) (n : Nat) (m : Int) (hq : m = (n : Int)) (r ys : List Int) (e2 : Int) (w : World) (hr : Rd w B p L xs e) (hn : n ≤ 1000000) (hm : takeM xs e n = (r, ys, e2)) :
    Calls Tryz.prog 141 #[.pointer (some ⟨p, 0, none⟩), .int .i64 m] w fun e' w' => ∃ A c, e' = .returned (.slice A r.length c) ∧ r.length ≤ c ∧ Kd.F (Kd.int .u8) w' (fun k => k ≠ p ∧ k < L) A r.length r ∧ Rd w' B p L ys e2 ∧ Kept w w' (fun k => k = p) ∧ Below B w w' := by
  subst hq
  have HR := Aside0.mk hr
  obtain ⟨A, c, hbk, hc, hF⟩ := hr.ex
  have HBK := Aside0.mk hbk
  have HF := Aside0.mk hF
  have hc0 := blk_cell hbk 0
  have hc1 := blk_cell hbk 1
  have hmx := hr.mx
  clear hr hbk hF
  unfold takeM at hm
  by_cases he : e = 0
  · subst he
    rw [if_neg (by simp)] at hm
    by_cases hx : xs.length < n
    · rw [if_pos hx] at hm
      injection hm with h1 h2
      injection h2 with h2 h3
      subst h1 h2 h3
      have hd : decide ((xs.length : Int) < (n : Int)) = true := decide_eq_true (by omega)
      have hd2 : decide (xs.length < n) = true := decide_eq_true hx
      go_enter Tryz.func141, Tryz.ntmps141
      go_wp2_with fail
      (with_reducible refine (fail_any B p L xs 0 10 w HR.out).mono ?_)
      rintro e1 w1 ⟨rfl, hr1, hk1, hb1⟩
      rw [failM_0] at hr1
      have HR1 := Aside0.mk hr1
      obtain ⟨A1, c1, hbk1, _, _⟩ := hr1.ex
      have hc11 := blk_cell hbk1 1
      have HK1 := Aside0.mk hk1
      have HB1 := Aside0.mk hb1
      clear hr1 hk1 hb1 hbk1 hc0 hc1
      go_wp2
      go_ret
      exact ⟨none, 0, rfl, Nat.le_refl _, Kd.F_nil _ _ _, HR1.out, HK1.out, HB1.out⟩
    · rw [if_neg hx] at hm
      injection hm with h1 h2
      injection h2 with h2 h3
      subst h1 h2 h3
      have hd : decide ((xs.length : Int) < (n : Int)) = false := decide_eq_false (by omega)
      have hd2 : decide (xs.length < n) = false := decide_eq_false hx
      have hn0 : (0 : Int) ≤ (n : Int) := by omega
      have hn1 : (n : Int) ≤ (c : Int) := by omega
      have hn2 : (n : Int) ≤ (xs.length : Int) := by omega
      obtain ⟨A', hcut, hAr, hAc⟩ := print_drop_of (P := Tryz.prog) (Value.int .u8) (0 : Int) 38 5 .i64 Tryz.underlying38 infoI.choose_spec.1 infoI.choose_spec.2 A c xs (n : Int) hn0 hn2 hc
      have htl : (xs.take n).length = n := by rw [List.length_take]; omega
      have HTL := Aside0.mk htl
      have hfz := blk_frozen HBK.out 0
      have HAR := Aside0.mk hAr
      rw [Int.toNat_natCast] at hAc
      simp only [Int.toNat_natCast] at hcut
      clear htl hAr
      go_enter Tryz.func141, Tryz.ntmps141
      go_wp2
      go_ret
      refine ⟨A, n, by rw [HTL.out]; rfl, by rw [HTL.out]; exact Nat.le_refl _, ?_, Rd.stored (A' := A') (c' := c - n) (e' := 0) HBK.out HR.out.le (bytesB_drop _ _ HR.out.by_) (by simp; omega) hAc ?_ (by simp), Kept.put' (S := fun k => k = p) (Kept.refl' _ _) rfl _ _, below_out (Below.refl _ _) HR.out.le _ _⟩
      · refine Kd.F_far ?_ (fun k hk => hk.1) _
        rw [HTL.out]
        exact fun W hW => Kd.C_of_reads (d := (0 : Int)) (h1 := fun _ => rfl) ((Kd.reads_of_C (d := (0 : Int)) (HF.out W hW)).take_ n (by omega))
      · intro W hW
        have h := HAR.out W (Kd.reads_of_C (d := (0 : Int)) (HF.out W hW))
        rw [Int.toNat_natCast] at h
        exact Kd.C_of_reads (d := (0 : Int)) (h1 := fun _ => rfl) h
  · have hd3 : ((e : Int) != 0) = true := by simp [he]
    have HE := Aside0.mk he
    rw [if_pos he] at hm
    injection hm with h1 h2
    injection h2 with h2 h3
    subst h1 h2 h3
    clear he
    by_cases hx : xs.length < n
    · have hd : decide ((xs.length : Int) < (n : Int)) = true := decide_eq_true (by omega)
      have hd2 : decide (xs.length < n) = true := decide_eq_true hx
      go_enter Tryz.func141, Tryz.ntmps141
      go_wp2_with fail
      (with_reducible refine (fail_any B p L xs e 10 w HR.out).mono ?_)
      rintro e1 w1 ⟨rfl, hr1, hk1, hb1⟩
      rw [failM_e 10 HE.out] at hr1
      have HR1 := Aside0.mk hr1
      obtain ⟨A1, c1, hbk1, _, _⟩ := hr1.ex
      have hc11 := blk_cell hbk1 1
      have HK1 := Aside0.mk hk1
      have HB1 := Aside0.mk hb1
      clear hr1 hk1 hb1 hbk1 hc0 hc1
      go_wp2
      go_ret
      exact ⟨none, 0, rfl, Nat.le_refl _, Kd.F_nil _ _ _, HR1.out, HK1.out, HB1.out⟩
    · have hd : decide ((xs.length : Int) < (n : Int)) = false := decide_eq_false (by omega)
      have hd2 : decide (xs.length < n) = false := decide_eq_false hx
      go_enter Tryz.func141, Tryz.ntmps141
      go_wp2
      go_ret
      exact ⟨none, 0, rfl, Nat.le_refl _, Kd.F_nil _ _ _, HR.out, Kept.refl' _ _, Below.refl _ _⟩
/-- A number of n bytes that is read. -/
def rdM (xs : List Int) (e : Int) (n : Nat) : Int × List Int × Int := (numN 0 (takeM xs e n).1, (takeM xs e n).2.1, (takeM xs e n).2.2)
theorem numN_snoc (x : Int) (l : List Int) (c : Int) : numN x (l ++ [c]) = numN x l * 256 + c := by simp [numN]
theorem numN_range (l : List Int) (hb : bytesB l = true) : ∀ (x : Int) (n : Nat), 0 ≤ x → x < 256 ^ n → 0 ≤ numN x l ∧ numN x l < 256 ^ (n + l.length) := by
  induction l with
  | nil => intro x n h0 h1; exact ⟨h0, h1⟩
  | cons c l ih =>
    intro x n h0 h1
    have hc := (bytesB_iff (c :: l)).1 hb c (by simp)
    have hl : bytesB l = true := (bytesB_iff l).2 fun y hy => (bytesB_iff (c :: l)).1 hb y (by simp [hy])
    have h2 : x * 256 + c < 256 ^ (n + 1) := by rw [Int.pow_succ]; omega
    have h := ih hl (x * 256 + c) (n + 1) (by omega) h2
    refine ⟨h.1, ?_⟩
    rw [List.length_cons, show n + (l.length + 1) = n + 1 + l.length by omega]
    exact h.2
set_option maxHeartbeats 2000000 in
set_option maxRecDepth 100000 in
theorem get32_any (B p L : Nat) (xs : List Int) (e : Int) (w : World) (hr : Rd w B p L xs e) :
    Calls Tryz.prog 139 #[.pointer (some ⟨p, 0, none⟩), .int .i64 4] w fun e' w' => e' = .returned (.int .u32 (rdM xs e 4).1) ∧ Rd w' B p L (rdM xs e 4).2.1 (rdM xs e 4).2.2 ∧ Kept w w' (fun k => k = p) ∧ Below B w w' := by
  obtain ⟨⟨r, ys, e2⟩, hm⟩ : ∃ r, takeM xs e 4 = r := ⟨_, rfl⟩
  have hm2 : rdM xs e 4 = (numN 0 r, ys, e2) := by unfold rdM; rw [hm]
  have hrb : bytesB r = true := by
    unfold takeM at hm
    split at hm
    · injection hm with h1 _; subst h1; rfl
    · split at hm
      · injection hm with h1 _; subst h1; rfl
      · injection hm with h1 _; subst h1; exact bytesB_take _ _ hr.by_
  have hrl : r.length ≤ 4 := by
    unfold takeM at hm
    split at hm
    · injection hm with h1 _; subst h1; simp
    · split at hm
      · injection hm with h1 _; subst h1; simp
      · injection hm with h1 _; subst h1; simp; omega
  rw [hm2]
  have HR := Aside0.mk hr
  have HM := Aside0.mk hm
  have HRB := Aside0.mk hrb
  clear hr hm hm2 hrb
  go_enter Tryz.func139, Tryz.ntmps139
  go_wp2_with fail
  (with_reducible refine (take_any B p L xs e 4 4 rfl r ys e2 w HR.out (by omega) HM.out).mono ?_)
  rintro e1 w1 ⟨A, c, rfl, hc, hF, hr1, hk1, hb1⟩
  have HF := Aside0.mk hF
  have HR1 := Aside0.mk hr1
  have HK1 := Aside0.mk hk1
  have HB1 := Aside0.mk hb1
  clear hF hr1 hk1 hb1
  go_wp2
  go_loopg [16, 5] r.length (fun kq v16 v5 w' => ∃ k : Nat, k + kq = r.length ∧ v16 = .int .i64 k ∧ v5 = .int .u32 (numN 0 (r.take k)) ∧ w' = w1)
  case atStart => exact ⟨0, by omega, rfl, rfl, rfl⟩
  case round =>
    obtain ⟨k, hk, rfl, rfl, rfl⟩ := hrel
    by_cases hlt : k < r.length
    · have hd : decide ((k : Int) < (r.length : Int)) = true := decide_eq_true (by omega)
      obtain ⟨ad0, hA0, hcell0⟩ := Kd.at_int (Kd.F_now HF.out) (k : Int) (by omega) (by omega)
      subst hA0
      rw [Int.toNat_natCast] at hcell0
      have p0 : (0 : Int) ≤ (k : Int) := by omega
      have p1 : (k : Int) < (r.length : Int) := by omega
      have hcr := rd_range r HRB.out k hlt
      have hnr := numN_range (r.take k) (bytesB_take _ _ HRB.out) 0 0 (by omega) (by omega)
      have hsn : numN 0 (r.take (k + 1)) = numN 0 (r.take k) * 256 + rd r (k : Int) := by rw [List.take_succ_eq_append_getElem hlt, numN_snoc, rd_at r k hlt]
      have hlk : (r.take k).length = k := by rw [List.length_take]; omega
      rw [hlk, Nat.zero_add] at hnr
      have hbd : numN 0 (r.take k) < 16777216 := Int.lt_of_lt_of_le hnr.2 (p256s k (by omega))
      have hb0 := hnr.1
      obtain ⟨z, hz⟩ : ∃ z, numN 0 (r.take k) = z := ⟨_, rfl⟩
      obtain ⟨q, hq⟩ : ∃ q, rd r (k : Int) = q := ⟨_, rfl⟩
      rw [hz] at hbd hb0 hsn
      rw [hq] at hcr hcell0 hsn
      simp only [hz]
      have hor := u32_or8' z q hb0 (by omega) hcr.1 hcr.2
      have HSN := Aside0.mk hsn
      clear hsn hz hq hlk hnr
      have hq0 := hcr.1
      have hq1 := hcr.2
      go_wp2
      go_roundg (r.length - k - 1)
      case measure => omega
      case rel => exact ⟨k + 1, by omega, by go_num, by rw [HSN.out], rfl⟩
    · have hd : decide ((k : Int) < (r.length : Int)) = false := decide_eq_false (by omega)
      have hk' : k = r.length := by omega
      subst hk'
      go_wp2
      go_ret
      exact ⟨by rw [List.take_length]; rfl, HR1.out, HK1.out, HB1.out⟩
set_option maxHeartbeats 2000000 in
set_option maxRecDepth 100000 in
theorem get64_any (B p L : Nat) (xs : List Int) (e : Int) (w : World) (hr : Rd w B p L xs e) :
    Calls Tryz.prog 138 #[.pointer (some ⟨p, 0, none⟩), .int .i64 8] w fun e' w' => e' = .returned (.int .u64 (rdM xs e 8).1) ∧ Rd w' B p L (rdM xs e 8).2.1 (rdM xs e 8).2.2 ∧ Kept w w' (fun k => k = p) ∧ Below B w w' := by
  obtain ⟨⟨r, ys, e2⟩, hm⟩ : ∃ r, takeM xs e 8 = r := ⟨_, rfl⟩
  have hm2 : rdM xs e 8 = (numN 0 r, ys, e2) := by unfold rdM; rw [hm]
  have hrb : bytesB r = true := by
    unfold takeM at hm
    split at hm
    · injection hm with h1 _; subst h1; rfl
    · split at hm
      · injection hm with h1 _; subst h1; rfl
      · injection hm with h1 _; subst h1; exact bytesB_take _ _ hr.by_
  have hrl : r.length ≤ 8 := by
    unfold takeM at hm
    split at hm
    · injection hm with h1 _; subst h1; simp
    · split at hm
      · injection hm with h1 _; subst h1; simp
      · injection hm with h1 _; subst h1; simp; omega
  rw [hm2]
  have HR := Aside0.mk hr
  have HM := Aside0.mk hm
  have HRB := Aside0.mk hrb
  clear hr hm hm2 hrb
  go_enter Tryz.func138, Tryz.ntmps138
  go_wp2_with fail
  (with_reducible refine (take_any B p L xs e 8 8 rfl r ys e2 w HR.out (by omega) HM.out).mono ?_)
  rintro e1 w1 ⟨A, c, rfl, hc, hF, hr1, hk1, hb1⟩
  have HF := Aside0.mk hF
  have HR1 := Aside0.mk hr1
  have HK1 := Aside0.mk hk1
  have HB1 := Aside0.mk hb1
  clear hF hr1 hk1 hb1
  go_wp2
  go_loopg [16, 5] r.length (fun kq v16 v5 w' => ∃ k : Nat, k + kq = r.length ∧ v16 = .int .i64 k ∧ v5 = .int .u64 (numN 0 (r.take k)) ∧ w' = w1)
  case atStart => exact ⟨0, by omega, rfl, rfl, rfl⟩
  case round =>
    obtain ⟨k, hk, rfl, rfl, rfl⟩ := hrel
    by_cases hlt : k < r.length
    · have hd : decide ((k : Int) < (r.length : Int)) = true := decide_eq_true (by omega)
      obtain ⟨ad0, hA0, hcell0⟩ := Kd.at_int (Kd.F_now HF.out) (k : Int) (by omega) (by omega)
      subst hA0
      rw [Int.toNat_natCast] at hcell0
      have p0 : (0 : Int) ≤ (k : Int) := by omega
      have p1 : (k : Int) < (r.length : Int) := by omega
      have hcr := rd_range r HRB.out k hlt
      have hnr := numN_range (r.take k) (bytesB_take _ _ HRB.out) 0 0 (by omega) (by omega)
      have hsn : numN 0 (r.take (k + 1)) = numN 0 (r.take k) * 256 + rd r (k : Int) := by rw [List.take_succ_eq_append_getElem hlt, numN_snoc, rd_at r k hlt]
      have hlk : (r.take k).length = k := by rw [List.length_take]; omega
      rw [hlk, Nat.zero_add] at hnr
      have hbd : numN 0 (r.take k) < 72057594037927936 := Int.lt_of_lt_of_le hnr.2 (p256 k (by omega))
      have hb0 := hnr.1
      obtain ⟨z, hz⟩ : ∃ z, numN 0 (r.take k) = z := ⟨_, rfl⟩
      obtain ⟨q, hq⟩ : ∃ q, rd r (k : Int) = q := ⟨_, rfl⟩
      rw [hz] at hbd hb0 hsn
      rw [hq] at hcr hcell0 hsn
      simp only [hz]
      have hor := u64_or8' z q hb0 (by omega) hcr.1 hcr.2
      have HSN := Aside0.mk hsn
      clear hsn hz hq hlk hnr
      have hq0 := hcr.1
      have hq1 := hcr.2
      go_wp2
      go_roundg (r.length - k - 1)
      case measure => omega
      case rel => exact ⟨k + 1, by omega, by go_num, by rw [HSN.out], rfl⟩
    · have hd : decide ((k : Int) < (r.length : Int)) = false := decide_eq_false (by omega)
      have hk' : k = r.length := by omega
      subst hk'
      go_wp2
      go_ret
      exact ⟨by rw [List.take_length]; rfl, HR1.out, HK1.out, HB1.out⟩
theorem rdM_range (xs : List Int) (e : Int) (n : Nat) (hb : bytesB xs = true) : 0 ≤ (rdM xs e n).1 ∧ (rdM xs e n).1 < 256 ^ n := by
  have h0 : ∀ m : Nat, (0 : Int) < 256 ^ m := fun m => Int.pow_pos (by decide)
  unfold rdM takeM
  split
  · exact ⟨by simp [numN], by simp [numN]; exact h0 n⟩
  · split
    · exact ⟨by simp [numN], by simp [numN]; exact h0 n⟩
    · have h := numN_range (xs.take n) (bytesB_take _ _ hb) 0 0 (by omega) (by omega)
      rw [Nat.zero_add, List.length_take, Nat.min_eq_left (by omega)] at h
      exact h
theorem RU32_any (B p L : Nat) (xs : List Int) (e : Int) (w : World) (hr : Rd w B p L xs e) :
    Calls Tryz.prog 116 #[.pointer (some ⟨p, 0, none⟩)] w fun e' w' => e' = .returned (.int .u32 (rdM xs e 4).1) ∧ Rd w' B p L (rdM xs e 4).2.1 (rdM xs e 4).2.2 ∧ Kept w w' (fun k => k = p) ∧ Below B w w' := by
  go_enter Tryz.func116, Tryz.ntmps116
  go_wp2_with fail
  (with_reducible refine (get32_any B p L xs e w hr).mono ?_)
  rintro e1 w1 ⟨rfl, h1, h2, h3⟩
  have H1 := Aside0.mk h1
  have H2 := Aside0.mk h2
  have H3 := Aside0.mk h3
  clear h1 h2 h3 hr
  go_wp2
  go_ret
  exact ⟨rfl, H1.out, H2.out, H3.out⟩
theorem RU64_any (B p L : Nat) (xs : List Int) (e : Int) (w : World) (hr : Rd w B p L xs e) :
    Calls Tryz.prog 115 #[.pointer (some ⟨p, 0, none⟩)] w fun e' w' => e' = .returned (.int .u64 (rdM xs e 8).1) ∧ Rd w' B p L (rdM xs e 8).2.1 (rdM xs e 8).2.2 ∧ Kept w w' (fun k => k = p) ∧ Below B w w' := by
  go_enter Tryz.func115, Tryz.ntmps115
  go_wp2_with fail
  (with_reducible refine (get64_any B p L xs e w hr).mono ?_)
  rintro e1 w1 ⟨rfl, h1, h2, h3⟩
  have H1 := Aside0.mk h1
  have H2 := Aside0.mk h2
  have H3 := Aside0.mk h3
  clear h1 h2 h3 hr
  go_wp2
  go_ret
  exact ⟨rfl, H1.out, H2.out, H3.out⟩
/-- Is a byte no nought? -/
def nzB (l : List Int) : Bool := l.any (fun c => decide (c ≠ 0))
theorem isnz_any (c : Int) (w : World) : Calls Tryz.prog 144 #[.int .u8 c] w fun e' w' => e' = .returned (.bool (c != 0)) ∧ w' = w := by
  go_enter Tryz.func144, Tryz.ntmps144
  go_wp2
  go_ret
  exact ⟨rfl, rfl⟩
set_option maxHeartbeats 2000000 in
set_option maxRecDepth 100000 in
theorem IndexNz_any (A : Option Addr) (c : Nat) (l : List Int) (w : World) (hr : Kd.C (Kd.int .u8) w A l.length l) (hc : l.length ≤ c) :
    Calls Tryz.prog 161 #[.slice A l.length c, .func (.func 144) #[] #[]] w fun e' w' => ∃ z : Int, e' = .returned (.int .i64 z) ∧ (decide (0 ≤ z) = nzB l) ∧ w' = w := by
  have HR := Aside0.mk hr
  have hm := Kd.C_max hr
  clear hr
  go_enter Tryz.func161, Tryz.ntmps161
  go_wp2
  go_loopg [8] l.length (fun kq v8 w' => ∃ k : Nat, k + kq = l.length ∧ v8 = .int .i64 k ∧ Aside0 (nzB (l.take k) = false) ∧ w' = w)
  case atStart => exact ⟨0, by omega, rfl, ⟨rfl⟩, rfl⟩
  case round =>
    obtain ⟨k, hk, rfl, HN, rfl⟩ := hrel
    by_cases hlt : k < l.length
    · have hd : decide ((k : Int) < (l.length : Int)) = true := decide_eq_true (by omega)
      obtain ⟨ad0, hA0, hcell0⟩ := Kd.at_int HR.out (k : Int) (by omega) (by omega)
      subst hA0
      rw [Int.toNat_natCast] at hcell0
      have p0 : (0 : Int) ≤ (k : Int) := by omega
      have p1 : (k : Int) < (l.length : Int) := by omega
      obtain ⟨q, hq⟩ : ∃ q, rd l (k : Int) = q := ⟨_, rfl⟩
      rw [hq] at hcell0
      have hq2 : l[k] = q := by rw [← rd_at l k hlt]; exact hq
      have HNS := Aside0.mk (show nzB (l.take (k + 1)) = (nzB (l.take k) || decide (q ≠ 0)) by rw [List.take_succ_eq_append_getElem hlt, hq2]; simp [nzB])
      clear hq hq2
      by_cases hz : q = 0
      · have hz1 : ((q : Int) != 0) = false := by simp [hz]
        have HZ := Aside0.mk hz
        clear hz
        go_wp2_with (go_at_call 144; (with_reducible refine (isnz_any q _).mono ?_); rintro e w1 ⟨rfl, rfl⟩)
        go_roundg (l.length - k - 1)
        case measure => omega
        case rel => exact ⟨k + 1, by omega, by go_num, ⟨by rw [HNS.out, HN.out, HZ.out]; rfl⟩, rfl⟩
      · have hz1 : ((q : Int) != 0) = true := by simp [hz]
        have HZ := Aside0.mk hz
        clear hz
        go_wp2_with (go_at_call 144; (with_reducible refine (isnz_any q _).mono ?_); rintro e w1 ⟨rfl, rfl⟩)
        go_ret
        refine ⟨(k : Int), rfl, ?_, rfl⟩
        rw [decide_eq_true (by omega)]
        have h := HNS.out
        rw [HN.out, decide_eq_true HZ.out] at h
        have h2 : nzB l = (nzB (l.take (k + 1)) || nzB (l.drop (k + 1))) := by
          conv => lhs; rw [← List.take_append_drop (k + 1) l]
          simp only [nzB, List.any_append]
        rw [h2, h]
        rfl
    · have hd : decide ((k : Int) < (l.length : Int)) = false := decide_eq_false (by omega)
      have hk' : k = l.length := by omega
      subst hk'
      go_wp2
      go_ret
      exact ⟨-1, rfl, by have h := HN.out; rw [List.take_length] at h; rw [h]; rfl, rfl⟩
theorem ContainsNz_any (A : Option Addr) (c : Nat) (l : List Int) (w : World) (hr : Kd.C (Kd.int .u8) w A l.length l) (hc : l.length ≤ c) :
    Calls Tryz.prog 143 #[.slice A l.length c, .func (.func 144) #[] #[]] w fun e' w' => e' = .returned (.bool (nzB l)) ∧ w' = w := by
  go_enter Tryz.func143, Tryz.ntmps143
  go_wp2_with fail
  (with_reducible refine (IndexNz_any A c l w hr hc).mono ?_)
  rintro e w1 ⟨z, rfl, hz, rfl⟩
  cases hn : nzB l with
  | true =>
    rw [hn] at hz
    have HZ := Aside0.mk hz
    go_wp2
    go_ret
    exact ⟨by rw [hn]; rfl, rfl⟩
  | false =>
    rw [hn] at hz
    have HZ := Aside0.mk hz
    go_wp2
    go_ret
    exact ⟨by rw [hn]; rfl, rfl⟩
/-- What is read as bytes, so many at most: the bytes, what is left, and the first error. -/
def opM (xs : List Int) (e : Int) (most : Int) : List Int × List Int × Int :=
  match rdM xs e 4 with
  | (n, ys, e1) =>
    if e1 ≠ 0 then ([], ys, e1) else if most < n then ([], ys, 13) else
      match takeM ys 0 (n.toNat + (4 - n.toNat % 4) % 4) with
      | (b, zs, e2) => if e2 ≠ 0 then ([], zs, e2) else if nzB (b.drop n.toNat) = true then ([], zs, 11) else (b.take n.toNat, zs, 0)
theorem takeM_len (xs : List Int) (n : Nat) (h : (takeM xs 0 n).2.2 = 0) : (takeM xs 0 n).1.length = n := by
  unfold takeM at h ⊢
  rw [if_neg (by simp)] at h ⊢
  by_cases hx : xs.length < n
  · rw [if_pos hx] at h; simp at h
  · rw [if_neg hx]; simp; omega
set_option maxHeartbeats 4000000 in
set_option maxRecDepth 100000 in
theorem ROpaque_any (B p L : Nat) (xs : List Int) (e most : Int) (r ys : List Int) (e2 : Int) (w : World) (hr : Rd w B p L xs e) (h0 : 0 ≤ most) (h1 : most ≤ 100000) (hm : opM xs e most = (r, ys, e2)) :
    Calls Tryz.prog 117 #[.pointer (some ⟨p, 0, none⟩), .int .i64 most] w fun e' w' => ∃ v, e' = .returned v ∧ Kd.R (Kd.int .u8) 5 w' B (fun k => k ≠ p) v r ∧ Rd w' B p L ys e2 ∧ Kept w w' (fun k => k = p) ∧ Below B w w' := by
  obtain ⟨⟨n, ys1, e1⟩, hm1⟩ : ∃ r, rdM xs e 4 = r := ⟨_, rfl⟩
  have hn := rdM_range xs e 4 hr.by_
  have hc1 := RU32_any B p L xs e w hr
  rw [hm1] at hc1 hn
  have HC1 := Aside0.mk hc1
  have hn0 := hn.1
  have hn1 : n < 4294967296 := hn.2
  unfold opM at hm
  rw [hm1] at hm
  dsimp only at hm
  have HLT := Aside0.mk hr.lt
  clear hr hm1 hc1 hn
  by_cases hc : e1 = 0
  · subst hc
    rw [if_neg (by simp)] at hm
    by_cases hmn : most < n
    · rw [if_pos hmn] at hm
      injection hm with g1 g2
      injection g2 with g2 g3
      subst g1 g2 g3
      have hd : decide (most < n) = true := decide_eq_true hmn
      have hd0 : decide (most < 0) = false := decide_eq_false (by omega)
      go_enter Tryz.func117, Tryz.ntmps117
      go_wp2_with fail
      (with_reducible refine HC1.out.mono ?_)
      rintro e' w1 ⟨rfl, k1, k2, k3⟩
      have HR1 := Aside0.mk k1
      have HK1 := Aside0.mk k2
      have HB1 := Aside0.mk k3
      clear k1 k2 k3
      go_wp2_with fail
      (with_reducible refine (Err_any B p L ys1 0 w1 HR1.out).mono ?_)
      rintro e' w2 ⟨rfl, rfl⟩
      go_wp2_with fail
      (with_reducible refine (fail_any B p L ys1 0 13 w2 HR1.out).mono ?_)
      rintro e' w9 ⟨rfl, k1, k2, k3⟩
      have HR9 := Aside0.mk k1
      have HK9 := Aside0.mk (Kept.trans' HK1.out k2)
      have HB9 := Aside0.mk (Below.trans HB1.out k3)
      clear k1 k2 k3
      go_wp2
      go_ret
      exact ⟨_, rfl, Kd.R_nil _ _ _ _ _, HR9.out, HK9.out, HB9.out⟩
    · rw [if_neg hmn] at hm
      obtain ⟨⟨b, zs, e3⟩, hm2⟩ : ∃ r, takeM ys1 0 (n.toNat + (4 - n.toNat % 4) % 4) = r := ⟨_, rfl⟩
      rw [hm2] at hm
      dsimp only at hm
      have hd : decide (most < n) = false := decide_eq_false hmn
      have hd0 : decide (most < 0) = false := decide_eq_false (by omega)
      obtain ⟨m, rfl⟩ := Int.eq_ofNat_of_zero_le hn0
      rw [Int.toNat_natCast] at hm hm2
      have hm0 : m ≤ 100000 := by omega
      have hsum : (m : Int) + (((4 - m % 4) % 4 : Nat) : Int) = ((m + (4 - m % 4) % 4 : Nat) : Int) := by omega
      have HSUM := Aside0.mk hsum
      have HM2 := Aside0.mk hm2
      clear hm2 hmn hsum
      by_cases he3 : e3 = 0
      · subst he3
        rw [if_neg (by simp)] at hm
        have hbl := takeM_len ys1 (m + (4 - m % 4) % 4) (by rw [HM2.out])
        rw [HM2.out] at hbl
        dsimp only at hbl
        have hmb : m ≤ b.length := by omega
        have hmi : (m : Int) ≤ (b.length : Int) := by omega
        have HBL := Aside0.mk hbl
        clear hbl
        by_cases hz : nzB (b.drop m) = true
        · rw [if_pos hz] at hm
          injection hm with g1 g2
          injection g2 with g2 g3
          subst g1 g2 g3
          have HNZ := Aside0.mk hz
          clear hz
          go_enter Tryz.func117, Tryz.ntmps117
          go_wp2_with fail
          (with_reducible refine HC1.out.mono ?_)
          rintro e' w1 ⟨rfl, k1, k2, k3⟩
          have HR1 := Aside0.mk k1
          have HK1 := Aside0.mk k2
          have HB1 := Aside0.mk k3
          clear k1 k2 k3
          go_wp2_with fail
          (with_reducible refine (Err_any B p L ys1 0 w1 HR1.out).mono ?_)
          rintro e' w2 ⟨rfl, rfl⟩
          go_wp2_with (go_at_call 142; (with_reducible refine (fill_any m _ (by omega)).mono ?_); rintro e' w3 ⟨rfl, rfl⟩)
          (with_reducible refine (take_any B p L ys1 0 (m + (4 - m % 4) % 4) _ (by omega) b zs 0 w3 HR1.out (by omega) HM2.out).mono ?_)
          rintro e' w4 ⟨A4, c4, rfl, hc4, k0, k1, k2, k3⟩
          obtain ⟨A5, c5, hbk, _, _⟩ := k1.ex
          have hcl := blk_cell hbk 1
          have HF4 := Aside0.mk k0
          have HR4 := Aside0.mk k1
          have HK4 := Aside0.mk (Kept.trans' HK1.out k2)
          have HB4 := Aside0.mk (Below.trans HB1.out k3)
          clear k0 k1 k2 k3 hbk
          obtain ⟨A6, hcut, hAr, hAc⟩ := print_drop_of (P := Tryz.prog) (Value.int .u8) (0 : Int) 38 5 .i64 Tryz.underlying38 infoI.choose_spec.1 infoI.choose_spec.2 A4 c4 b (m : Int) hn0 hmi hc4
          have HD := Aside0.mk (Kd.C_of_reads (d := (0 : Int)) (h1 := fun _ => rfl) (hAr w4 (Kd.reads_of_C (d := (0 : Int)) (Kd.F_now HF4.out))))
          rw [Int.toNat_natCast] at hAc HD
          simp only [Int.toNat_natCast] at hcut
          have hmc : (m : Int) ≤ (c4 : Int) := by omega
          clear hAr
          go_wp2_with fail
          have hdl : b.length - m = (b.drop m).length := by rw [List.length_drop]
          have hcon := ContainsNz_any A6 (c4 - m) (b.drop m) w4 HD.out hAc
          rw [← hdl] at hcon
          (with_reducible refine hcon.mono ?_)
          rintro e' w5 ⟨rfl, rfl⟩
          rw [HNZ.out]
          clear hcon hdl hcut hcl
          go_wp2_with fail
          (with_reducible refine (fail_any B p L zs 0 11 _ HR4.out).mono ?_)
          rintro e' w9 ⟨rfl, k1, k2, k3⟩
          have HR9 := Aside0.mk k1
          have HK9 := Aside0.mk (Kept.trans' HK4.out k2)
          have HB9 := Aside0.mk (Below.trans HB4.out k3)
          clear k1 k2 k3
          go_wp2
          go_ret
          exact ⟨_, rfl, Kd.R_nil _ _ _ _ _, HR9.out, HK9.out, HB9.out⟩
        · rw [if_neg hz] at hm
          injection hm with g1 g2
          injection g2 with g2 g3
          subst g1 g2 g3
          have HNZ := Aside0.mk (Bool.eq_false_iff.2 hz)
          clear hz
          go_enter Tryz.func117, Tryz.ntmps117
          go_wp2_with fail
          (with_reducible refine HC1.out.mono ?_)
          rintro e' w1 ⟨rfl, k1, k2, k3⟩
          have HR1 := Aside0.mk k1
          have HK1 := Aside0.mk k2
          have HB1 := Aside0.mk k3
          clear k1 k2 k3
          go_wp2_with fail
          (with_reducible refine (Err_any B p L ys1 0 w1 HR1.out).mono ?_)
          rintro e' w2 ⟨rfl, rfl⟩
          go_wp2_with (go_at_call 142; (with_reducible refine (fill_any m _ (by omega)).mono ?_); rintro e' w3 ⟨rfl, rfl⟩)
          (with_reducible refine (take_any B p L ys1 0 (m + (4 - m % 4) % 4) _ (by omega) b zs 0 w3 HR1.out (by omega) HM2.out).mono ?_)
          rintro e' w4 ⟨A4, c4, rfl, hc4, k0, k1, k2, k3⟩
          obtain ⟨A5, c5, hbk, _, _⟩ := k1.ex
          have hcl := blk_cell hbk 1
          have HF4 := Aside0.mk k0
          have HR4 := Aside0.mk k1
          have HK4 := Aside0.mk (Kept.trans' HK1.out k2)
          have HB4 := Aside0.mk (Below.trans HB1.out k3)
          clear k0 k1 k2 k3 hbk
          obtain ⟨A6, hcut, hAr, hAc⟩ := print_drop_of (P := Tryz.prog) (Value.int .u8) (0 : Int) 38 5 .i64 Tryz.underlying38 infoI.choose_spec.1 infoI.choose_spec.2 A4 c4 b (m : Int) hn0 hmi hc4
          have HD := Aside0.mk (Kd.C_of_reads (d := (0 : Int)) (h1 := fun _ => rfl) (hAr w4 (Kd.reads_of_C (d := (0 : Int)) (Kd.F_now HF4.out))))
          rw [Int.toNat_natCast] at hAc HD
          simp only [Int.toNat_natCast] at hcut
          have hmc : (m : Int) ≤ (c4 : Int) := by omega
          clear hAr
          go_wp2_with fail
          have hdl : b.length - m = (b.drop m).length := by rw [List.length_drop]
          have hcon := ContainsNz_any A6 (c4 - m) (b.drop m) w4 HD.out hAc
          rw [← hdl] at hcon
          (with_reducible refine hcon.mono ?_)
          rintro e' w5 ⟨rfl, rfl⟩
          rw [HNZ.out]
          clear hcon hdl hcut hcl
          go_wp2_with fail
          have htl : (b.take m).length = m := by rw [List.length_take]; omega
          have hC5 : Kd.C (Kd.int .u8) w5 A4 (b.take m).length (b.take m) := by rw [htl]; exact Kd.C_of_reads (d := (0 : Int)) (h1 := fun _ => rfl) ((Kd.reads_of_C (d := (0 : Int)) (Kd.F_now HF4.out)).take_ m (by omega))
          have hcl2 := slices_Clone.calls A4 c4 (b.take m) (b.take m) w5 hC5 (by omega) (by unfold slices_Clone.f; rw [if_pos (by omega)])
          rw [htl] at hcl2
          (with_reducible refine hcl2.mono ?_)
          rintro e' w9 ⟨v9, rfl, k1, k2⟩
          have hlt := HR4.out.lt
          have hle := HR4.out.le
          have HO9 := Aside0.mk (Kd.R_mono (Kd.R_lower (Kd.R_bound k1) (show B ≤ w5.heap.size by omega)) (ok' := fun k => k ≠ p) (fun k hk => by have := hk.2.1; omega))
          have HR9 := Aside0.mk (Rd.below HR4.out k2)
          have HK9 := Aside0.mk (Kept.below' HK4.out k2)
          have HB9 := Aside0.mk (below_then HB4.out (show B ≤ w5.heap.size by omega) k2)
          clear k1 k2 hcl2 htl hC5
          go_wp2
          go_ret
          exact ⟨_, rfl, HO9.out, HR9.out, HK9.out, HB9.out⟩
      · rw [if_pos he3] at hm
        injection hm with g1 g2
        injection g2 with g2 g3
        subst g1 g2 g3
        have hd3 : ((e3 : Int) != 0) = true := by simp [he3]
        have HE := Aside0.mk he3
        clear he3
        go_enter Tryz.func117, Tryz.ntmps117
        go_wp2_with fail
        (with_reducible refine HC1.out.mono ?_)
        rintro e' w1 ⟨rfl, k1, k2, k3⟩
        have HR1 := Aside0.mk k1
        have HK1 := Aside0.mk k2
        have HB1 := Aside0.mk k3
        clear k1 k2 k3
        go_wp2_with fail
        (with_reducible refine (Err_any B p L ys1 0 w1 HR1.out).mono ?_)
        rintro e' w2 ⟨rfl, rfl⟩
        go_wp2_with (go_at_call 142; (with_reducible refine (fill_any m _ (by omega)).mono ?_); rintro e' w3 ⟨rfl, rfl⟩)
        (with_reducible refine (take_any B p L ys1 0 (m + (4 - m % 4) % 4) _ (by omega) b zs e3 w3 HR1.out (by omega) HM2.out).mono ?_)
        rintro e' w4 ⟨A4, c4, rfl, hc4, k0, k1, k2, k3⟩
        obtain ⟨A5, c5, hbk, _, _⟩ := k1.ex
        have hcl := blk_cell hbk 1
        have HF4 := Aside0.mk k0
        have HR4 := Aside0.mk k1
        have HK4 := Aside0.mk (Kept.trans' HK1.out k2)
        have HB4 := Aside0.mk (Below.trans HB1.out k3)
        clear k0 k1 k2 k3 hbk
        go_wp2
        go_ret
        exact ⟨_, rfl, Kd.R_nil _ _ _ _ _, HR4.out, HK4.out, HB4.out⟩
  · have hd : ((e1 : Int) != 0) = true := by simp [hc]
    rw [if_pos hc] at hm
    injection hm with g1 g2
    injection g2 with g2 g3
    subst g1 g2 g3
    have HE := Aside0.mk hc
    clear hc
    go_enter Tryz.func117, Tryz.ntmps117
    go_wp2_with fail
    (with_reducible refine HC1.out.mono ?_)
    rintro e' w1 ⟨rfl, k1, k2, k3⟩
    have HR1 := Aside0.mk k1
    have HK1 := Aside0.mk k2
    have HB1 := Aside0.mk k3
    clear k1 k2 k3
    go_wp2_with fail
    (with_reducible refine (Err_any B p L ys1 e1 w1 HR1.out).mono ?_)
    rintro e' w2 ⟨rfl, rfl⟩
    go_wp2
    go_ret
    exact ⟨_, rfl, Kd.R_nil _ _ _ _ _, HR1.out, HK1.out, HB1.out⟩
theorem Rd.step {w w' : World} {B p L : Nat} {xs : List Int} {e : Int} (h : Rd w B p L xs e) (hp : w'.heap[p]? = w.heap[p]?) (hm : ∀ k, k < L → k ≠ p → k < w.heap.size → w'.heap[k]? = w.heap[k]?) : Rd w' B p L xs e := by
  obtain ⟨A, c, h1, h2, h3⟩ := h.ex
  exact ⟨h.le, ⟨A, c, hp.trans h1, h2, Kd.F_step h3 (fun k hk hlt => hm k hk.2 hk.1 hlt)⟩, h.by_, h.mx⟩
/-- A store into a block that was made since. -/
theorem Rd.put {w : World} {B p L g : Nat} {xs : List Int} {e : Int} (h : Rd w B p L xs e) (hg : L ≤ g) (hne : p ≠ g) (j : Nat) (u : Value) : Rd (w.setCell ⟨g, j, none⟩ u) B p L xs e :=
  h.step (Below.heap_setCell w ⟨g, j, none⟩ u p hne) (fun k hk _ _ => Below.heap_setCell w ⟨g, j, none⟩ u k (by show k ≠ g; omega))
/-- A row made since has grown. -/
theorem Rd.grown {w w' : World} {B p L : Nat} {xs : List Int} {e : Int} {row : Option Nat} (h : Rd w B p L xs e) (hg : w.grownBy w' row) (hrow : ∀ k, row = some k → L ≤ k ∧ k ≠ p) : Rd w' B p L xs e :=
  h.step (hg.block p h.lt (fun e' => (hrow p e'.symm).2 rfl)) (fun k hk _ hlt => hg.block k hlt (fun e' => by have := (hrow k e'.symm).1; omega))
end Go.Proofs.YtanemmcddgkpdaaGreat.Hm
end
