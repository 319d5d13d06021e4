/- Part A of the lemmas and walks of the Go functions that these statements reach; conditions: those that each theorem names. -/
import Derived.Test.YtgjajalneknagaaProg
import Derived.Below
import Derived.Deep.Draws
import Derived.Deep.AppendLies
import Derived.Maps.AppendAt
import Derived.OwnWalk
import Derived.Laws.BytesArg
import Derived.Laws.MakeOwn
import Derived.Laws.OwnMore
import Derived.Deep.OwnRows
import Derived.Tactics
import Derived.Lib.ConvBytes
import Derived.Laws.Slices
import Derived.WalkKit
import Derived.KernelRfl
import Derived.RowKit3
import Derived.Deep.LoopGhost
import Derived.Deep.QuietTactic
import Derived.BigQuiet
import Derived.WideLaws
import Derived.Deep.DeepCutAuto
import Derived.Deep.CutBlock
import Derived.Deep.RegionHeld3
import Derived.Laws.Rows
import Derived.Lib.AppendStr
import Derived.ArgAppend
import Derived.Laws.IdiomCopy
import Derived.OrdersHeld
import Derived.Laws.BitsLemmas
import Derived.RowKit
import Derived.Laws.BitsAllLaws
import Derived.Laws.CopyOwn
import Derived.Lib.SliceRun
import Derived.LoopTactic
import Derived.WalkLawsBesides
import Derived.WalkSpells
import Derived.Lib.SlBytesConst
import Derived.Test.YtgjajalneknagaaWWords
import Derived.Test.YtgjajalneknagaaWLast
import Derived.Test.YtgjajalneknagaaWQPut
import Derived.Test.YtgjajalneknagaaWApart
import Derived.Test.YtgjajalneknagaaWArr
import Derived.Test.YtgjajalneknagaaWZeros
import Derived.Test.YtgjajalneknagaaWFoot
import Derived.Test.YtgjajalneknagaaWKept
import Derived.Test.YtgjajalneknagaaWShare
import Derived.Test.YtgjajalneknagaaWN
import Derived.Test.YtgjajalneknagaaWFootNe
import Derived.Test.YtgjajalneknagaaWEqStruct
import Derived.Test.YtgjajalneknagaaWNEv
import Derived.Test.YtgjajalneknagaaWMore
import Derived.Deep.Slices
import Derived.Deep.Fields
import Derived.ChangeArms
import Derived.WideShapes
section
/- What the hand-made texts of this seat import: the program, the library's laws, the print's words. -/
namespace Go.Proofs.Ytgjajalneknagaa.Hm
open Go.RowKit Go.Proofs.YtgjajalneknagaaW.PrintWords Go.Proofs.YtgjajalneknagaaW.PrintLast Go.Proofs.YtgjajalneknagaaW.PrintMore
set_option linter.unusedVariables false
set_option linter.unusedSimpArgs false
theorem infoB : (Try.prog.info? 5).map (fun i => (i.zero, i.size, i.bytes)) = some (some (.int .u8 0), 1, 1) := by kernel_rfl
set_option linter.unusedVariables false
set_option linter.unusedSimpArgs false
/-- A block of bytes, marked or not, reads as its numbers. -/
theorem C_of_block {W : World} {g : Nat} {C : Array Value} {e : TypeId} {fr : Nat × Nat} (xs : List Int) (h : W.heap[g]? = some (.cells C e fr)) (hC : C = (nums .u8 xs).toArray) (hl : xs.length ≤ 9223372036854775807) :
    Kd.C (Kd.int .u8) W (some ⟨g, 0, none⟩) xs.length xs := by
  refine Kd.C_of_reads (d := (0 : Int)) (h1 := fun _ => rfl) (show ReadsInt W .u8 (some ⟨g, 0, none⟩) xs.length xs from ⟨rfl, hl, fun _ => ⟨_, rfl, fun j hj => ?_⟩⟩)
  rw [add_plain, cell_of_row W g j C e fr h, hC]
  simp [nums, hj]
section
variable {ops : Array Oper} {rest : List Oper} {o : Oper} {a : Act} {Q : Exit → Act → World → Prop} {W : World}
set_option maxRecDepth 100000 in
/-- '[]byte(s)' of a string. -/
theorem V_conv_str (hgd : o.guard = none) {N' : Tmp} (_hd : o.dst = some N') (x : Operand) (ho : o.op = .convert 9 38 x) (s : ByteArray) (hx : a.eval x = .string s)
    (hl : s.size ≤ 9223372036854775807)
    (h : ∀ v1 w1, Kd.V (Kd.int .u8) 5 w1 W.heap.size (fun k => W.heap.size ≤ k) v1 (bytesOf s) → Below W.heap.size W w1 → wpList Try.prog ops Q rest (a.put o.dst v1) w1) : wpList Try.prog ops Q (o :: rest) a W := by
  have hr := print_bytes (P := Try.prog) 9 38 5 Try.underlying9 Try.underlying38 Try.underlying5 s W
  refine Kd.event_run hgd (v := .slice (some ⟨W.heap.size, 0, none⟩) s.size (grownCap W s.size 0 5)) (w1 := Lib.bytesWorld W 5 s) ?_ (h _ _ ?_ (bytes_below (Below.refl _ _) (Nat.le_refl _) _ _))
  · unfold execOp
    simp only [ho, hx, Sem.run_bind, hr]
    rfl
  · have hcap : s.size ≤ grownCap W s.size 0 5 := Nat.le_add_right s.size _
    refine ⟨_, _, by rw [bytesOf_length], by rw [bytesOf_length]; exact hcap, fun W' hk => ?_⟩
    have hb := hk W.heap.size (Nat.le_refl _) (by rw [Lib.bytesWorld_size]; omega)
    refine Kd.C_of_reads (d := (0 : Int)) (h1 := fun _ => rfl) (show ReadsInt W' .u8 (some ⟨W.heap.size, 0, none⟩) (bytesOf s).length (bytesOf s) from ⟨rfl, by rw [bytesOf_length]; exact hl, fun _ => ⟨_, rfl, fun j hj => ?_⟩⟩)
    rw [bytesOf_length] at hj
    have hr := bytes_reads W 5 s hl
    obtain ⟨ad, e1, e2⟩ := hr.2.2 (by omega)
    injection e1 with e1
    subst e1
    have h2 := e2 j hj
    have h3 : W'.cell? ((⟨W.heap.size, 0, none⟩ : Addr).add j) = (Lib.bytesWorld W 5 s).cell? ((⟨W.heap.size, 0, none⟩ : Addr).add j) := by
      rw [add_plain]
      simp only [World.cell?, hb]
    rw [h3, h2]
end
end Go.Proofs.Ytgjajalneknagaa.Hm
end
section
/- What a value that came in holds, kind by kind: an argument of any type of whole numbers, bools, strings, slices and structs is opened to a plain value; conditions: those that each theorem names. -/
namespace Go.Proofs.Ytgjajalneknagaa.Hm
open Go.RowKit Go.ChangeShapes Go.WideShapes Go.Deep Go.Proofs.YtgjajalneknagaaW.PrintWords Go.Proofs.YtgjajalneknagaaW.PrintLast Go.Proofs.YtgjajalneknagaaW.PrintMore
set_option linter.unusedVariables false
set_option linter.unusedSimpArgs false

/-- Whatever is read at type t is a value of the kind d, of which ok holds. -/
def Opens (P : Program) (t : TypeId) {α : Type} (d : Kd α) (ok : α → Prop) : Prop :=
  ∀ (H : Type) (enc : TypeId × Value → H) (w : World) (base : Nat) (spare : Nat → Bool) (held : Bool) (fuel : Nat) (cs : List Value) (x : DataW H × List MemPlace),
    DataW.trod enc P w base spare held fuel t cs = some x → ∃ a, d.K w a cs ∧ ok a
theorem opens_int {P : Program} {t : TypeId} {k : IntKind} (ht : P.underlying t = some (.int k)) : Opens P t (Kd.int k) (fun n => (Lit.int k n).wf = true) := by
  intro H enc w base spare held fuel cs x h
  obtain ⟨n, rfl, _, hw⟩ := DataW.trod_int ht h
  exact ⟨n, rfl, hw⟩
theorem opens_bool {P : Program} {t : TypeId} (ht : P.underlying t = some .bool) : Opens P t Kd.bool (fun _ => True) := by
  intro H enc w base spare held fuel cs x h
  obtain ⟨b, rfl, _⟩ := DataW.trod_bool ht h
  exact ⟨b, rfl, trivial⟩
theorem opens_string {P : Program} {t : TypeId} (ht : P.underlying t = some .string) : Opens P t Kd.string (fun s => s.size ≤ maxLen) := by
  intro H enc w base spare held fuel cs x h
  obtain ⟨s, rfl, _, hs⟩ := DataW.trod_string ht h
  exact ⟨s, rfl, hs⟩
theorem exists_list {α : Type} {p : Nat → α → Prop} (n : Nat) (h : ∀ i, i < n → ∃ x, p i x) : ∃ l : List α, l.length = n ∧ ∀ i x, l[i]? = some x → p i x := by
  induction n with
  | zero => exact ⟨[], rfl, fun i x hx => by simp at hx⟩
  | succ n ih =>
    obtain ⟨l, hl, hp⟩ := ih (fun i hi => h i (by omega))
    obtain ⟨y, hy⟩ := h n (by omega)
    refine ⟨l ++ [y], by simp [hl], fun i x hx => ?_⟩
    rcases Nat.lt_or_ge i n with hi | hi
    · rw [List.getElem?_append_left (by omega)] at hx
      exact hp i x hx
    · have hi2 : i = n := by
        have := (List.getElem?_eq_some_iff.1 hx).1
        rw [List.length_append, hl, List.length_singleton] at this
        omega
      subst hi2
      rw [List.getElem?_append_right (by omega), hl, Nat.sub_self] at hx
      obtain rfl : y = x := by simpa using hx
      exact hy
theorem opens_slice {P : Program} {t e : TypeId} {α : Type} {d : Kd α} {ok : α → Prop} (e' : Nat) (ht : P.underlying t = some (.slice e)) (hc : P.cellsOf e = d.sz) (h : Opens P e d ok) :
    Opens P t (Kd.slice e' d) (fun l => l.length ≤ maxLen ∧ ∀ x ∈ l, ok x) := by
  intro H enc w base spare held fuel cs x hx
  rcases open_slice ht hx with ⟨rfl, _⟩ | ⟨a, len, cap, m, n, D, Pl, rfl, _, hl, hm, hmm, _, hi⟩
  · refine ⟨[], ⟨none, 0, rfl, Nat.le_refl _, ⟨rfl, by simp, fun h0 => by simp at h0⟩⟩, by simp, fun x hx => by simp at hx⟩
  · have hlm : len ≤ m := by rw [hmm]; split <;> omega
    obtain ⟨l, hll, hp⟩ := exists_list (p := fun i y => ok y ∧ ∃ cs', d.K w y cs' ∧ w.cells? base (a.add (i * P.cellsOf e)) (P.cellsOf e) = some cs') len (fun i hil => by
      obtain ⟨cs', hcs, htr⟩ := hi i (by omega)
      obtain ⟨y, hy, hoky⟩ := h H enc w base spare held n cs' _ htr
      exact ⟨y, hoky, cs', hy, hcs⟩)
    refine ⟨l, ⟨some a, cap, by rw [hll], by omega, ⟨rfl, by rw [hll]; simp only [maxLen] at hm; omega, fun _ => ⟨a, rfl, fun j p hj => ?_⟩⟩⟩, by rw [hll]; omega, fun x hx => ?_⟩
    · obtain ⟨_, cs', hK, hcs⟩ := hp j p hj
      refine ⟨cs', d.K_len hK, hK, fun i u hu => ?_⟩
      obtain ⟨_, hcl, hat⟩ := World.cells?_some hcs
      have hiu := (List.getElem?_eq_some_iff.1 hu).1
      have := hat i (by omega)
      rw [Go.Deep.add_add, hc] at this
      rw [this, hu]
    · obtain ⟨i, hil, rfl⟩ := List.mem_iff_getElem.1 hx
      exact (hp i _ (List.getElem?_eq_getElem hil)).1
/-- The cells of fields, one behind the other. -/
def Fields (P : Program) (H : Type) (enc : TypeId × Value → H) (w : World) (base : Nat) (spare : Nat → Bool) (held : Bool) (n : Nat) : List TypeId → List Value → Prop
  | [], cs => cs = []
  | t :: ts, cs => ∃ c1 c2, cs = c1 ++ c2 ∧ (∃ y, DataW.trod enc P w base spare held n t c1 = some y) ∧ Fields P H enc w base spare held n ts c2
def laidFrom (P : Program) (total : Nat) : Nat → List Field → Bool
  | o, [] => decide (o = total)
  | o, f :: l => decide (f.offset = o) && laidFrom P total (o + P.cellsOf f.type) l
def OpensF (P : Program) (ts : List TypeId) {α : Type} (d : Kd α) (ok : α → Prop) : Prop :=
  ∀ (H : Type) (enc : TypeId × Value → H) (w : World) (base : Nat) (spare : Nat → Bool) (held : Bool) (n : Nat) (cs : List Value),
    Fields P H enc w base spare held n ts cs → ∃ a, d.K w a cs ∧ ok a
theorem opensF_one {P : Program} {t : TypeId} {α : Type} {d : Kd α} {ok : α → Prop} (h : Opens P t d ok) : OpensF P [t] d ok := by
  rintro H enc w base spare held n cs ⟨c1, c2, rfl, ⟨y, hy⟩, rfl⟩
  rw [List.append_nil]
  exact h H enc w base spare held n c1 y hy
theorem opensF_cons {P : Program} {t : TypeId} {ts : List TypeId} {α β : Type} {d : Kd α} {d' : Kd β} {ok : α → Prop} {ok' : β → Prop} (h : Opens P t d ok) (h' : OpensF P ts d' ok') :
    OpensF P (t :: ts) (Kd.pair d d') (fun x => ok x.1 ∧ ok' x.2) := by
  rintro H enc w base spare held n cs ⟨c1, c2, rfl, ⟨y, hy⟩, hf⟩
  obtain ⟨a, ha, hoa⟩ := h H enc w base spare held n c1 y hy
  obtain ⟨b, hb, hob⟩ := h' H enc w base spare held n c2 hf
  exact ⟨(a, b), ⟨c1, c2, rfl, ha, hb⟩, hoa, hob⟩
theorem fields_from {P : Program} {H : Type} {enc : TypeId × Value → H} {w : World} {base : Nat} {spare : Nat → Bool} {held : Bool} {n total : Nat} {cs : List Value} (hcs : cs.length = total) (l : List Field) :
    ∀ o, laidFrom P total o l = true → (∀ f ∈ l, ∃ y, DataW.trod enc P w base spare held n f.type ((cs.drop f.offset).take (P.cellsOf f.type)) = some y) → Fields P H enc w base spare held n (l.map (·.type)) (cs.drop o) := by
  induction l with
  | nil =>
    intro o ho _
    have : o = total := by simpa [laidFrom] using ho
    show cs.drop o = []
    exact List.drop_eq_nil_of_le (by omega)
  | cons f l ih =>
    intro o ho hf
    simp only [laidFrom, Bool.and_eq_true, decide_eq_true_eq] at ho
    obtain ⟨y, hy⟩ := hf f (by simp)
    refine ⟨(cs.drop o).take (P.cellsOf f.type), cs.drop (o + P.cellsOf f.type), ?_, ⟨y, by rw [← ho.1]; exact hy⟩, ih _ ho.2 (fun g hg => hf g (by simp [hg]))⟩
    rw [← List.drop_drop, List.take_append_drop]
theorem opens_struct {P : Program} {t : TypeId} {fs : Array Field} {α β : Type} {d : Kd α} {ok : α → Prop} (f : β → α) (g : α → β) (hfg : ∀ a, f (g a) = a) (ht : P.underlying t = some (.struct fs))
    (hl : laidFrom P (P.cellsOf t) 0 fs.toList = true) (h : OpensF P (fs.toList.map (·.type)) d ok) : Opens P t (Kd.iso d f) (fun b => ok (f b)) := by
  intro H enc w base spare held fuel cs x hx
  obtain ⟨xs, n, _, _, hcs, hxl, hat⟩ := DataW.trod_struct ht hx
  have hF := fields_from (P := P) (enc := enc) (w := w) (base := base) (spare := spare) (held := held) (n := n) hcs fs.toList 0 hl (fun q hq => by
    obtain ⟨i, hi, rfl⟩ := List.mem_iff_getElem.1 hq
    have hi' : i < fs.size := by simpa using hi
    have := hat i fs[i] (Array.getElem?_eq_getElem hi')
    rw [List.getElem?_eq_getElem (by omega)] at this
    exact ⟨_, by simpa using this⟩)
  obtain ⟨a, ha, hoa⟩ := h H enc w base spare held n _ hF
  rw [List.drop_zero] at ha
  exact ⟨g a, by show d.K w (f (g a)) cs; rw [hfg]; exact ha, by show ok (f (g a)); rw [hfg]; exact hoa⟩
end Go.Proofs.Ytgjajalneknagaa.Hm
end
section
/- Bytes, strings and numbers as plain lists; slices.Clone of bytes; conditions: those that each theorem names. -/
namespace Go.Proofs.Ytgjajalneknagaa.Hm
open Go.RowKit Go.Proofs.YtgjajalneknagaaW.PrintWords Go.Proofs.YtgjajalneknagaaW.PrintLast Go.Proofs.YtgjajalneknagaaW.PrintMore
set_option linter.unusedVariables false
set_option linter.unusedSimpArgs false

def bytesB (l : List Int) : Bool := l.all fun x => decide (0 ≤ x) && decide (x < 256)
theorem bytesB_iff (l : List Int) : bytesB l = true ↔ ∀ x ∈ l, 0 ≤ x ∧ x < 256 := by
  simp [bytesB]
def be32 (x : Int) : List Int := [x / 16777216 % 256, x / 65536 % 256, x / 256 % 256, x % 256]
theorem size_strOfNums (l : List Int) : (strOfNums l).size = l.length := by
  show ((l.map fun n => UInt8.ofNat n.toNat).toArray).size = _
  simp
theorem bytesOf_strOfNums (l : List Int) (h : bytesB l = true) : bytesOf (strOfNums l) = l := by
  have h' := (bytesB_iff l).1 h
  unfold bytesOf
  rw [strOfNums_data, List.map_map]
  conv => rhs; rw [← List.map_id l]
  apply List.map_congr_left
  intro x hx
  have := h' x hx
  simp only [Function.comp, id, UInt8.toNat_ofNat']
  omega
theorem bytesOf_range (s : ByteArray) : bytesB (bytesOf s) = true := by
  rw [bytesB_iff]
  intro x hx
  simp only [bytesOf, List.mem_map] at hx
  obtain ⟨b, _, rfl⟩ := hx
  have := b.toNat_lt
  omega
theorem bt_rd (s : ByteArray) (i : Int) : bt s i = rd (bytesOf s) i := (rd_bytesOf s i).symm
theorem bytesOf_inj (s t : ByteArray) (h : bytesOf s = bytesOf t) : s = t := by
  have h1 : s.data.toList = t.data.toList := by
    unfold bytesOf at h
    have hi : Function.Injective (fun b : UInt8 => (b.toNat : Int)) := fun a b hab => UInt8.toNat_inj.1 (Int.ofNat_inj.1 hab)
    exact List.map_inj_right (fun a b hab => hi hab) |>.1 h
  have h2 : s.data = t.data := by
    rw [← Array.toArray_toList (xs := s.data), ← Array.toArray_toList (xs := t.data), h1]
  cases s; cases t; simp_all
theorem toList_iff (s t : ByteArray) : s.toList = t.toList ↔ bytesOf s = bytesOf t := by
  rw [ByteArray.toList_eq, ByteArray.toList_eq]
  constructor
  · intro h; unfold bytesOf; rw [h]
  · intro h; rw [bytesOf_inj s t h]
theorem bytesOf_append (s t : ByteArray) : bytesOf (s ++ t) = bytesOf s ++ bytesOf t := by
  unfold bytesOf
  rw [show (s ++ t).data.toList = s.data.toList ++ t.data.toList by simp, List.map_append]
theorem strOfNums_bytesOf (s : ByteArray) : strOfNums (bytesOf s) = s := bytesOf_inj _ _ (bytesOf_strOfNums _ (bytesOf_range s))
theorem bytesB_append (a b : List Int) : bytesB (a ++ b) = (bytesB a && bytesB b) := by simp [bytesB]
theorem bytesB_be32 (x : Int) (h0 : 0 ≤ x) (h1 : x < 4294967296) : bytesB (be32 x) = true := by
  rw [bytesB_iff]
  intro y hy
  simp only [be32, List.mem_cons, List.not_mem_nil, or_false] at hy
  omega
theorem bytesB_of_wf (l : List Int) (h : ∀ x ∈ l, (Lit.int .u8 x).wf = true) : bytesB l = true := by
  rw [bytesB_iff]
  intro x hx
  have := h x hx
  simp [Lit.wf] at this
  simp [IntKind.min, IntKind.max, IntKind.bits, IntKind.signed] at this
  omega
theorem u32_of_wf (x : Int) (h : (Lit.int .u32 x).wf = true) : 0 ≤ x ∧ x < 4294967296 := by
  simp [Lit.wf] at h
  simp [IntKind.min, IntKind.max, IntKind.bits, IntKind.signed] at h
  omega
theorem u8_of_wf (x : Int) (h : (Lit.int .u8 x).wf = true) : 0 ≤ x ∧ x < 256 := by
  simp [Lit.wf] at h
  simp [IntKind.min, IntKind.max, IntKind.bits, IntKind.signed] at h
  omega
theorem u64_of_wf (x : Int) (h : (Lit.int .u64 x).wf = true) : 0 ≤ x ∧ x < 18446744073709551616 := by
  simp [Lit.wf] at h
  simp [IntKind.min, IntKind.max, IntKind.bits, IntKind.signed] at h
  omega
/-- slices.Clone of bytes. -/
def slices_Clone.f (l : List Int) : Option (List Int) := if l.length ≤ 140737488355327 then some l else none
set_option maxHeartbeats 1000000 in
theorem slices_Clone.calls (A0 : Option Addr) (c0 : Nat) (l0 : List Int) (r : List Int) (w : World) (hr0 : Kd.C (Kd.int .u8) w A0 l0.length l0) (hc0 : l0.length ≤ c0) (h : slices_Clone.f l0 = some r) :
    Calls Try.prog 25 #[.slice A0 l0.length c0] w fun e w' => ∃ v0_ : Value, e = .returned v0_ ∧ Kd.R (Kd.int .u8) 5 w' w.heap.size (fun _ => True) v0_ r ∧ Below w.heap.size w w' := by
  unfold slices_Clone.f at h
  by_cases hl : l0.length ≤ 140737488355327
  · rw [if_pos hl] at h
    obtain rfl := Option.some.inj h
    clear h
    have HR := Aside0.mk hr0
    clear hr0
    have hn := fun (w : World) => Lib.run_eql_slice_nil (P := Try.prog) w 38 5 A0 l0.length c0 0 0 Try.underlying38
    cases A0 with
    | none =>
      have e : l0.length = 0 := by
        rcases Nat.eq_zero_or_pos l0.length with h0 | h0
        · exact h0
        · obtain ⟨ad, h1, _⟩ := Kd.at_int HR.out 0 (by omega) (by omega)
          cases h1
      have e' : l0 = [] := List.eq_nil_of_length_eq_zero e
      subst e'
      clear hn
      have hn := fun (w : World) => Lib.run_eql_slice_nil (P := Try.prog) w 38 5 none 0 c0 0 0 Try.underlying38
      go_enter Try.func25, Try.ntmps25
      go_wp2
      go_ret
      exact ⟨_, rfl, Kd.R_nil _ _ _ _ _, Below.refl _ _⟩
    | some ad =>
      go_enter Try.func25, Try.ntmps25
      go_wp2_with (first | ((with_reducible refine gate_dst (N := 5) rfl ?_); refine Kd.R_lit (Kd.int .u8) (w0 := w) w.heap.size 5 ?hg (N := 5) ?hd (xs := []) (inner := []) (ok := fun _ => True) (okp := fun _ => True) ?hr (Reps.none _ _) (fun _ hk => hk) trivial (Below.refl _ _) (Nat.le_refl _) (by simp) ?_; (case hd => rfl); (case hg => rfl); (case hr => first | (go_simp; done) | (go_simp; rfl)); intro v5 w1 hro hb1 hg1 hat1; have HRO := Aside0.mk hro; have HB := Aside0.mk hb1; clear hro hb1 hg1 hat1) | (at_builtin; refine Kd.R_append_row (Value.int .u8) 0 (w0 := w) w.heap.size rfl (.tmp 5) (.tmp 6) 38 5 (.int .u8 0) 1 rfl Try.underlying38 infoB rfl (by decide) v5 [] l0 (some ad) l0.length c0 (fun _ => True) rfl rfl (fun _ _ => trivial) HRO.out (Kd.C_below HR.out HB.out) HB.out HB.out.size (by simp; omega) ?_; intro v7 w2 hro hb2 hg2 hat2; have HRO2 := Aside0.mk hro; have HB2 := Aside0.mk hb2; clear hro hb2 hg2 hat2))
      go_ret
      exact ⟨_, rfl, HRO2.out, HB2.out⟩
  · rw [if_neg hl] at h
    cases h


/-- Eight bytes of a number. -/
def be64 (x : Int) : List Int := be32 (x / 4294967296) ++ be32 (x % 4294967296)
def numN (x : Int) (l : List Int) : Int := l.foldl (fun x c => x * 256 + c) x
/-- The lowest k bytes of a number, the highest first. -/
def beR (x : Int) : Nat → List Int
  | 0 => []
  | k + 1 => (x / 2 ^ (8 * k) % 256) :: beR x k
theorem beR_4 (x : Int) : beR x 4 = be32 x := by simp [beR, be32]
theorem beR_8 (x : Int) (h0 : 0 ≤ x) (h1 : x < 18446744073709551616) : beR x 8 = be64 x := by
  simp only [beR, be64, be32, List.cons_append, List.nil_append, List.cons.injEq]
  refine ⟨?_, ?_, ?_, ?_, ?_, ?_, ?_, ?_, trivial⟩ <;> (simp only [Nat.reduceMul, Int.reducePow]; try omega)
theorem bytesB_take (l : List Int) (k : Nat) (h : bytesB l = true) : bytesB (l.take k) = true := (bytesB_iff _).2 fun x hx => (bytesB_iff l).1 h x (List.mem_of_mem_take hx)
theorem bytesB_zeros (n : Nat) : bytesB (List.replicate n 0) = true := by
  rw [bytesB_iff]
  intro x hx
  rw [List.mem_replicate] at hx
  omega
theorem bytesB_be64 (x : Int) (h0 : 0 ≤ x) (h1 : x < 18446744073709551616) : bytesB (be64 x) = true := by
  unfold be64
  rw [bytesB_append, bytesB_be32 _ (by omega) (by omega), bytesB_be32 _ (by omega) (by omega)]
  rfl
theorem str_append (a b : List Int) (ha : bytesB a = true) (hb : bytesB b = true) : strOfNums a ++ strOfNums b = strOfNums (a ++ b) := by
  apply bytesOf_inj
  rw [bytesOf_append, bytesOf_strOfNums a ha, bytesOf_strOfNums b hb, bytesOf_strOfNums (a ++ b) (by rw [bytesB_append, ha, hb]; rfl)]
theorem rd_at (l : List Int) (k : Nat) (h : k < l.length) : rd l (k : Int) = l[k] := by simp [rd, h]
theorem rd_range (l : List Int) (h : bytesB l = true) (j : Nat) (hj : j < l.length) : 0 ≤ rd l (j : Int) ∧ rd l (j : Int) < 256 := by
  rw [rd_at l j hj]
  exact (bytesB_iff l).1 h _ (List.getElem_mem _)
/-- Bytes, with how many they are, filled up to four. -/
def opq (l : List Int) : List Int := be32 l.length ++ l ++ List.replicate ((4 - l.length % 4) % 4) 0
end Go.Proofs.Ytgjajalneknagaa.Hm
end
section
/- The Go type xdr.Writer: its functions append bytes to what was put; conditions: those that each theorem names. -/
namespace Go.Proofs.Ytgjajalneknagaa.Hm
open Go.RowKit Go.Proofs.YtgjajalneknagaaW.PrintWords Go.Proofs.YtgjajalneknagaaW.PrintLast Go.Proofs.YtgjajalneknagaaW.PrintMore
set_option linter.unusedVariables false
set_option linter.unusedSimpArgs false

/-- Block p is a writer that has put the bytes xs; all that it writes lies from block B on, and, but for p, in blocks of S. -/
structure Wr (w : World) (B p : Nat) (S : Nat → Prop) (xs : List Int) : Prop where
  le : B ≤ p
  ex : ∃ v, w.heap[p]? = some (.cells #[v] 124 (0, 0)) ∧ Kd.R (Kd.int .u8) 5 w B S v xs
  by_ : bytesB xs = true
theorem Wr.lt {w : World} {B p : Nat} {S : Nat → Prop} {xs : List Int} (h : Wr w B p S xs) : p < w.heap.size := by
  obtain ⟨v, hb, _⟩ := h.ex
  exact blk_lt hb
theorem Wr.below {w w' : World} {B p : Nat} {S : Nat → Prop} {xs : List Int} (h : Wr w B p S xs) (hb : Below w.heap.size w w') : Wr w' B p S xs := by
  obtain ⟨v, h1, h2⟩ := h.ex
  exact ⟨h.le, ⟨v, blk_below h1 hb, Kd.R_below h2 hb⟩, h.by_⟩
theorem Wr.mono {w : World} {B p : Nat} {S S' : Nat → Prop} {xs : List Int} (h : Wr w B p S xs) (hs : ∀ k, S k → S' k) : Wr w B p S' xs := by
  obtain ⟨v, h1, h2⟩ := h.ex
  exact ⟨h.le, ⟨v, h1, Kd.R_mono h2 hs⟩, h.by_⟩
/-- What was made since is none of its rows. -/
theorem Wr.apart {w w' : World} {B p : Nat} {S : Nat → Prop} {xs : List Int} (h : Wr w B p S xs) (hb : Below w.heap.size w w') : Wr w' B p (fun k => k < w.heap.size ∨ w'.heap.size ≤ k) xs := by
  obtain ⟨v, h1, h2⟩ := h.ex
  exact ⟨h.le, ⟨v, blk_below h1 hb, Kd.R_below (Kd.R_mono (Kd.R_bound h2) (fun k hk => .inl hk.2.2.1)) hb⟩, h.by_⟩
theorem Wr.len {w : World} {B p : Nat} {S : Nat → Prop} {xs ys : List Int} (h : Wr w B p S xs) (e : xs = ys) : Wr w B p S ys := e ▸ h
theorem Wr.stored {w : World} {B p n c : Nat} {S : Nat → Prop} {xs : List Int} {A : Option Addr} {v : Value} (hbk : w.heap[p]? = some (.cells #[v] 124 (0, 0))) (hr : Kd.R (Kd.int .u8) 5 w B S (.slice A xs.length c) xs) (hle : B ≤ p) (hb : bytesB xs = true) (hn : n = xs.length) :
    Wr (w.setCell ⟨p, 0, none⟩ (.slice A n c)) B p S xs := by
  subst hn
  exact ⟨hle, ⟨_, blk_set hbk 0 _, Kd.R_set hr hbk (by simp [Kd.int, Kd.scalar]) 0 _⟩, hb⟩
theorem below_out {B p : Nat} {w W : World} (h : Below B w W) (hp : B ≤ p) (j : Nat) (v : Value) : Below B w (W.setCell ⟨p, j, none⟩ v) := h.setCell hp v
theorem Kept.refl' (w : World) (S : Nat → Prop) : Kept w w S := ⟨Nat.le_refl _, fun _ _ _ => rfl⟩
theorem Kept.trans' {w w1 w2 : World} {S : Nat → Prop} (h : Kept w w1 S) (k : Kept w1 w2 S) : Kept w w2 S :=
  ⟨Nat.le_trans h.1 k.1, fun i hi hs => (k.2 i (Nat.lt_of_lt_of_le hi h.1) hs).trans (h.2 i hi hs)⟩
theorem Kept.grown' {w w1 w2 : World} {S : Nat → Prop} {v : Value} (h : Kept w w1 S) (hg : w1.grownBy w2 v.ownBlock) (hv : ∀ k, v.ownBlock = some k → S k) : Kept w w2 S :=
  ⟨Nat.le_trans h.1 hg.size, fun i hi hs => (hg.block i (Nat.lt_of_lt_of_le hi h.1) (fun e => hs (hv i e.symm))).trans (h.2 i hi hs)⟩
theorem Kept.put' {w w1 : World} {S : Nat → Prop} {p : Nat} (h : Kept w w1 S) (hp : S p) (j : Nat) (u : Value) : Kept w (w1.setCell ⟨p, j, none⟩ u) S :=
  ⟨by simpa [World.setCell] using h.1, fun i hi hs => (Below.heap_setCell w1 ⟨p, j, none⟩ u i (fun e => hs (e ▸ hp))).trans (h.2 i hi hs)⟩
theorem Kept.below' {w w1 w2 : World} {S : Nat → Prop} (h : Kept w w1 S) (hb : Below w1.heap.size w1 w2) : Kept w w2 S :=
  ⟨Nat.le_trans h.1 hb.size, fun i hi hs => (hb.block i (Nat.lt_of_lt_of_le hi h.1)).trans (h.2 i hi hs)⟩
set_option maxHeartbeats 1000000 in
theorem NewWriter_any (w : World) : Calls Try.prog 39 #[] w fun e w' => e = .returned (.pointer (some ⟨w.heap.size, 0, none⟩)) ∧ Wr w' w.heap.size w.heap.size (fun _ => True) [] ∧ Below w.heap.size w w' := by
  go_enter Try.func39, Try.ntmps39
  go_wp2
  go_ret
  exact ⟨rfl, ⟨Nat.le_refl _, ⟨_, blk_new _ _, Kd.R_nil _ _ _ _ _⟩, rfl⟩, below_alloc (Below.refl _ _) _⟩
set_option maxHeartbeats 2000000 in
set_option maxRecDepth 100000 in
theorem put32_any (B p : Nat) (S : Nat → Prop) (xs : List Int) (x : Int) (w : World) (hw : Wr w B p S xs) (hS : ∀ k, w.heap.size ≤ k → S k) (h0 : 0 ≤ x) (h1 : x < 4294967296) (hl : xs.length ≤ 140737488355000) :
    Calls Try.prog 54 #[.pointer (some ⟨p, 0, none⟩), .int .u32 x, .int .i64 4] w fun e w' => e = .returned (.tuple #[]) ∧ Wr w' B p S (xs ++ be32 x) ∧ Kept w w' (fun k => S k ∨ k = p) ∧ Below B w w' := by
  have HW := Aside0.mk hw
  have HS := Aside0.mk hS
  clear hw hS
  go_enter Try.func54, Try.ntmps54
  go_wp2
  go_loopg [2] 4 (fun kq v2 w' => ∃ ys : List Int, v2 = .int .i64 kq ∧ kq ≤ 4 ∧ Aside0 (Wr w' B p S (xs ++ ys)) ∧ Aside0 (ys ++ beR x kq = beR x 4) ∧ Aside0 (Kept w w' (fun k => S k ∨ k = p)) ∧ Aside0 (Below B w w'))
  case atStart => exact ⟨[], rfl, by omega, ⟨by rw [List.append_nil]; exact HW.out⟩, ⟨rfl⟩, ⟨Kept.refl' _ _⟩, ⟨Below.refl _ _⟩⟩
  case round =>
    obtain ⟨ys, rfl, hk4, HWi, HYi, HKi, HBi⟩ := hrel
    by_cases hk : gk = 0
    · subst hk
      have hy : ys = be32 x := by have h := HYi.out; rw [beR, List.append_nil, beR_4] at h; exact h
      have HY := Aside0.mk hy
      clear hy
      go_wp2
      go_end0
      exact ⟨rfl, by rw [← HY.out]; exact HWi.out, HKi.out, HBi.out⟩
    · obtain ⟨k, rfl⟩ : ∃ k, gk = k + 1 := ⟨gk - 1, by omega⟩
      have hd : decide ((0 : Int) < ((k + 1 : Nat) : Int)) = true := decide_eq_true (by omega)
      clear hk
      obtain ⟨v, hbk, hro⟩ := HWi.out.ex
      have HRO := Aside0.mk hro
      have HBK := Aside0.mk hbk
      have HNE := Aside0.mk (Kd.R_ne hro hbk (by decide))
      have hcl := blk_cell hbk 0
      have hfz := blk_frozen hbk 0
      have hal := blk_cell (blk_alloc hbk (.cells #[.int .u8 (x / 2 ^ (8 * k) % 256)] 5)) 0
      have hyl : ys.length ≤ 4 := by have h := congrArg List.length HYi.out; rw [List.length_append] at h; simp [beR] at h; omega
      clear hbk hro
      have hm8 : IntKind.i64.wrap (8 * (k : Int)) = 8 * (k : Int) := IntWalk.i64_in _ (by omega)
      have hp8 : 0 ≤ 8 * (k : Int) := by omega
      have hu8 : 8 * (k : Int) ≤ 32 := by omega
      have ht8 : (8 * (k : Int)).toNat = 8 * k := by omega
      have hq0 : 0 ≤ x / 2 ^ (8 * k) := Int.ediv_nonneg h0 (Int.le_of_lt (Int.pow_pos (by decide)))
      have hq1 : x / 2 ^ (8 * k) < 4294967296 := Int.lt_of_le_of_lt (Int.ediv_le_self _ h0) h1
      have hw8 : IntKind.u8.wrap (x / 2 ^ (8 * k)) = x / 2 ^ (8 * k) % 256 := by simp only [IntKind.wrap, IntKind.signed, IntKind.bits]; simp
      go_wp2
      go_region_law ((refine Kd.R_append_step (Kd.int .u8) (w0 := w) B (by rfl) _ _ 38 5 (.int .u8 0) 1 (by rfl) Try.underlying38 infoB rfl (by decide) (by decide) v (xs ++ ys) (x / 2 ^ (8 * k) % 256) [.int .u8 (x / 2 ^ (8 * k) % 256)] S (fun _ => False) (by rfl) (by rfl) rfl (fun _ hk => hk.elim) (fun k hk => HS.out k (Nat.le_trans HKi.out.1 (by simpa using hk))) (Kd.R_below HRO.out (below_drew1 (Below.refl _ _))) (below_drew1 HBi.out) (by have := HWi.out.le; have := HWi.out.lt; simp; omega) (by simp; omega) ?_; intro v1 w1 hr1 hb1 hg1 hat1; obtain ⟨A1, c1, e1⟩ := Kd.R_slice hr1; subst e1; have HR1 := Aside0.mk hr1; have HB1 := Aside0.mk hb1; have HK1 := Aside0.mk (Kept.grown' (v := v) (Kept.below' HKi.out (below_drew1 (Below.refl _ _))) hg1 (fun k hk => Or.inl (HRO.out.1 k hk))); have HBK1 := Aside0.mk (blk_grown (blk_drew HBK.out) hg1 HNE.out); have hcl1 := blk_cell HBK1.out 0; have hfz1 := blk_frozen HBK1.out 0; clear hr1 hb1 hg1 hat1))
      all_goals
        go_wp2
        go_roundg k
        case measure => omega
        case rel =>
          refine ⟨ys ++ [x / 2 ^ (8 * k) % 256], rfl, by omega, ⟨?_⟩, ⟨?_⟩, ⟨Kept.put' HK1.out (Or.inr rfl) _ _⟩, ⟨below_out HB1.out HWi.out.le _ _⟩⟩
          · rw [← List.append_assoc]
            exact Wr.stored HBK1.out HR1.out HWi.out.le (by rw [bytesB_append, HWi.out.by_]; simp [bytesB]; omega) (by simp)
          · rw [List.append_assoc]; exact HYi.out
set_option maxHeartbeats 2000000 in
set_option maxRecDepth 100000 in
theorem put64_any (B p : Nat) (S : Nat → Prop) (xs : List Int) (x : Int) (w : World) (hw : Wr w B p S xs) (hS : ∀ k, w.heap.size ≤ k → S k) (h0 : 0 ≤ x) (h1 : x < 18446744073709551616) (hl : xs.length ≤ 140737488355000) :
    Calls Try.prog 61 #[.pointer (some ⟨p, 0, none⟩), .int .u64 x, .int .i64 8] w fun e w' => e = .returned (.tuple #[]) ∧ Wr w' B p S (xs ++ be64 x) ∧ Kept w w' (fun k => S k ∨ k = p) ∧ Below B w w' := by
  have HW := Aside0.mk hw
  have HS := Aside0.mk hS
  clear hw hS
  go_enter Try.func61, Try.ntmps61
  go_wp2
  go_loopg [2] 8 (fun kq v2 w' => ∃ ys : List Int, v2 = .int .i64 kq ∧ kq ≤ 8 ∧ Aside0 (Wr w' B p S (xs ++ ys)) ∧ Aside0 (ys ++ beR x kq = beR x 8) ∧ Aside0 (Kept w w' (fun k => S k ∨ k = p)) ∧ Aside0 (Below B w w'))
  case atStart => exact ⟨[], rfl, by omega, ⟨by rw [List.append_nil]; exact HW.out⟩, ⟨rfl⟩, ⟨Kept.refl' _ _⟩, ⟨Below.refl _ _⟩⟩
  case round =>
    obtain ⟨ys, rfl, hk4, HWi, HYi, HKi, HBi⟩ := hrel
    by_cases hk : gk = 0
    · subst hk
      have hy : ys = be64 x := by have h := HYi.out; rw [beR, List.append_nil, beR_8 x h0 h1] at h; exact h
      have HY := Aside0.mk hy
      clear hy
      go_wp2
      go_end0
      exact ⟨rfl, by rw [← HY.out]; exact HWi.out, HKi.out, HBi.out⟩
    · obtain ⟨k, rfl⟩ : ∃ k, gk = k + 1 := ⟨gk - 1, by omega⟩
      have hd : decide ((0 : Int) < ((k + 1 : Nat) : Int)) = true := decide_eq_true (by omega)
      clear hk
      obtain ⟨v, hbk, hro⟩ := HWi.out.ex
      have HRO := Aside0.mk hro
      have HBK := Aside0.mk hbk
      have HNE := Aside0.mk (Kd.R_ne hro hbk (by decide))
      have hcl := blk_cell hbk 0
      have hfz := blk_frozen hbk 0
      have hal := blk_cell (blk_alloc hbk (.cells #[.int .u8 (x / 2 ^ (8 * k) % 256)] 5)) 0
      have hyl : ys.length ≤ 8 := by have h := congrArg List.length HYi.out; rw [List.length_append] at h; simp [beR] at h; omega
      clear hbk hro
      have hm8 : IntKind.i64.wrap (8 * (k : Int)) = 8 * (k : Int) := IntWalk.i64_in _ (by omega)
      have hp8 : 0 ≤ 8 * (k : Int) := by omega
      have hu8 : 8 * (k : Int) ≤ 64 := by omega
      have ht8 : (8 * (k : Int)).toNat = 8 * k := by omega
      have hq0 : 0 ≤ x / 2 ^ (8 * k) := Int.ediv_nonneg h0 (Int.le_of_lt (Int.pow_pos (by decide)))
      have hq1 : x / 2 ^ (8 * k) < 18446744073709551616 := Int.lt_of_le_of_lt (Int.ediv_le_self _ h0) h1
      have hw8 : IntKind.u8.wrap (x / 2 ^ (8 * k)) = x / 2 ^ (8 * k) % 256 := by simp only [IntKind.wrap, IntKind.signed, IntKind.bits]; simp
      go_wp2
      go_region_law ((refine Kd.R_append_step (Kd.int .u8) (w0 := w) B (by rfl) _ _ 38 5 (.int .u8 0) 1 (by rfl) Try.underlying38 infoB rfl (by decide) (by decide) v (xs ++ ys) (x / 2 ^ (8 * k) % 256) [.int .u8 (x / 2 ^ (8 * k) % 256)] S (fun _ => False) (by rfl) (by rfl) rfl (fun _ hk => hk.elim) (fun k hk => HS.out k (Nat.le_trans HKi.out.1 (by simpa using hk))) (Kd.R_below HRO.out (below_drew1 (Below.refl _ _))) (below_drew1 HBi.out) (by have := HWi.out.le; have := HWi.out.lt; simp; omega) (by simp; omega) ?_; intro v1 w1 hr1 hb1 hg1 hat1; obtain ⟨A1, c1, e1⟩ := Kd.R_slice hr1; subst e1; have HR1 := Aside0.mk hr1; have HB1 := Aside0.mk hb1; have HK1 := Aside0.mk (Kept.grown' (v := v) (Kept.below' HKi.out (below_drew1 (Below.refl _ _))) hg1 (fun k hk => Or.inl (HRO.out.1 k hk))); have HBK1 := Aside0.mk (blk_grown (blk_drew HBK.out) hg1 HNE.out); have hcl1 := blk_cell HBK1.out 0; have hfz1 := blk_frozen HBK1.out 0; clear hr1 hb1 hg1 hat1))
      all_goals
        go_wp2
        go_roundg k
        case measure => omega
        case rel =>
          refine ⟨ys ++ [x / 2 ^ (8 * k) % 256], rfl, by omega, ⟨?_⟩, ⟨?_⟩, ⟨Kept.put' HK1.out (Or.inr rfl) _ _⟩, ⟨below_out HB1.out HWi.out.le _ _⟩⟩
          · rw [← List.append_assoc]
            exact Wr.stored HBK1.out HR1.out HWi.out.le (by rw [bytesB_append, HWi.out.by_]; simp [bytesB]; omega) (by simp)
          · rw [List.append_assoc]; exact HYi.out

theorem fill_any (n : Nat) (w : World) (h : n ≤ 140737488355328) : Calls Try.prog 55 #[.int .i64 (n : Int)] w fun e w' => e = .returned (.int .i64 (((4 - n % 4) % 4 : Nat) : Int)) ∧ w' = w := by
  have h1 : (n : Int) % 4 < 4 := Int.emod_lt_of_pos _ (by decide)
  have h2 : 0 ≤ (n : Int) % 4 := Int.emod_nonneg _ (by decide)
  go_enter Try.func55, Try.ntmps55
  go_wp2
  go_ret
  refine ⟨?_, rfl⟩
  refine congrArg (fun z => Ending.returned (.int .i64 z)) ?_
  omega
theorem U32_any (B p : Nat) (S : Nat → Prop) (xs : List Int) (x : Int) (w : World) (hw : Wr w B p S xs) (hS : ∀ k, w.heap.size ≤ k → S k) (h0 : 0 ≤ x) (h1 : x < 4294967296) (hl : xs.length ≤ 140737488355000) :
    Calls Try.prog 40 #[.pointer (some ⟨p, 0, none⟩), .int .u32 x] w fun e w' => e = .returned (.tuple #[]) ∧ Wr w' B p S (xs ++ be32 x) ∧ Kept w w' (fun k => S k ∨ k = p) ∧ Below B w w' := by
  go_enter Try.func40, Try.ntmps40
  go_wp2_with fail
  (with_reducible refine (put32_any B p S xs x w hw hS h0 h1 hl).mono ?_)
  rintro e w1 ⟨rfl, hw1, hk1, hb1⟩
  go_wp2
  go_end0
  exact ⟨rfl, hw1, hk1, hb1⟩
theorem U64_any (B p : Nat) (S : Nat → Prop) (xs : List Int) (x : Int) (w : World) (hw : Wr w B p S xs) (hS : ∀ k, w.heap.size ≤ k → S k) (h0 : 0 ≤ x) (h1 : x < 18446744073709551616) (hl : xs.length ≤ 140737488355000) :
    Calls Try.prog 50 #[.pointer (some ⟨p, 0, none⟩), .int .u64 x] w fun e w' => e = .returned (.tuple #[]) ∧ Wr w' B p S (xs ++ be64 x) ∧ Kept w w' (fun k => S k ∨ k = p) ∧ Below B w w' := by
  go_enter Try.func50, Try.ntmps50
  go_wp2_with fail
  (with_reducible refine (put64_any B p S xs x w hw hS h0 h1 hl).mono ?_)
  rintro e w1 ⟨rfl, hw1, hk1, hb1⟩
  go_wp2
  go_end0
  exact ⟨rfl, hw1, hk1, hb1⟩
theorem Out_any (B p : Nat) (S : Nat → Prop) (xs : List Int) (w : World) (hw : Wr w B p S xs) (hl : xs.length ≤ 140737488355000) :
    Calls Try.prog 43 #[.pointer (some ⟨p, 0, none⟩)] w fun e w' => ∃ v0_ : Value, e = .returned v0_ ∧ Kd.R (Kd.int .u8) 5 w' w.heap.size (fun _ => True) v0_ xs ∧ Below w.heap.size w w' := by
  obtain ⟨v, hbk, hro⟩ := hw.ex
  obtain ⟨A, c, e1, hc, hr⟩ := Kd.R_reads hro
  subst e1
  have HC := Aside0.mk hr
  have hcl := blk_cell hbk 0
  clear hro hr hw hbk
  go_enter Try.func43, Try.ntmps43
  go_wp2_with fail
  (with_reducible refine (slices_Clone.calls A c xs xs w HC.out hc (by unfold slices_Clone.f; rw [if_pos (by omega)])).mono ?_)
  rintro e w1 ⟨v0, rfl, h1, h2⟩
  go_wp2
  go_ret
  exact ⟨_, rfl, h1, h2⟩
set_option maxHeartbeats 2000000 in
set_option maxRecDepth 100000 in
theorem Opaque_any (B p : Nat) (S T : Nat → Prop) (xs : List Int) (A : Option Addr) (c : Nat) (l : List Int) (w : World) (hw : Wr w B p S xs) (hS : ∀ k, w.heap.size ≤ k → S k)
    (hF : Kd.F (Kd.int .u8) w T A l.length l) (hc : l.length ≤ c) (hT : ∀ k, T k → k < w.heap.size → ¬ (S k ∨ k = p)) (hb : bytesB l = true) (hl : xs.length ≤ 140737488000000) (hll : l.length ≤ 300000) :
    Calls Try.prog 41 #[.pointer (some ⟨p, 0, none⟩), .slice A l.length c] w fun e w' => e = .returned (.tuple #[]) ∧ Wr w' B p S (xs ++ opq l) ∧ Kept w w' (fun k => S k ∨ k = p) ∧ Below B w w' := by
  have HW := Aside0.mk hw
  have HS := Aside0.mk hS
  have HF := Aside0.mk hF
  have HT := Aside0.mk hT
  have HB := Aside0.mk hb
  clear hw hS hF hT hb
  go_enter Try.func41, Try.ntmps41
  go_wp2_with fail
  (with_reducible refine (U32_any B p S xs (l.length : Int) w HW.out HS.out (by omega) (by omega) (by omega)).mono ?_)
  rintro e w1 ⟨rfl, hw1, hk1, hb1⟩
  obtain ⟨v, hbk, hro⟩ := hw1.ex
  have HNE := Aside0.mk (Kd.R_ne hro hbk (by decide))
  have HRO := Aside0.mk hro
  have HBK := Aside0.mk hbk
  have HBY := Aside0.mk hw1.by_
  have HK1 := Aside0.mk hk1
  have HB1 := Aside0.mk hb1
  have HC := Aside0.mk (Kd.F_now (Kd.F_kept (Kd.F_bound HF.out) hk1 (fun k hk => HT.out k hk.1 hk.2)))
  have hcl := blk_cell hbk 0
  have hle := HW.out.le
  have hlt := HW.out.lt
  have hz1 := hk1.1
  have hbl : (be32 (l.length : Int)).length = 4 := rfl
  have HL := Aside0.mk hbl
  clear hw1 hk1 hb1 hbk hro hbl
  obtain ⟨zs, hzs⟩ : ∃ zs, xs ++ be32 (l.length : Int) = zs := ⟨_, rfl⟩
  have hzl : zs.length ≤ xs.length + 4 := by rw [← hzs, List.length_append, HL.out]; exact Nat.le_refl _
  rw [hzs] at HRO HBY
  have HZ := Aside0.mk hzs
  clear hzs
  go_wp2_with (first | (go_at_call 55; (with_reducible refine (fill_any l.length _ (by omega)).mono ?_); rintro e w' ⟨rfl, rfl⟩) | (at_builtin; refine Kd.R_append_row (Value.int .u8) 0 (w0 := w) B rfl (.tmp 15) (.tmp 16) 38 5 (.int .u8 0) 1 rfl Try.underlying38 infoB rfl (by decide) v zs l A l.length c S rfl rfl (fun k hk => HS.out k (by omega)) HRO.out HC.out HB1.out (by omega) (by omega) ?_; intro v17 w2 hro2 hb2 hg2 hat2; have HRO2 := Aside0.mk hro2; have HB2 := Aside0.mk hb2; have HBK2 := Aside0.mk (blk_grown HBK.out hg2 HNE.out); have HNE2 := Aside0.mk (Kd.R_ne hro2 HBK2.out (by decide)); have HK2 := Aside0.mk (Kept.grown' (v := v) HK1.out hg2 (fun k hk => Or.inl (HRO.out.1 k hk))); have hz2 := hg2.size; clear hro2 hb2 hg2 hat2 hcl) | (at_builtin; refine Kd.R_append_zeros (Kd.int .u8) (w0 := w) B rfl (.tmp 17) (.tmp 20) 38 3 5 (.int .u8 0) 1 rfl Try.underlying38 Try.underlying3 infoB rfl (by decide) (by decide) v17 (zs ++ l) 0 (((4 - l.length % 4) % 4 : Nat) : Int) S rfl rfl rfl (fun k hk => HS.out k (by omega)) HRO2.out (by omega) HB2.out (by omega) (by simp; omega) ?_; intro v21 w3 hro3 hb3 hg3 hat3; have HRO3 := Aside0.mk hro3; have HB3 := Aside0.mk hb3; have HBK3 := Aside0.mk (blk_grown HBK2.out hg3 HNE2.out); have HK3 := Aside0.mk (Kept.grown' (v := v17) HK2.out hg3 (fun k hk => Or.inl (HRO2.out.1 k hk))); obtain ⟨A3, c3, e3⟩ := Kd.R_slice hro3; subst e3; have hcl3 := blk_cell HBK3.out 0; have hfz3 := blk_frozen HBK3.out 0; clear hro3 hb3 hg3 hat3))
  go_end0
  refine ⟨rfl, Wr.len (Wr.stored HBK3.out HRO3.out hle (by rw [bytesB_append, bytesB_append, HBY.out, HB.out, bytesB_zeros]; rfl) (by simp; omega)) ?_, Kept.put' HK3.out (Or.inr rfl) _ _, below_out HB3.out hle _ _⟩
  rw [← HZ.out, opq, Int.toNat_natCast]
  simp only [List.append_assoc]
end Go.Proofs.Ytgjajalneknagaa.Hm
end
section
/- The Go type xdr.Reader: what its functions read of the bytes that are left, and the first error; conditions: those that each theorem names. -/
namespace Go.Proofs.Ytgjajalneknagaa.Hm
open Go.RowKit Go.Proofs.YtgjajalneknagaaW.PrintWords Go.Proofs.YtgjajalneknagaaW.PrintLast Go.Proofs.YtgjajalneknagaaW.PrintMore
set_option linter.unusedVariables false
set_option linter.unusedSimpArgs false

def failM (e n : Int) : Int := if e = 0 then n else e
/-- The next n bytes, what is left then, and the first error. -/
def takeM (xs : List Int) (e : Int) (n : Nat) : List Int × List Int × Int := if e ≠ 0 then ([], xs, e) else if xs.length < n then ([], xs, 10) else (xs.take n, xs.drop n, 0)
/-- The first error, or that bytes are left. -/
def endM (xs : List Int) (e : Int) : Int := if e ≠ 0 then e else if 0 < xs.length then 12 else 0
/-- A number of n bytes that is read. -/
def rdM (xs : List Int) (e : Int) (n : Nat) : Int × List Int × Int := (numN 0 (takeM xs e n).1, (takeM xs e n).2.1, (takeM xs e n).2.2)
theorem numN_range (l : List Int) (hb : bytesB l = true) : ∀ (x : Int) (n : Nat), 0 ≤ x → x < 256 ^ n → 0 ≤ numN x l ∧ numN x l < 256 ^ (n + l.length) := by
  induction l with
  | nil => intro x n h0 h1; exact ⟨h0, h1⟩
  | cons c l ih =>
    intro x n h0 h1
    have hc := (bytesB_iff (c :: l)).1 hb c (by simp)
    have hl : bytesB l = true := (bytesB_iff l).2 fun y hy => (bytesB_iff (c :: l)).1 hb y (by simp [hy])
    have h2 : x * 256 + c < 256 ^ (n + 1) := by rw [Int.pow_succ]; omega
    have h := ih hl (x * 256 + c) (n + 1) (by omega) h2
    refine ⟨h.1, ?_⟩
    rw [List.length_cons, show n + (l.length + 1) = n + 1 + l.length by omega]
    exact h.2
theorem rdM_range (xs : List Int) (e : Int) (n : Nat) (hb : bytesB xs = true) : 0 ≤ (rdM xs e n).1 ∧ (rdM xs e n).1 < 256 ^ n := by
  have h0 : ∀ m : Nat, (0 : Int) < 256 ^ m := fun m => Int.pow_pos (by decide)
  unfold rdM takeM
  split
  · exact ⟨by simp [numN], by simp [numN]; exact h0 n⟩
  · split
    · exact ⟨by simp [numN], by simp [numN]; exact h0 n⟩
    · have h := numN_range (xs.take n) (bytesB_take _ _ hb) 0 0 (by omega) (by omega)
      rw [Nat.zero_add, List.length_take, Nat.min_eq_left (by omega)] at h
      exact h
/-- Is a byte no nought? -/
def nzB (l : List Int) : Bool := l.any (fun c => decide (c ≠ 0))
/-- What is read as bytes, so many at most: the bytes, what is left, and the first error. -/
def opM (xs : List Int) (e : Int) (most : Int) : List Int × List Int × Int :=
  match rdM xs e 4 with
  | (n, ys, e1) =>
    if e1 ≠ 0 then ([], ys, e1) else if most < n then ([], ys, 13) else
      match takeM ys 0 (n.toNat + (4 - n.toNat % 4) % 4) with
      | (b, zs, e2) => if e2 ≠ 0 then ([], zs, e2) else if nzB (b.drop n.toNat) = true then ([], zs, 11) else (b.take n.toNat, zs, 0)
end Go.Proofs.Ytgjajalneknagaa.Hm
end
