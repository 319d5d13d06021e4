/- Go's strings.ContainsAny at the two bytes that part names, and dir.Name: whatever string comes in; conditions: those that each theorem names. -/
import Derived.Test.YtlpjchighfdomaaGs
namespace Go.Proofs.Ytlpjchighfdomaa.Hm
open Go.RowKit Go.Proofs.YtlpjchighfdomaaW.PrintWords Go.Proofs.YtlpjchighfdomaaW.PrintLast Go.Proofs.YtlpjchighfdomaaW.PrintMore
set_option linter.unusedVariables false
set_option linter.unusedSimpArgs false

theorem setZero (w : World) : (zeroValue 148).run Try.prog w = .ok (.agg (Array.replicate 256 (.bool false))) w := by
  obtain ⟨h1, h2⟩ := zero_of_info (P := Try.prog) (t := 148) (v := .agg (Array.replicate 256 (.bool false))) (n := 256) (by kernel_rfl)
  exact h1 w
theorem setSize : (Try.prog.info? 148).map (·.size) = some 256 := by kernel_rfl
theorem wp_loads {P : Program} {o : Oper} {a : Act} {w w' : World} {K : Act → World → Prop} {Q : Exit → Act → World → Prop} {t : TypeId} {x : Operand} {A v : Value} (ho : o.op = .load t x) (hx : a.eval x = A)
    (hr : (Instr.loadAt t A).run P w = .ok v w') (h : K (a.put o.dst v) w') : Oper.wp P o a w K Q := by
  have e : (execOp a.eval o).run P w = .ok (.value v) w' := by unfold execOp; simp [ho, hx, hr]
  unfold Oper.wp
  rw [e, Oper.upon_value]
  exact h
theorem wp_stores {P : Program} {o : Oper} {a : Act} {w w' : World} {K : Act → World → Prop} {Q : Exit → Act → World → Prop} {t : TypeId} {x y : Operand} {A v : Value} (ho : o.op = .store t x y) (hx : a.eval x = A) (hy : a.eval y = v)
    (hr : (Instr.storeAt t A v).run P w = .ok () w') (h : K (a.put o.dst undef) w') : Oper.wp P o a w K Q := by
  have e : (execOp a.eval o).run P w = .ok .skip w' := by unfold execOp; simp [ho, hx, hy, hr]
  unfold Oper.wp
  rw [e, Oper.upon_skip]
  exact h
set_option maxHeartbeats 4000000 in
set_option maxRecDepth 1000000 in
theorem makeSet_any (w : World) :
    Calls Try.prog 98 #[.string seps] w fun e w' => e = .returned (.tuple #[.agg (Lib.setCells seps.data.toList), .bool true]) ∧ w' = w.alloc (.cells (Lib.setCells seps.data.toList) 148) := by
  obtain ⟨chars, hch⟩ : ∃ x, seps = x := ⟨_, rfl⟩
  have HA : Aside0 (∀ (j : Nat) b, chars.data.toList[j]? = some b → b.toNat < 128) := ⟨by
    subst hch
    intro j b hb
    rcases j with _ | _ | j
    · obtain rfl : 47 = b := by simpa [seps] using hb
      decide
    · obtain rfl : 0 = b := by simpa [seps] using hb
      decide
    · simp [seps] at hb⟩
  have hcz : chars.size ≤ 2 := by subst hch; exact Nat.le_refl _
  rw [hch]
  clear hch
  go_enter Try.func98, Try.ntmps98
  go_wp2
  rw [show Try.zeroCells148 = Lib.setCells [] from by kernel_rfl]
  go_loopg [4] chars.size (fun g s4 wx => ∃ i : Nat, i + g = chars.size ∧ s4 = .int .i64 i ∧ wx = w.alloc (.cells (Lib.setCells (chars.data.toList.take i)) 148))
  case atStart => exact ⟨0, by omega, rfl, rfl⟩
  case round =>
    obtain ⟨i, hig, rfl, rfl⟩ := hrel
    cases gk with
    | zero =>
      obtain rfl : i = chars.size := by omega
      have hiz : ¬ ((chars.size : Int) < (chars.size : Int)) := by omega
      rw [show chars.data.toList.take chars.size = chars.data.toList from List.take_of_length_le (by rw [← Lib.size_eq]; exact Nat.le_refl _)]
      have hld := run_loadVar_new (P := Try.prog) w 148 (Lib.setCells chars.data.toList) 256 4 Try.underlying148 (by rw [Lib.setCells_size]; exact setSize)
      have hsz := Lib.setCells_size chars.data.toList
      have hla := run_loadAt_new (P := Try.prog) w 148 (Lib.setCells chars.data.toList) 256 4 Try.underlying148 (by rw [Lib.setCells_size]; exact setSize)
      have hsa := run_storeAt_new (P := Try.prog) w 148 (Lib.setCells chars.data.toList) (Lib.setCells chars.data.toList) (by rw [hsz]; exact setSize) rfl (Lib.setCells_one _)
      go_wp2
      refine wp_loads rfl rfl hla ?_
      go_wp2
      have hsc := run_storeCells_new (P := Try.prog) w 148 (Lib.setCells chars.data.toList) (Lib.setCells chars.data.toList) (by rw [hsz]; exact setSize) rfl (Lib.setCells_one _)
      simp only [Result.andThen, hsc]
      rw [Oper.upon_skip]
      go_wp2
      (try simp only [Exit.inBlock, Exit.then])
      refine bodyPost_ret (v := .tuple #[.agg (Lib.setCells chars.data.toList), .bool true]) ?_ rfl ⟨rfl, rfl⟩
      rw [results_cell_tmp rfl]
      simp [asAddr, Result.andThen, hld]
    | succ g =>
      have hi : i < chars.size := by omega
      have hiz : (i : Int) < (chars.size : Int) := by omega
      obtain ⟨x, hx⟩ : ∃ x : UInt8, chars[i]'hi = x := ⟨_, rfl⟩
      have hxl : chars.data.toList[i]? = some x := by rw [← hx]; exact Lib.data_getElem? chars i hi
      have hx128 : ¬ ((128 : Int) ≤ (x.toNat : Int)) := by have := HA.out i x hxl; omega
      have hx256 : (x.toNat : Int) < 256 := by have := HA.out i x hxl; omega
      have hcell := Lib.setCells_at (chars.data.toList.take i) x
      have Hx := Aside0.mk hxl
      clear hxl
      go_wp2
      go_roundg g
      case measure => omega
      case rel => exact ⟨i + 1, by omega, by go_num, by rw [List.take_add_one, Hx.out]; simp only [Option.toList]; rw [Lib.setCells_snoc]⟩
theorem setHas_any (b : Nat) (x : UInt8) (v : Bool) (w : World) (hc : w.cell? ⟨b, x.toNat, none⟩ = some (.bool v)) :
    Calls Try.prog 99 #[.pointer (some ⟨b, 0, none⟩), .int .u8 x.toNat] w fun e w' => e = .returned (.bool v) ∧ w' = w := by
  have hx256 : (x.toNat : Int) < 256 := by have := UInt8.toNat_lt x; omega
  go_enter Try.func99, Try.ntmps99
  go_wp2
  go_ret
  exact ⟨rfl, rfl⟩
theorem sepR_contains (x : UInt8) : seps.data.toList.contains x = sepR (x.toNat : Int) := by
  have key : ∀ m : Fin 256, seps.data.toList.contains (UInt8.ofNat m.val) = sepR ((UInt8.ofNat m.val).toNat : Int) := by decide +kernel
  have h := key ⟨x.toNat, x.toNat_lt⟩
  simpa using h
set_option maxHeartbeats 8000000 in
set_option maxRecDepth 1000000 in
theorem IndexAny_long (s : ByteArray) (w : World) (h8 : 8 < s.size) (hs : s.size ≤ 100000) :
    Calls Try.prog 93 #[.string s, .string seps] w fun e w' => (∃ z : Int, e = .returned (.int .i64 z) ∧ decide (0 ≤ z) = sepB (bytesOf s)) ∧ Below w.heap.size w w' := by
  have hemp : seps.toList.isEmpty = false := by decide +kernel
  have hn1 : ((seps.size : Int) == 1) = false := by decide +kernel
  have h8z : decide ((8 : Int) < (s.size : Int)) = true := decide_eq_true (by omega)
  obtain ⟨cells, hcs⟩ : ∃ x, Lib.setCells seps.data.toList = x := ⟨_, rfl⟩
  have hM := makeSet_any w
  rw [hcs] at hM
  have hsz : cells.size = 256 := by rw [← hcs]; exact Lib.setCells_size _
  have hone : cells.all (·.oneCell') = true := by rw [← hcs]; exact Lib.setCells_one _
  have HC : Aside0 (∀ x : UInt8, cells[x.toNat]? = some (.bool (sepR (x.toNat : Int)))) := ⟨fun x => by rw [← hcs, Lib.setCells_at, sepR_contains]⟩
  have hsc := run_storeCells_new (P := Try.prog) (w.alloc (.cells cells 148)) 148 Try.zeroCells148 cells (by rw [hsz]; exact setSize) (by rw [hsz]; kernel_rfl) hone
  have HSC := Aside0.mk hsc
  have HM := Aside0.mk hM
  clear hM hcs hone hsc
  go_enter Try.func93, Try.ntmps93
  go_wp2_with (first | (go_at_call 97; (with_reducible refine (useSet_any _ _).mono ?_); rintro e w1 ⟨rfl, rfl⟩) | (go_at_call 98; (with_reducible refine HM.out.mono ?_); rintro e w1 ⟨rfl, rfl⟩))
  have hsc := HSC.out
  rw [show (w1.alloc (.cells cells 148)).heap.size = w1.heap.size + 1 from by simp] at hsc
  simp only [Result.andThen, hsc]
  rw [Oper.upon_skip]
  clear hsc
  go_wp2
  have hbk := blk_new (w1.alloc (.cells cells 148)) (.cells cells 148)
  rw [show (w1.alloc (.cells cells 148)).heap.size = w1.heap.size + 1 from by simp] at hbk
  have HB := Aside0.mk (below_alloc (below_alloc (Below.refl w1.heap.size w1) (.cells cells 148)) (.cells cells 148))
  obtain ⟨W, hW⟩ : ∃ x, (w1.alloc (.cells cells 148)).alloc (.cells cells 148) = x := ⟨_, rfl⟩
  rw [hW] at hbk HB
  simp only [hW]
  have HBK := Aside0.mk hbk
  clear hW hbk HM HSC
  go_loopg [8] s.size (fun g s8 wx => ∃ i : Nat, i + g = s.size ∧ s8 = .int .i64 i ∧ wx = W ∧ Aside0 (sepB ((bytesOf s).take i) = false))
  case atStart => exact ⟨0, by omega, rfl, rfl, ⟨rfl⟩⟩
  case round =>
    obtain ⟨i, hig, rfl, rfl, HN⟩ := hrel
    by_cases hi : i < s.size
    · have hiz : (i : Int) < (s.size : Int) := by omega
      obtain ⟨x, hx⟩ : ∃ x : UInt8, s[i]'hi = x := ⟨_, rfl⟩
      have h5 := sepB_take s i hi
      rw [hx, HN.out, Bool.false_or] at h5
      have hcx : wr.cell? ⟨w1.heap.size + 1, x.toNat, none⟩ = some (.bool (sepR (x.toNat : Int))) := by rw [blk_cell HBK.out]; exact HC.out x
      cases hs : sepR (x.toNat : Int) with
      | true =>
        rw [hs] at h5 hcx
        have H5 := Aside0.mk h5
        clear hs h5
        go_wp2_with (go_at_call 99; (with_reducible refine (setHas_any _ x true _ hcx).mono ?_); rintro e w3 ⟨rfl, rfl⟩)
        go_ret
        exact ⟨⟨(i : Int), rfl, by rw [sepB_hit _ _ H5.out]; exact decide_eq_true (by omega)⟩, HB.out⟩
      | false =>
        rw [hs] at h5 hcx
        have H5 := Aside0.mk h5
        clear hs h5
        go_wp2_with (go_at_call 99; (with_reducible refine (setHas_any _ x false _ hcx).mono ?_); rintro e w3 ⟨rfl, rfl⟩)
        go_roundg (s.size - (i + 1))
        case measure => omega
        case rel => exact ⟨i + 1, by omega, by go_num, rfl, H5⟩
    · have hi2 : i = s.size := by omega
      subst hi2
      have hnn := HN.out
      rw [List.take_of_length_le (by rw [bytesOf_length]; exact Nat.le_refl _)] at hnn
      have HN2 := Aside0.mk hnn
      clear hnn
      go_wp2
      go_ret
      exact ⟨⟨-1, rfl, by rw [HN2.out]; rfl⟩, HB.out⟩
theorem ContainsSep_any (s : ByteArray) (w : World) (hs : s.size ≤ 100000) :
    Calls Try.prog 63 #[.string s, .string seps] w fun e w' => e = .returned (.bool (sepB (bytesOf s))) ∧ Below w.heap.size w w' := by
  have HI : Aside0 (Calls Try.prog 93 #[.string s, .string seps] w fun e w' => (∃ z : Int, e = .returned (.int .i64 z) ∧ decide (0 ≤ z) = sepB (bytesOf s)) ∧ Below w.heap.size w w') := ⟨by
    by_cases h8 : s.size ≤ 8
    · exact IndexAny_short s w h8
    · exact IndexAny_long s w (by omega) hs⟩
  go_enter Try.func63, Try.ntmps63
  go_wp2_with fail
  (with_reducible refine HI.out.mono ?_)
  rintro e w1 ⟨⟨z, rfl, hz⟩, hb⟩
  have HB := Aside0.mk hb
  clear hb HI
  cases hn : sepB (bytesOf s) with
  | true =>
    rw [hn] at hz
    go_wp2
    go_ret
    exact ⟨by rw [hn]; rfl, HB.out⟩
  | false =>
    rw [hn] at hz
    go_wp2
    go_ret
    exact ⟨by rw [hn]; rfl, HB.out⟩
/-- May a name be? -/
def nameB (l : List Int) : Bool := decide (1 ≤ l.length) && (decide (l.length ≤ 24) && (!sepB l && (decide (l ≠ [46]) && decide (l ≠ [46, 46]))))
def nameE (l : List Int) : Int := if nameB l = true then 0 else 67
set_option maxHeartbeats 2000000 in
set_option maxRecDepth 100000 in
theorem Name_any (s : ByteArray) (w : World) :
    Calls Try.prog 24 #[.string s] w fun e w' => e = .returned (.int .i64 (nameE (bytesOf s))) ∧ Below w.heap.size w w' := by
  have hbl := bytesOf_length s
  by_cases h0 : s.size = 0
  · have hnil : bytesOf s = [] := List.eq_nil_of_length_eq_zero (by rw [hbl]; exact h0)
    have hemp : s.toList.isEmpty = true := by rw [(toList_iff s ⟨#[]⟩).2 hnil]; decide +kernel
    have HE : Aside0 (nameE (bytesOf s) = 67) := ⟨by rw [hnil]; rfl⟩
    clear h0 hnil hbl
    go_enter Try.func24, Try.ntmps24
    go_wp2
    go_ret
    exact ⟨by rw [HE.out]; rfl, Below.refl _ _⟩
  · have hemp : s.toList.isEmpty = false := by
      rw [ByteArray.toList_eq, List.isEmpty_eq_false_iff]
      intro h
      apply h0
      have := congrArg List.length h
      simpa using this
    by_cases h24 : s.size ≤ 24
    · have hd : decide ((24 : Int) < (s.size : Int)) = false := decide_eq_false (by omega)
      have hC := ContainsSep_any s w (by omega)
      unfold seps at hC
      have HC := Aside0.mk hC
      clear hC
      cases hsp : sepB (bytesOf s) with
      | true =>
        rw [hsp] at HC
        have HE : Aside0 (nameE (bytesOf s) = 67) := ⟨by unfold nameE nameB; rw [hsp]; simp⟩
        clear hsp h0 hbl
        go_enter Try.func24, Try.ntmps24
        go_wp2_with (go_at_call 63; (with_reducible refine HC.out.mono ?_); rintro e w1 ⟨rfl, hb⟩; have HB := Aside0.mk hb; clear hb)
        go_ret
        exact ⟨by rw [HE.out]; rfl, HB.out⟩
      | false =>
        rw [hsp] at HC
        have q1 : s.toList = [46] ↔ bytesOf s = [46] := by have h := toList_iff s ⟨#[46]⟩; rwa [show (⟨#[46]⟩ : ByteArray).toList = [46] from by decide +kernel, show bytesOf ⟨#[46]⟩ = [46] from by decide +kernel] at h
        have q2 : s.toList = [46, 46] ↔ bytesOf s = [46, 46] := by have h := toList_iff s ⟨#[46, 46]⟩; rwa [show (⟨#[46, 46]⟩ : ByteArray).toList = [46, 46] from by decide +kernel, show bytesOf ⟨#[46, 46]⟩ = [46, 46] from by decide +kernel] at h
        by_cases hdot : bytesOf s = [46]
        · have HE : Aside0 (nameE (bytesOf s) = 67) := ⟨by rw [hdot]; decide⟩
          have e1 : s.toList = [46] := q1.2 hdot
          have e2 : (s.toList == [46]) = true := beq_iff_eq.2 e1
          clear hsp h0 hbl hdot q1 q2
          go_enter Try.func24, Try.ntmps24
          go_wp2_with (go_at_call 63; (with_reducible refine HC.out.mono ?_); rintro e w1 ⟨rfl, hb⟩; have HB := Aside0.mk hb; clear hb)
          go_ret
          exact ⟨by rw [HE.out]; rfl, HB.out⟩
        · have e1 : ¬ s.toList = [46] := fun h => hdot (q1.1 h)
          have e2 : (s.toList == [46]) = false := beq_eq_false_iff_ne.2 e1
          by_cases hdd : bytesOf s = [46, 46]
          · have HE : Aside0 (nameE (bytesOf s) = 67) := ⟨by rw [hdd]; decide⟩
            have e3 : (s.toList == [46, 46]) = true := beq_iff_eq.2 (q2.2 hdd)
            clear hsp h0 hbl hdot hdd q1 q2
            go_enter Try.func24, Try.ntmps24
            go_wp2_with (go_at_call 63; (with_reducible refine HC.out.mono ?_); rintro e w1 ⟨rfl, hb⟩; have HB := Aside0.mk hb; clear hb)
            go_ret
            exact ⟨by rw [HE.out]; rfl, HB.out⟩
          · have HE : Aside0 (nameE (bytesOf s) = 0) := ⟨by unfold nameE nameB; rw [hsp, hbl, if_pos (by simp [hdot, hdd, h24]; omega)]⟩
            have e3 : (s.toList == [46, 46]) = false := beq_eq_false_iff_ne.2 (fun h => hdd (q2.1 h))
            clear hsp h0 hbl hdot hdd q1 q2
            go_enter Try.func24, Try.ntmps24
            go_wp2_with (go_at_call 63; (with_reducible refine HC.out.mono ?_); rintro e w1 ⟨rfl, hb⟩; have HB := Aside0.mk hb; clear hb)
            go_ret
            exact ⟨by rw [HE.out]; rfl, HB.out⟩
    · have hd : decide ((24 : Int) < (s.size : Int)) = true := decide_eq_true (by omega)
      have HE : Aside0 (nameE (bytesOf s) = 67) := ⟨by unfold nameE nameB; rw [hbl, if_neg (by simp; omega)]⟩
      clear h0 hbl
      go_enter Try.func24, Try.ntmps24
      go_wp2
      go_ret
      exact ⟨by rw [HE.out]; rfl, Below.refl _ _⟩
end Go.Proofs.Ytlpjchighfdomaa.Hm
