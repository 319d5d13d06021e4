/- The Go package dir: the entries of bytes; conditions: those that each theorem names. -/
import Derived.Test.YtlpjchighfdomaaGk
namespace Go.Proofs.Ytlpjchighfdomaa.Hm
open Go.RowKit Go.Proofs.YtlpjchighfdomaaW.PrintWords Go.Proofs.YtlpjchighfdomaaW.PrintLast Go.Proofs.YtlpjchighfdomaaW.PrintMore
set_option linter.unusedVariables false
set_option linter.unusedSimpArgs false

/-- One entry is read: it; what is left; the error. -/
def rdE (xs : List Int) : Ent × List Int × Int :=
  ((⟨(rdM xs 0 8).1, (rdM (rdM xs 0 8).2.1 (rdM xs 0 8).2.2 4).1, (rdM (rdM (rdM xs 0 8).2.1 (rdM xs 0 8).2.2 4).2.1 (rdM (rdM xs 0 8).2.1 (rdM xs 0 8).2.2 4).2.2 4).1,
      strOfNums (opM (rdM (rdM (rdM xs 0 8).2.1 (rdM xs 0 8).2.2 4).2.1 (rdM (rdM xs 0 8).2.1 (rdM xs 0 8).2.2 4).2.2 4).2.1 (rdM (rdM (rdM xs 0 8).2.1 (rdM xs 0 8).2.2 4).2.1 (rdM (rdM xs 0 8).2.1 (rdM xs 0 8).2.2 4).2.2 4).2.2 24).1⟩ : Ent),
    (opM (rdM (rdM (rdM xs 0 8).2.1 (rdM xs 0 8).2.2 4).2.1 (rdM (rdM xs 0 8).2.1 (rdM xs 0 8).2.2 4).2.2 4).2.1 (rdM (rdM (rdM xs 0 8).2.1 (rdM xs 0 8).2.2 4).2.1 (rdM (rdM xs 0 8).2.1 (rdM xs 0 8).2.2 4).2.2 4).2.2 24).2)
theorem rdE_eq {xs y1 y2 y3 y4 s : List Int} {c i g e1 e2 e3 e4 : Int} (h1 : rdM xs 0 8 = (c, y1, e1)) (h2 : rdM y1 e1 4 = (i, y2, e2)) (h3 : rdM y2 e2 4 = (g, y3, e3)) (h4 : opM y3 e3 24 = (s, y4, e4)) :
    rdE xs = (⟨c, i, g, strOfNums s⟩, y4, e4) := by
  unfold rdE
  rw [h1]
  dsimp only
  rw [h2]
  dsimp only
  rw [h3]
  dsimp only
  rw [h4]
/-- All entries are read. -/
def getL : Nat → List Int → List Ent → List Ent × Int
  | 0, _, out => (out, 0)
  | n + 1, xs, out => if xs.length = 0 then (out, 0) else if (rdE xs).2.2 ≠ 0 then ([], (rdE xs).2.2) else getL n (rdE xs).2.1 (out ++ [(rdE xs).1])
def getM (b : List Int) : List Ent × Int :=
  if (getL (b.length + 1) b []).2 ≠ 0 then ([], (getL (b.length + 1) b []).2) else if mayB (getL (b.length + 1) b []).1 = true then ((getL (b.length + 1) b []).1, 0) else ([], 11)
theorem takeM_e (xs : List Int) (e : Int) (n : Nat) (h : (takeM xs e n).2.2 = 0) : e = 0 ∧ (takeM xs e n).2.1 = xs.drop n ∧ n ≤ xs.length := by
  unfold takeM at h ⊢
  by_cases he : e = 0
  · subst he
    rw [if_neg (by simp)] at h ⊢
    by_cases hx : xs.length < n
    · rw [if_pos hx] at h
      cases h
    · rw [if_neg hx] at h ⊢
      exact ⟨rfl, rfl, by omega⟩
  · rw [if_pos he] at h
    exact absurd h he
theorem rdM_e (xs : List Int) (e : Int) (n : Nat) (h : (rdM xs e n).2.2 = 0) : e = 0 ∧ (rdM xs e n).2.1 = xs.drop n ∧ n ≤ xs.length := takeM_e xs e n h
theorem takeM_le (xs : List Int) (e : Int) (n : Nat) : (takeM xs e n).2.1.length ≤ xs.length := by
  unfold takeM
  split
  · exact Nat.le_refl _
  · split
    · exact Nat.le_refl _
    · simp
theorem opM_le (xs : List Int) (e most : Int) : (opM xs e most).2.1.length ≤ xs.length := by
  have h1 : (rdM xs e 4).2.1.length ≤ xs.length := takeM_le xs e 4
  unfold opM
  split
  rename_i n ys e1 h
  rw [h] at h1
  split
  · exact h1
  · split
    · exact h1
    · have h2 := takeM_le ys 0 (n.toNat + (4 - n.toNat % 4) % 4)
      split
      rename_i b zs e2 h3
      rw [h3] at h2
      split
      · exact Nat.le_trans h2 h1
      · split
        · exact Nat.le_trans h2 h1
        · exact Nat.le_trans h2 h1
theorem opM_e (xs : List Int) (e most : Int) (h : (opM xs e most).2.2 = 0) : e = 0 := by
  have h1 := rdM_e xs e 4
  unfold opM at h
  split at h
  rename_i n ys e1 h2
  rw [h2] at h1
  split at h
  · rename_i h3
    exact absurd h h3
  · rename_i h3
    exact (h1 (Decidable.not_not.1 h3)).1
theorem rdE_shrink {xs : List Int} (h : (rdE xs).2.2 = 0) : (rdE xs).2.1.length + 8 ≤ xs.length := by
  obtain ⟨⟨c, y1, e1⟩, h1⟩ : ∃ r, rdM xs 0 8 = r := ⟨_, rfl⟩
  obtain ⟨⟨i, y2, e2⟩, h2⟩ : ∃ r, rdM y1 e1 4 = r := ⟨_, rfl⟩
  obtain ⟨⟨g, y3, e3⟩, h3⟩ : ∃ r, rdM y2 e2 4 = r := ⟨_, rfl⟩
  obtain ⟨⟨s, y4, e4⟩, h4⟩ : ∃ r, opM y3 e3 24 = r := ⟨_, rfl⟩
  rw [rdE_eq h1 h2 h3 h4] at h ⊢
  dsimp only at h ⊢
  have l4 := opM_le y3 e3 24
  have k4 := opM_e y3 e3 24
  rw [h4] at l4 k4
  have k3 := rdM_e y2 e2 4
  rw [h3] at k3
  obtain ⟨z3, d3, n3⟩ := k3 (k4 h)
  have k2 := rdM_e y1 e1 4
  rw [h2] at k2
  obtain ⟨z2, d2, n2⟩ := k2 z3
  have k1 := rdM_e xs 0 8
  rw [h1] at k1
  obtain ⟨z1, d1, n1⟩ := k1 z2
  dsimp only at d1 d2 d3 l4
  rw [d3, List.length_drop] at l4
  rw [d2, List.length_drop] at l4
  rw [d1, List.length_drop] at l4
  omega
theorem getL_hit {f : Nat} {xs : List Int} {out : List Ent} (hx : xs.length ≠ 0) : getL (f + 1) xs out = if (rdE xs).2.2 ≠ 0 then ([], (rdE xs).2.2) else getL f (rdE xs).2.1 (out ++ [(rdE xs).1]) := by
  rw [getL, if_neg hx]
set_option maxHeartbeats 4000000 in
set_option maxRecDepth 100000 in
theorem Get_any (A : Option Addr) (c : Nat) (b : List Int) (w : World) (hr : Kd.C (Kd.int .u8) w A b.length b) (hc : b.length ≤ c) (hb : bytesB b = true) (hl : b.length ≤ 4000000000) :
    Calls Try.prog 17 #[.slice A b.length c] w fun e' w' => ∃ v, e' = .returned (.tuple #[v, .int .i64 (getM b).2]) ∧ kE.R 41 w' w.heap.size (fun _ => True) v (getM b).1 ∧ Below w.heap.size w w' := by
  have HR := Aside0.mk hr
  have HBY := Aside0.mk hb
  clear hr hb
  obtain ⟨R, hR⟩ : ∃ R, getL (b.length + 1) b [] = R := ⟨_, rfl⟩
  have HM : Aside0 (getM b = if R.2 ≠ 0 then ([], R.2) else if mayB R.1 = true then (R.1, 0) else ([], 11)) := ⟨by unfold getM; rw [hR]⟩
  have HG := Aside0.mk hR
  clear hR
  go_enter Try.func17, Try.ntmps17
  go_wp2_with fail
  (with_reducible refine (NewReader_any A c b w HR.out hc HBY.out (by omega)).mono ?_)
  rintro e' w1 ⟨P, rfl, hr1, hb1⟩
  obtain ⟨L, hL⟩ : ∃ L, w1.heap.size = L := ⟨_, rfl⟩
  have hPL := hr1.lt
  rw [hL] at hr1 hPL
  have HR1 := Aside0.mk hr1
  have HPL := Aside0.mk hPL
  have HB1 := Aside0.mk hb1
  have HLL := Aside0.mk (Nat.le_of_eq hL.symm)
  clear hr1 hb1 hL hPL
  go_wp2
  go_loopg [5] b.length (fun kq v5 w' => ∃ (xs : List Int) (out : List Ent) (f : Nat), xs.length = kq ∧ xs.length < f ∧ Aside0 (getL f xs out = R) ∧ Aside0 (out.length + xs.length ≤ b.length) ∧ Aside0 (Rd w' w.heap.size P L xs 0) ∧ Aside0 (kE.R 41 w' w.heap.size (fun k => L ≤ k) v5 out) ∧ Aside0 (Below w.heap.size w w') ∧ Aside0 (L ≤ w'.heap.size))
  case atStart => exact ⟨b, [], b.length + 1, rfl, by omega, HG, ⟨by simp⟩, HR1, ⟨Kd.R_nil _ _ _ _ _⟩, HB1, HLL⟩
  case round =>
    obtain ⟨xs, out, f, hk, hf, HL, HN, HRd, HO, HB, HLW⟩ := hrel
    obtain ⟨f, rfl⟩ : ∃ g, f = g + 1 := ⟨f - 1, by omega⟩
    have HK := Aside0.mk hk
    have HF := Aside0.mk hf
    clear hk hf
    by_cases hx : xs.length = 0
    · have hd1 : decide ((0 : Int) < (xs.length : Int)) = false := decide_eq_false (by omega)
      have hd2 : decide (0 < xs.length) = false := decide_eq_false (by omega)
      have HRR : Aside0 (R = (out, 0)) := ⟨by rw [← HL.out, getL, if_pos hx]⟩
      obtain ⟨A5, c5, e5, hc5, hC5⟩ := Kd.R_reads HO.out
      subst e5
      have HC5 := Aside0.mk hC5
      clear hC5 hx
      cases hmy : mayB out with
      | true =>
        have HMY := Aside0.mk hmy
        clear hmy
        go_wp2_with fail
        (with_reducible refine (Left_any _ P L xs 0 wr HRd.out).mono ?_)
        rintro e' w2 ⟨rfl, rfl⟩
        go_wp2_with fail
        (with_reducible refine (may_any A5 c5 out w2 HC5.out hc5 (by have := HN.out; omega)).mono ?_)
        rintro e' w3 ⟨rfl, hb3⟩
        rw [HMY.out]
        have HO3 := Aside0.mk (Kd.R_below HO.out hb3)
        have HB3 := Aside0.mk (below_step HB.out hb3)
        clear hb3
        go_wp2
        go_ret2
        have HMM : Aside0 (getM b = (out, 0)) := ⟨by rw [HM.out, HRR.out, if_neg (by simp), if_pos HMY.out]⟩
        exact ⟨_, by rw [HMM.out]; rfl, by rw [HMM.out]; exact Kd.R_mono HO3.out (fun _ _ => trivial), HB3.out⟩
      | false =>
        have HMY := Aside0.mk hmy
        clear hmy
        go_wp2_with fail
        (with_reducible refine (Left_any _ P L xs 0 wr HRd.out).mono ?_)
        rintro e' w2 ⟨rfl, rfl⟩
        go_wp2_with fail
        (with_reducible refine (may_any A5 c5 out w2 HC5.out hc5 (by have := HN.out; omega)).mono ?_)
        rintro e' w3 ⟨rfl, hb3⟩
        rw [HMY.out]
        have HB3 := Aside0.mk (below_step HB.out hb3)
        clear hb3
        go_wp2
        go_ret2
        have HMM : Aside0 (getM b = ([], 11)) := ⟨by rw [HM.out, HRR.out, if_neg (by simp), if_neg (by rw [HMY.out]; decide)]⟩
        exact ⟨_, by rw [HMM.out]; rfl, by rw [HMM.out]; exact Kd.R_nil _ _ _ _ _, HB3.out⟩
    · have hd1 : decide ((0 : Int) < (xs.length : Int)) = true := decide_eq_true (by omega)
      have hd2 : decide (0 < xs.length) = true := decide_eq_true (by omega)
      have HX := Aside0.mk hx
      obtain ⟨⟨c8, y1, e1⟩, h1⟩ : ∃ r, rdM xs 0 8 = r := ⟨_, rfl⟩
      obtain ⟨⟨i4, y2, e2⟩, h2⟩ : ∃ r, rdM y1 e1 4 = r := ⟨_, rfl⟩
      obtain ⟨⟨g4, y3, e3⟩, h3⟩ : ∃ r, rdM y2 e2 4 = r := ⟨_, rfl⟩
      obtain ⟨⟨sb, y4, e4⟩, h4⟩ : ∃ r, opM y3 e3 24 = r := ⟨_, rfl⟩
      have HE := Aside0.mk (rdE_eq h1 h2 h3 h4)
      have H1 := Aside0.mk h1
      have H2 := Aside0.mk h2
      have H3 := Aside0.mk h3
      have H4 := Aside0.mk h4
      obtain ⟨A5, c5, e5, hc5, hC5⟩ := Kd.R_reads HO.out
      subst e5
      have HC5 := Aside0.mk hc5
      have HPlt := Aside0.mk HRd.out.lt
      have HLG := Aside0.mk HLW.out
      have hbx := blk_new wr (.cells #[.int .u64 0, .int .u32 0, .int .u32 0, .string ⟨#[]⟩] 41)
      have HBX := Aside0.mk hbx
      have hfz := blk_frozen hbx 0
      have hx0 := blk_cell hbx 0
      have HRa := Aside0.mk (HRd.out.below (below_alloc (Below.refl _ _) (.cells #[.int .u64 0, .int .u32 0, .int .u32 0, .string ⟨#[]⟩] 41)))
      have HOa := Aside0.mk (Kd.R_alloc (Kd.R_elderB HO.out wr.heap.size (Nat.le_refl _)) (.cells #[.int .u64 0, .int .u32 0, .int .u32 0, .string ⟨#[]⟩] 41))
      have HBa := Aside0.mk (below_alloc HB.out (.cells #[.int .u64 0, .int .u32 0, .int .u32 0, .string ⟨#[]⟩] 41))
      obtain ⟨G, hG⟩ : ∃ G, wr.heap.size = G := ⟨_, rfl⟩
      rw [hG] at HBX HPlt HOa HLG hfz hx0
      have HGL : Aside0 (w.heap.size ≤ G) := ⟨by rw [← hG]; exact HB.out.size⟩
      clear h1 h2 h3 h4 hbx hc5 hC5 hx
      go_wp2_with fail
      (with_reducible refine (Left_any _ P L xs 0 wr HRd.out).mono ?_)
      rintro e' w2 ⟨rfl, rfl⟩
      go_wp2_with fail
      have hr8 := RU64_any _ P L xs 0 _ HRa.out
      rw [H1.out] at hr8
      simp only [hG] at hr8 ⊢
      (with_reducible refine hr8.mono ?_)
      rintro e' w3 ⟨rfl, hr3, hk3, hb3⟩
      have hbx := (hk3.2 G (by rw [← hG, World.size_alloc]; omega) (by have := HPlt.out; omega)).trans HBX.out
      have hfz := blk_frozen hbx 0
      have hx0 := blk_cell hbx 0
      have HRd3 := Aside0.mk (Rd.put hr3 HLG.out (by have := HPlt.out; omega) 0 (.int .u64 c8))
      have HBX3 := Aside0.mk (blk_put hbx 0 (.int .u64 c8) rfl)
      have HO3 := Aside0.mk (Kd.R_far (p := ⟨G, 0, none⟩) (Kd.R_step HOa.out (fun k ho hlt => hk3.2 k hlt (by have := ho.1; have := HPL.out; omega))) (fun k ho => ho.2) (.int .u64 c8))
      have HB3 := Aside0.mk ((HBa.out.trans hb3).setCell (p := ⟨G, 0, none⟩) HGL.out (.int .u64 c8))
      have hG3 : G < w3.heap.size := blk_lt hbx
      clear hr8 hr3 hk3 hb3 hbx hG3
      go_wp2_with fail
      clear hx0 hfz
      have hri := RU32_any _ P L y1 e1 _ HRd3.out
      rw [H2.out] at hri
      (with_reducible refine hri.mono ?_)
      rintro e' w4 ⟨rfl, hrib, hkib, hbib⟩
      have hbx := (hkib.2 G (blk_lt HBX3.out) (by have := HPlt.out; omega)).trans HBX3.out
      have hfz := blk_frozen hbx 1
      have hx0 := blk_cell hbx 1
      have HRd4 := Aside0.mk (Rd.put hrib HLG.out (by have := HPlt.out; omega) 1 (.int .u32 i4))
      have HBX4 := Aside0.mk (blk_put hbx 1 (.int .u32 i4) rfl)
      have HO4 := Aside0.mk (Kd.R_far (p := ⟨G, 1, none⟩) (Kd.R_step HO3.out (fun k ho hlt => hkib.2 k hlt (by have := ho.1; have := HPL.out; omega))) (fun k ho => ho.2) (.int .u32 i4))
      have HB4 := Aside0.mk ((HB3.out.trans hbib).setCell (p := ⟨G, 1, none⟩) HGL.out (.int .u32 i4))
      clear hri hrib hkib hbib hbx
      go_wp2_with fail
      clear hx0 hfz
      have hrg := RU32_any _ P L y2 e2 _ HRd4.out
      rw [H3.out] at hrg
      (with_reducible refine hrg.mono ?_)
      rintro e' w5 ⟨rfl, hrgb, hkgb, hbgb⟩
      have hbx := (hkgb.2 G (blk_lt HBX4.out) (by have := HPlt.out; omega)).trans HBX4.out
      have hfz := blk_frozen hbx 2
      have hx0 := blk_cell hbx 2
      have HRd5 := Aside0.mk (Rd.put hrgb HLG.out (by have := HPlt.out; omega) 2 (.int .u32 g4))
      have HBX5 := Aside0.mk (blk_put hbx 2 (.int .u32 g4) rfl)
      have HO5 := Aside0.mk (Kd.R_far (p := ⟨G, 2, none⟩) (Kd.R_step HO4.out (fun k ho hlt => hkgb.2 k hlt (by have := ho.1; have := HPL.out; omega))) (fun k ho => ho.2) (.int .u32 g4))
      have HB5 := Aside0.mk ((HB4.out.trans hbgb).setCell (p := ⟨G, 2, none⟩) HGL.out (.int .u32 g4))
      clear hrg hrgb hkgb hbgb hbx
      go_wp2_with fail
      clear hx0 hfz
      (with_reducible refine (ROpaque_any _ P L y3 e3 24 sb y4 e4 _ HRd5.out (by decide) (by decide) H4.out).mono ?_)
      rintro e' w6 ⟨v6, rfl, hv6, hr6, hk6, hb6⟩
      obtain ⟨A6, c6, e6, hc6, hC6⟩ := Kd.R_reads hv6
      subst e6
      have hcv := Kd.C_string (P := Try.prog) (src := 22) (dst := 9) (e := 5) (c := c6) Try.underlying22 Try.underlying5 Try.underlying9 hC6
      have hbx := (hk6.2 G (blk_lt HBX5.out) (by have := HPlt.out; omega)).trans HBX5.out
      have hfz := blk_frozen hbx 3
      have hx0 := blk_cell hbx 3
      have HRd6 := Aside0.mk (Rd.put hr6 HLG.out (by have := HPlt.out; omega) 3 (.string (strOfNums sb)))
      have HBX6 := Aside0.mk (blk_put hbx 3 (.string (strOfNums sb)) rfl)
      have HO6 := Aside0.mk (Kd.R_far (p := ⟨G, 3, none⟩) (Kd.R_step HO5.out (fun k ho hlt => hk6.2 k hlt (by have := ho.1; have := HPL.out; omega))) (fun k ho => ho.2) (.string (strOfNums sb)))
      have HB6 := Aside0.mk ((HB5.out.trans hb6).setCell (p := ⟨G, 3, none⟩) HGL.out (.string (strOfNums sb)))
      clear hv6 hr6 hk6 hb6 hbx hc6 hC6
      by_cases h40 : e4 = 0
      · subst h40
        go_wp2_with fail
        (with_reducible refine (Err_any _ P L y4 0 _ HRd6.out).mono ?_)
        rintro e' w7 ⟨rfl, hw7⟩
        rw [← hw7] at HRd6 HBX6 HO6 HB6
        clear hw7 hx0 hfz hcv
        have hx0 := blk_cell HBX6.out 0
        have hx1 := blk_cell HBX6.out 1
        have hx2 := blk_cell HBX6.out 2
        have hx3 := blk_cell HBX6.out 3
        have HFR : Aside0 (∀ k, (w7.alloc (.cells #[.int .u64 c8, .int .u32 i4, .int .u32 g4, .string (strOfNums sb)] 41)).heap.size ≤ k → L ≤ k ∧ k ≠ G) := ⟨fun k hk => by have h1 := HLG.out; have h2 := blk_lt HBX6.out; rw [World.size_alloc] at hk; omega⟩
        go_wp2_with ((at_builtin; refine Kd.R_append_rows kE (Rr := kE.K (w7.alloc (.cells #[.int .u64 c8, .int .u32 i4, .int .u32 g4, .string (strOfNums sb)] 41))) (w0 := w) w.heap.size rfl (.tmp 33) (.tmp 35) 24 41 (.agg #[.int .u64 0, .int .u32 0, .int .u32 0, .string ⟨#[]⟩]) 32 rfl Try.underlying24 infoE rfl (by decide) (by decide) (.slice A5 out.length c5) out [⟨c8, i4, g4, strOfNums sb⟩] (some ⟨w7.heap.size, 0, none⟩) 1 1 (fun k => L ≤ k ∧ k ≠ G) (fun _ => False) rfl rfl (Kd.R_alloc HO6.out _) (kE_one (blk_new w7 (.cells #[.int .u64 c8, .int .u32 i4, .int .u32 g4, .string (strOfNums sb)] 41))) (fun _ _ h => kE_MK h) (fun _ h => h.elim) HFR.out (below_alloc HB6.out _) (below_alloc HB6.out _).size (by have := HN.out; omega) ?_; intro v8 w8 hr8 hb8 hg8 hat8))
        have HR8 := Aside0.mk (Kd.R_mono hr8 (ok' := fun k => L ≤ k) (fun k hk => hk.1))
        have HB8 := Aside0.mk hb8
        have HRd8 := Aside0.mk (Rd.grown (HRd6.out.below (below_alloc (Below.refl _ _) _)) hg8 (fun k hk => by have h1 := (HO6.out.1 k hk).1; have h2 := HPL.out; omega))
        have HLW8 := Aside0.mk (Nat.le_trans (Nat.le_of_lt (Nat.lt_of_le_of_lt HLG.out (blk_lt HBX6.out))) (Nat.le_trans (below_alloc (Below.refl _ w7) _).size hg8.size))
        obtain ⟨A8, c8', e8⟩ := Kd.R_slice hr8
        rw [List.length_append, List.length_singleton] at e8
        subst e8
        clear hr8 hb8 hg8 hat8
        have hsh := rdE_shrink (xs := xs) (by rw [HE.out])
        rw [HE.out] at hsh
        have HSH := Aside0.mk hsh
        clear hsh
        go_wp2
        go_roundg y4.length
        case measure => have := HSH.out; have := HK.out; omega
        case rel => exact ⟨y4, out ++ [⟨c8, i4, g4, strOfNums sb⟩], f, rfl, by have := HSH.out; have := HF.out; omega, ⟨by rw [← HL.out, getL_hit HX.out, HE.out, if_neg (by simp)]⟩, ⟨by have := HN.out; have := HSH.out; simp; omega⟩, HRd8, HR8, HB8, HLW8⟩
      · have hne : (e4 != 0) = true := by simp [h40]
        have HE4 := Aside0.mk h40
        clear h40
        go_wp2_with fail
        (with_reducible refine (Err_any _ P L y4 e4 _ HRd6.out).mono ?_)
        rintro e' w7 ⟨rfl, hw7⟩
        rw [← hw7] at HB6
        clear hw7 hx0 hfz hcv
        have HRR : Aside0 (R = ([], e4)) := ⟨by rw [← HL.out, getL_hit HX.out, HE.out, if_pos HE4.out]⟩
        have HMM : Aside0 (getM b = ([], e4)) := ⟨by rw [HM.out, HRR.out, if_pos HE4.out]⟩
        go_wp2
        go_ret2
        exact ⟨_, by rw [HMM.out]; rfl, by rw [HMM.out]; exact Kd.R_nil _ _ _ _ _, HB6.out⟩
end Go.Proofs.Ytlpjchighfdomaa.Hm
