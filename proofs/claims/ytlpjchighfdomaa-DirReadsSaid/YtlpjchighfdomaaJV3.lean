/- Chapter 8's entries under a key: adding, removing, reading on; tables; conditions: those that each theorem names. -/
import Derived.Test.YtlpjchighfdomaaJV2
namespace Go.Proofs.Ytlpjchighfdomaa.Hm
open Go.RowKit Go.Proofs.YtlpjchighfdomaaW.PrintWords Go.Proofs.YtlpjchighfdomaaW.PrintLast Go.Proofs.YtlpjchighfdomaaW.PrintMore
set_option linter.unusedVariables false
set_option linter.unusedSimpArgs false

def tabV (n : Nat) (f : Nat → Value) : List Value := (List.range n).map f
theorem tabV_len (n : Nat) (f : Nat → Value) : (tabV n f).length = n := by simp [tabV]
theorem tabV_get {n : Nat} {f : Nat → Value} {k : Nat} (h : k < n) : (tabV n f)[k]? = some (f k) := by simp [tabV, h]
theorem tabV_rep (n : Nat) (v : Value) : tabV n (fun _ => v) = List.replicate n v := by
  unfold tabV
  apply List.ext_getElem?
  intro j
  rcases Nat.lt_or_ge j n with hj | hj <;> simp [hj, List.getElem?_replicate]
theorem tabV_set {n : Nat} {f g : Nat → Value} {k : Nat} {v : Value} (hk : g k = v) (ho : ∀ j, j ≠ k → g j = f j) : (tabV n f).set k v = tabV n g := by
  apply List.ext_getElem?
  intro j
  rcases Nat.lt_or_ge j n with hj | hj
  · rw [tabV_get hj, List.getElem?_set]
    by_cases hkj : k = j
    · subst hkj
      rw [if_pos rfl, if_pos (by rw [tabV_len]; exact hj), hk]
    · rw [if_neg hkj, tabV_get hj, ho j (Ne.symm hkj)]
  · rw [List.getElem?_eq_none (by rw [List.length_set, tabV_len]; exact hj), List.getElem?_eq_none (by rw [tabV_len]; exact hj)]
theorem tabV_congr {n : Nat} {f g : Nat → Value} (h : ∀ k, k < n → f k = g k) : tabV n f = tabV n g := by
  unfold tabV
  exact List.map_congr_left (fun k hk => h k (List.mem_range.1 hk))
/-! ### entries under a key -/
theorem key_in {f : Nat → Ent} {ks : List Nat} {g : Nat} (hi : ∀ k ∈ ks, bytesOf (f k).s = bytesOf (f g).s → k = g) : bytesOf (f g).s ∈ namesOf (ks.map f) ↔ g ∈ ks := by
  unfold namesOf
  rw [List.map_map, List.mem_map]
  constructor
  · rintro ⟨k, h1, h2⟩
    exact hi k h1 h2 ▸ h1
  · intro h
    exact ⟨g, h, rfl⟩
theorem eraseIdx_filter {ks : List Nat} (hn : ks.Nodup) : ∀ {j g : Nat}, ks[j]? = some g → ks.eraseIdx j = ks.filter (fun k => decide (k ≠ g)) := by
  induction ks with
  | nil => intro j g h; simp at h
  | cons x ks ih =>
    intro j g h
    obtain ⟨hx, hn'⟩ := List.nodup_cons.1 hn
    cases j with
    | zero =>
      obtain rfl : x = g := by simpa using h
      have : ks.filter (fun k => decide (k ≠ x)) = ks := List.filter_eq_self.2 (fun k hk => by
        have : k ≠ x := fun e => hx (e ▸ hk)
        simpa using this)
      rw [List.eraseIdx_cons_zero, List.filter_cons_of_neg (by simp), this]
    | succ j =>
      have h' : ks[j]? = some g := by simpa using h
      have hxg : x ≠ g := fun e => hx (e ▸ List.mem_of_getElem? h')
      rw [List.eraseIdx_cons_succ, List.filter_cons_of_pos (by simpa using hxg), ih hn' h']
theorem key_remove {f : Nat → Ent} {ks : List Nat} (hn : ks.Nodup) {g : Nat} (hi : ∀ k ∈ ks, bytesOf (f k).s = bytesOf (f g).s → k = g) (h : g ∈ ks) : removeM (ks.map f) (f g).s = ((ks.filter (fun k => decide (k ≠ g))).map f, 0) := by
  obtain ⟨j, e, h1, h2, h3, -⟩ := idxN_some ((key_in hi).2 h)
  unfold removeM
  rw [idxE_N, h3, if_neg (by omega), Int.toNat_natCast, map_eraseIdx]
  rw [List.getElem?_map] at h1
  obtain ⟨k, h4, rfl⟩ := Option.map_eq_some_iff.1 h1
  obtain rfl := hi k (List.mem_of_getElem? h4) h2
  rw [eraseIdx_filter hn h4]
theorem lastC_map {f : Nat → Ent} (hf : ∀ k, (f k).c = k) {ks : List Nat} {c : Nat} (h : ∀ k ∈ ks, k ≤ c) : lastC (ks.map f) ≤ c := by
  unfold lastC
  rw [List.getLast?_map]
  cases hk : ks.getLast? with
  | none => show (0 : Int) ≤ c; omega
  | some k => show (f k).c ≤ c; rw [hf]; have := h k (List.mem_of_getLast? hk); omega
theorem key_add {f : Nat → Ent} (hf : ∀ k, (f k).c = k) {ks : List Nat} {c g : Nat} (h : ∀ k ∈ ks, k ≤ c) (hg : c < g) (hi : ∀ k ∈ ks, bytesOf (f k).s = bytesOf (f g).s → k = g) (hn : nameE (bytesOf (f g).s) = 0) : addM (ks.map f) (f g) = ((ks ++ [g]).map f, 0) := by
  have hl := lastC_map hf h
  rw [addM_new hn (by rw [key_in hi]; intro hm; have := h g hm; omega) (by rw [hf]; omega), List.map_append]
  rfl
/-- Those behind a cookie. -/
theorem afterM_split {lp lq : List Ent} {s m : Int} (hp : ∀ e ∈ lp, e.c ≤ s) (hq : ∀ e ∈ lq, s < e.c) : afterM (lp ++ lq) s m = (lq.take m.toNat, decide (min m.toNat lq.length = lq.length)) := by
  unfold afterM
  cases lq with
  | nil =>
    have h1 : idxE (fun e => decide (s < e.c)) (lp ++ []) = -1 := idxE_none _ _ (fun x hx => by
      rw [List.append_nil] at hx
      have := hp x hx
      simpa using this)
    rw [h1, if_pos (by decide)]
    simp
  | cons e lq =>
    have h1 : idxE (fun e => decide (s < e.c)) (lp ++ e :: lq) = lp.length := idxE_hit _ _ lp.length e (by simp) (by have := hq e List.mem_cons_self; simpa using this) (fun x hx => by
      rw [List.take_left'] at hx
      · have := hp x hx
        simpa using this
      · rfl)
    rw [h1, if_neg (by omega), Int.toNat_natCast, show (lp ++ e :: lq).length - lp.length = (e :: lq).length by simp, List.take_length_add_append, List.drop_left']
    · rw [List.length_append]
      have : List.take (min m.toNat (e :: lq).length) (e :: lq) = List.take m.toNat (e :: lq) := by
        rcases Nat.le_total m.toNat (e :: lq).length with h | h
        · rw [Nat.min_eq_left h]
        · rw [Nat.min_eq_right h, List.take_length, List.take_of_length_le h]
      rw [this]
      congr 1
      exact decide_eq_decide.2 ⟨fun h => by omega, fun h => by omega⟩
    · rfl
/-! ### two kinds of names -/
def nmR (n k : Nat) : List Int := if k ≤ n then [110, 96 + (k : Int)] else [109, (k : Int)]
def entR (n k : Nat) : Ent := ⟨(k : Int), 0, 0, strOfNums (nmR n k)⟩
theorem entR_bytes {n k : Nat} (h : k < 100) : bytesOf (entR n k).s = nmR n k := by
  show bytesOf (strOfNums (nmR n k)) = _
  unfold nmR
  split
  · exact bytes2 (by omega) (by omega) (by omega) (by omega)
  · exact bytes2 (by omega) (by omega) (by omega) (by omega)
theorem entR_inj {n j k : Nat} (hj : j < 100) (hk : k < 100) (h : bytesOf (entR n j).s = bytesOf (entR n k).s) : j = k := by
  rw [entR_bytes hj, entR_bytes hk] at h
  unfold nmR at h
  split at h <;> split at h <;> simp at h <;> omega
theorem name2 {x y : Int} (h0 : 47 < x) (h1 : y ≠ 47) (h2 : y ≠ 0) : nameE [x, y] = 0 := by
  unfold nameE nameB
  rw [if_pos]
  have h3 : sepB [x, y] = false := by
    unfold sepB
    simp [sepR]
    omega
  rw [h3]
  have h4 : ([x, y] : List Int) ≠ [46, 46] := fun e => by
    injection e with e1 _
    omega
  simp [h4]
theorem entR_name {n k : Nat} (hn : n ≤ 12) (h1 : 1 ≤ k) (h : k < 100) (h47 : k ≠ 47) : nameE (bytesOf (entR n k).s) = 0 := by
  rw [entR_bytes h]
  unfold nmR
  split
  · exact name2 (by decide) (by omega) (by omega)
  · exact name2 (by decide) (by omega) (by omega)
theorem entR_47 {n : Nat} (hn : n ≤ 12) (l : List Ent) : addM l (entR n 47) = ([], 67) := by
  have h : nameE (bytesOf (entR n 47).s) = 67 := by
    rw [entR_bytes (by decide)]
    unfold nmR
    rw [if_neg (by omega)]
    decide
  unfold addM
  rw [h, if_pos (by decide)]
theorem nodup_of_lt {ks : List Nat} (h : ks.Pairwise (· < ·)) : ks.Nodup := h.imp (fun h => Nat.ne_of_lt h)
end Go.Proofs.Ytlpjchighfdomaa.Hm
