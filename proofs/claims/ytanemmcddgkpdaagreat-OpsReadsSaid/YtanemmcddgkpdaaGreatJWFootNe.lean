import Derived.Test.YtanemmcddgkpdaaGreatJWN
-- PRINTED BY print.sh 35421559b90ae4d0a3588c463048766b98c2df88dd9212a6774a882060cdf62d: not written by this session
/-! ### 52. A row that stays read whatever happens to a block (a set of blocks) doesn't lie there -/
namespace Go.Proofs.YtanemmcddgkpdaaGreatW.PrintWords
open Go.RowKit
namespace Kd
section
variable {α : Type} {d : Kd α} {W : World} {g n : Nat} {S ok : Nat → Prop} {A : Option Addr} {ad : Addr} {xs : List α}
/-- What is read with its footprint lies in it. -/
theorem F_in (h : F d W ok A n xs) {ad : Addr} (hA : A = some ad) (hn : 0 < n) (hs : 0 < d.sz) : ok ad.block := by
  subst hA
  have hl := F_len h
  cases xs with
  | nil => simp at hl; omega
  | cons x r =>
    obtain ⟨ad', c, he, _, _, _, hin⟩ := F_get h x 0 (by omega) (by omega)
    injection he with he
    subst he
    exact hin hs
end
end Kd
end Go.Proofs.YtanemmcddgkpdaaGreatW.PrintWords
