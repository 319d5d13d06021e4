/- The Go function CrcRows of the package's law 2, walked: it returns true for any rows of bytes. -/
import Derived.Test.YtelhdgnolijpcaaPureCrcRows
namespace Go.Proofs.Ytelhdgnolijpcaa.Hm
open Go.RowKit Go.Proofs.YtelhdgnolijpcaaW.PrintWords Go.Proofs.YtelhdgnolijpcaaW.PrintLast Go.Proofs.YtelhdgnolijpcaaW.PrintMore
theorem CrcRows_walk (A : Option Addr) (c : Nat) (l : List (List Int)) (W : World) (hr : Kd.C (Kd.slice 5 (Kd.int .u8)) W A l.length l) (hc : l.length ≤ c)
    (ok : l.length ≤ maxLen ∧ ∀ x ∈ l, x.length ≤ maxLen ∧ ∀ y ∈ x, (Lit.int .u8 y).wf = true) :
    Calls Try.prog 7 #[.slice A l.length c] W fun e W' => e = .returned (.bool true) ∧ Below W.heap.size W W' := by
  obtain ⟨k, h⟩ := Pure.CrcRows l (fun r hr => bytesB_of_wf r (ok.2 r hr).2)
  exact PCrcRows.removalistlaw02_CrcRows.calls k A c l true W hr hc h
end Go.Proofs.Ytelhdgnolijpcaa.Hm
