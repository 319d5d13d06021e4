/-
  No cell of these rows narrows 'for every input' (looked for: loops, veiled, ifaces, maps, wideKeys, modest, calm, conditions, laid).
  DERIVED. THE GIVEN ROWS OF THIS SEAT. 5 by the template 'for every input the law returns true; each argument reads behind the call as it read before'; 0 by the template 'total and deterministic' (their statements: YtgjajalneknagaaTotals.lean).
  GIVEN WITH THE SEED: the statements are not yours to turn. If you find one false, say at which input.
  Laid BY PROGRAM, IN A SANDBOX (cutbox-rows.mjs): the forced cells as the released guide's own fill.sh prints them over the translation 962227931cf0a299… (all of the seat's roots in one cut). By AI agents, Wed Nov 11 2026. No macro, syntax, notation, axiom, sorry.
-/
import Derived.Test.YtgjajalneknagaaChecked
import GoSem.Claim
import GoSem.ClaimJoined
import GoSem.ClaimMapViews
import Derived.JoinedTies
import Derived.KernelRfl
namespace Go.Proofs.Ytgjajalneknagaa
/- THE CELL 'sum', in the pinned program and in every row, IS THE sha256 OF THE DUMP (.gsa) THAT YtgjajalneknagaaProg.lean LOADS. Nothing in Lean hashes anything: it is a label: what it is worth is what the hold of that sum in a sandbox is worth. -/
noncomputable def Try.pinned : Pinned := { name := "ytgjajalneknagaa", sum := "962227931cf0a2995d9d532596c08cc3db7b61346014884b43b895feed6e82f6", checked := Try.checked }
namespace Rows
def none {H : Type} : Left H := { results := [], args := [] }

/-- 'removalistlaw21.ClientPlays': WHATEVER THE INPUT: true; the input reads as it did. -/
def clientPlaysSpec : ChangeSpec := { name := "clientPlays", fn := fun _ => fun
  | [d1, d2, d3] => { results := [.lit (.bool true)], args := [d1, d2, d3] }
  | _ => none }
def clientPlaysRow : OpenClaim := { program := "ytgjajalneknagaa", sum := "962227931cf0a2995d9d532596c08cc3db7b61346014884b43b895feed6e82f6", func := "removalist/removalistlaw21.ClientPlays", spec := "clientPlays", inPlace := ["internal/bytealg.IndexByteString", "internal/bytealg.IndexString"], unfollowed := true, recurses := true, named := ["internal/bytealg.MaxLen"], apart := false }
def ClientPlaysSaid : Prop := clientPlaysRow.holds Try.pinned (OpenSpec.ofChange clientPlaysSpec)

/-- ITS FALSE NEIGHBOUR: 'it returns false'. Refute it at one input. -/
def clientPlaysWrong : ChangeSpec := { name := "clientPlays", fn := fun _ => fun
  | [d1, d2, d3] => { results := [.lit (.bool false)], args := [d1, d2, d3] }
  | _ => none }
def ClientPlaysWrongFalsely : Prop := clientPlaysRow.holds Try.pinned (OpenSpec.ofChange clientPlaysWrong)

/-- 'removalistlaw21.ClientGoes': WHATEVER THE INPUT: true; the input reads as it did. -/
def clientGoesSpec : ChangeSpec := { name := "clientGoes", fn := fun _ => fun
  | [d1, d2] => { results := [.lit (.bool true)], args := [d1, d2] }
  | _ => none }
def clientGoesRow : OpenClaim := { program := "ytgjajalneknagaa", sum := "962227931cf0a2995d9d532596c08cc3db7b61346014884b43b895feed6e82f6", func := "removalist/removalistlaw21.ClientGoes", spec := "clientGoes", inPlace := ["internal/bytealg.IndexByteString", "internal/bytealg.IndexString"], unfollowed := true, recurses := true, named := ["internal/bytealg.MaxLen"], apart := false }
def ClientGoesSaid : Prop := clientGoesRow.holds Try.pinned (OpenSpec.ofChange clientGoesSpec)

/-- ITS FALSE NEIGHBOUR: 'it returns false'. Refute it at one input. -/
def clientGoesWrong : ChangeSpec := { name := "clientGoes", fn := fun _ => fun
  | [d1, d2] => { results := [.lit (.bool false)], args := [d1, d2] }
  | _ => none }
def ClientGoesWrongFalsely : Prop := clientGoesRow.holds Try.pinned (OpenSpec.ofChange clientGoesWrong)

/-- 'removalistlaw21.ClientWaits': WHATEVER THE INPUT: true; the input reads as it did. -/
def clientWaitsSpec : ChangeSpec := { name := "clientWaits", fn := fun _ => fun
  | [d1, d2] => { results := [.lit (.bool true)], args := [d1, d2] }
  | _ => none }
def clientWaitsRow : OpenClaim := { program := "ytgjajalneknagaa", sum := "962227931cf0a2995d9d532596c08cc3db7b61346014884b43b895feed6e82f6", func := "removalist/removalistlaw21.ClientWaits", spec := "clientWaits", inPlace := ["internal/bytealg.IndexByteString", "internal/bytealg.IndexString"], unfollowed := true, recurses := true, named := ["internal/bytealg.MaxLen"], apart := false }
def ClientWaitsSaid : Prop := clientWaitsRow.holds Try.pinned (OpenSpec.ofChange clientWaitsSpec)

/-- ITS FALSE NEIGHBOUR: 'it returns false'. Refute it at one input. -/
def clientWaitsWrong : ChangeSpec := { name := "clientWaits", fn := fun _ => fun
  | [d1, d2] => { results := [.lit (.bool false)], args := [d1, d2] }
  | _ => none }
def ClientWaitsWrongFalsely : Prop := clientWaitsRow.holds Try.pinned (OpenSpec.ofChange clientWaitsWrong)

/-- 'removalistlaw21.ClientOne': WHATEVER THE INPUT: true; the input reads as it did. -/
def clientOneSpec : ChangeSpec := { name := "clientOne", fn := fun _ => fun
  | [d] => { results := [.lit (.bool true)], args := [d] }
  | _ => none }
def clientOneRow : OpenClaim := { program := "ytgjajalneknagaa", sum := "962227931cf0a2995d9d532596c08cc3db7b61346014884b43b895feed6e82f6", func := "removalist/removalistlaw21.ClientOne", spec := "clientOne", inPlace := ["internal/bytealg.IndexByteString", "internal/bytealg.IndexString"], unfollowed := true, recurses := true, named := ["internal/bytealg.MaxLen"], apart := false }
def ClientOneSaid : Prop := clientOneRow.holds Try.pinned (OpenSpec.ofChange clientOneSpec)

/-- ITS FALSE NEIGHBOUR: 'it returns false'. Refute it at one input. -/
def clientOneWrong : ChangeSpec := { name := "clientOne", fn := fun _ => fun
  | [d] => { results := [.lit (.bool false)], args := [d] }
  | _ => none }
def ClientOneWrongFalsely : Prop := clientOneRow.holds Try.pinned (OpenSpec.ofChange clientOneWrong)

/-- 'removalistlaw21.ClientDeaf': WHATEVER THE INPUT: true; the input reads as it did. -/
def clientDeafSpec : ChangeSpec := { name := "clientDeaf", fn := fun _ => fun
  | [d1, d2] => { results := [.lit (.bool true)], args := [d1, d2] }
  | _ => none }
def clientDeafRow : OpenClaim := { program := "ytgjajalneknagaa", sum := "962227931cf0a2995d9d532596c08cc3db7b61346014884b43b895feed6e82f6", func := "removalist/removalistlaw21.ClientDeaf", spec := "clientDeaf", inPlace := ["internal/bytealg.IndexByteString", "internal/bytealg.IndexString"], unfollowed := true, recurses := true, named := ["internal/bytealg.MaxLen"], apart := false }
def ClientDeafSaid : Prop := clientDeafRow.holds Try.pinned (OpenSpec.ofChange clientDeafSpec)

/-- ITS FALSE NEIGHBOUR: 'it returns false'. Refute it at one input. -/
def clientDeafWrong : ChangeSpec := { name := "clientDeaf", fn := fun _ => fun
  | [d1, d2] => { results := [.lit (.bool false)], args := [d1, d2] }
  | _ => none }
def ClientDeafWrongFalsely : Prop := clientDeafRow.holds Try.pinned (OpenSpec.ofChange clientDeafWrong)

/- THE SECOND FORM. 'bulk': how many values and letters a reading holds, each counted each time it is reached (what is shared counts as often as it is met; a slice's spare places count too). A statement '..UptoSaid' is the law's where the arguments, and the package variables that the reading takes, are together of bulk at most 1048576: NARROWER than '..Said'. Prove '..Said' where nothing that the law and all that it calls make is longer than what came in: it says more and counts as full. Else prove '..UptoSaid'. A law counts once. -/
mutual
def uptoBulk {H : Type} : DataW H → Nat
  | .lit (.string bytes) => bytes.length + 1
  | .lit _ => 1
  | .nil => 1
  | .ptr d => uptoBulk d + 1
  | .slice elems spare => uptoBulkAll elems + uptoBulkAll spare + 1
  | .agg parts => uptoBulkAll parts + 1
  | .iface _ d => uptoBulk d + 1
  | .map entries => uptoBulkEntries entries + 1
  | .held _ => 1
def uptoBulkAll {H : Type} : List (DataW H) → Nat
  | [] => 0
  | d :: r => uptoBulk d + uptoBulkAll r
def uptoBulkEntries {H : Type} : List (Lit × DataW H) → Nat
  | [] => 0
  | x :: r => uptoBulkEntry x + uptoBulkEntries r
def uptoBulkEntry {H : Type} : Lit × DataW H → Nat
  | (.string bytes, d) => bytes.length + uptoBulk d + 1
  | (_, d) => uptoBulk d + 1
 end
def uptoSmall : (H : Type) → List (DataW H) → Bool := fun _ ds => decide (uptoBulkAll ds ≤ 1048576)
def OpenSpec.upto (s : _root_.Go.ChangeSpec) : _root_.Go.OpenSpec := { _root_.Go.OpenSpec.ofChange s with cond := some uptoSmall }

/-- 'removalistlaw21.ClientPlays', WHERE WHAT IT READS IS OF BULK AT MOST 1048576: true; the input reads as it did. -/
def clientPlaysUptoRow : OpenClaim := { program := "ytgjajalneknagaa", sum := "962227931cf0a2995d9d532596c08cc3db7b61346014884b43b895feed6e82f6", func := "removalist/removalistlaw21.ClientPlays", spec := "clientPlays", inPlace := ["internal/bytealg.IndexByteString", "internal/bytealg.IndexString"], unfollowed := true, recurses := true, named := ["internal/bytealg.MaxLen"], apart := false, narrowed := true }
def ClientPlaysUptoSaid : Prop := clientPlaysUptoRow.holds Try.pinned (OpenSpec.upto clientPlaysSpec)

/-- 'removalistlaw21.ClientGoes', WHERE WHAT IT READS IS OF BULK AT MOST 1048576: true; the input reads as it did. -/
def clientGoesUptoRow : OpenClaim := { program := "ytgjajalneknagaa", sum := "962227931cf0a2995d9d532596c08cc3db7b61346014884b43b895feed6e82f6", func := "removalist/removalistlaw21.ClientGoes", spec := "clientGoes", inPlace := ["internal/bytealg.IndexByteString", "internal/bytealg.IndexString"], unfollowed := true, recurses := true, named := ["internal/bytealg.MaxLen"], apart := false, narrowed := true }
def ClientGoesUptoSaid : Prop := clientGoesUptoRow.holds Try.pinned (OpenSpec.upto clientGoesSpec)

/-- 'removalistlaw21.ClientWaits', WHERE WHAT IT READS IS OF BULK AT MOST 1048576: true; the input reads as it did. -/
def clientWaitsUptoRow : OpenClaim := { program := "ytgjajalneknagaa", sum := "962227931cf0a2995d9d532596c08cc3db7b61346014884b43b895feed6e82f6", func := "removalist/removalistlaw21.ClientWaits", spec := "clientWaits", inPlace := ["internal/bytealg.IndexByteString", "internal/bytealg.IndexString"], unfollowed := true, recurses := true, named := ["internal/bytealg.MaxLen"], apart := false, narrowed := true }
def ClientWaitsUptoSaid : Prop := clientWaitsUptoRow.holds Try.pinned (OpenSpec.upto clientWaitsSpec)

/-- 'removalistlaw21.ClientOne', WHERE WHAT IT READS IS OF BULK AT MOST 1048576: true; the input reads as it did. -/
def clientOneUptoRow : OpenClaim := { program := "ytgjajalneknagaa", sum := "962227931cf0a2995d9d532596c08cc3db7b61346014884b43b895feed6e82f6", func := "removalist/removalistlaw21.ClientOne", spec := "clientOne", inPlace := ["internal/bytealg.IndexByteString", "internal/bytealg.IndexString"], unfollowed := true, recurses := true, named := ["internal/bytealg.MaxLen"], apart := false, narrowed := true }
def ClientOneUptoSaid : Prop := clientOneUptoRow.holds Try.pinned (OpenSpec.upto clientOneSpec)

/-- 'removalistlaw21.ClientDeaf', WHERE WHAT IT READS IS OF BULK AT MOST 1048576: true; the input reads as it did. -/
def clientDeafUptoRow : OpenClaim := { program := "ytgjajalneknagaa", sum := "962227931cf0a2995d9d532596c08cc3db7b61346014884b43b895feed6e82f6", func := "removalist/removalistlaw21.ClientDeaf", spec := "clientDeaf", inPlace := ["internal/bytealg.IndexByteString", "internal/bytealg.IndexString"], unfollowed := true, recurses := true, named := ["internal/bytealg.MaxLen"], apart := false, narrowed := true }
def ClientDeafUptoSaid : Prop := clientDeafUptoRow.holds Try.pinned (OpenSpec.upto clientDeafSpec)

end Rows
end Go.Proofs.Ytgjajalneknagaa
