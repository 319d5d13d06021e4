/-
  No cell of these rows narrows 'for every input' (looked for: loops, veiled, ifaces, maps, wideKeys, modest, calm, conditions, laid).
  DERIVED. THE GIVEN ROWS OF THIS SEAT. 4 by the template 'for every input the law returns true; each argument reads behind the call as it read before'; 0 by the template 'total and deterministic' (their statements: YtpbhanpblmoepaaTotals.lean).
  GIVEN WITH THE SEED: the statements are not yours to turn. If you find one false, say at which input.
  Laid BY PROGRAM, IN A SANDBOX (cutbox-rows.mjs): the forced cells as the released guide's own fill.sh prints them over the translation 789639330b3d8f65… (all of the seat's roots in one cut). By AI agents, Wed Nov 11 2026. No macro, syntax, notation, axiom, sorry.
-/
import Derived.Test.YtpbhanpblmoepaaChecked
import GoSem.Claim
import GoSem.ClaimJoined
import GoSem.ClaimMapViews
import Derived.JoinedTies
import Derived.KernelRfl
namespace Go.Proofs.Ytpbhanpblmoepaa
/- THE CELL 'sum', in the pinned program and in every row, IS THE sha256 OF THE DUMP (.gsa) THAT YtpbhanpblmoepaaProg.lean LOADS. Nothing in Lean hashes anything: it is a label: what it is worth is what the hold of that sum in a sandbox is worth. -/
noncomputable def Try.pinned : Pinned := { name := "ytpbhanpblmoepaa", sum := "789639330b3d8f65dedb8869d58c6983045e64c9787012339ced349b3db08987", checked := Try.checked }
namespace Rows
def none {H : Type} : Left H := { results := [], args := [] }

/-- 'removalistlaw16.WirePuts': WHATEVER THE INPUT: true; the input reads as it did. -/
def wirePutsSpec : ChangeSpec := { name := "wirePuts", fn := fun _ => fun
  | [d] => { results := [.lit (.bool true)], args := [d] }
  | _ => none }
def wirePutsRow : OpenClaim := { program := "ytpbhanpblmoepaa", sum := "789639330b3d8f65dedb8869d58c6983045e64c9787012339ced349b3db08987", func := "removalist/removalistlaw16.WirePuts", spec := "wirePuts", inPlace := ["internal/bytealg.IndexByteString", "internal/bytealg.IndexString"], unfollowed := true, recurses := true, named := ["internal/bytealg.MaxLen"], apart := false }
def WirePutsSaid : Prop := wirePutsRow.holds Try.pinned (OpenSpec.ofChange wirePutsSpec)

/-- ITS FALSE NEIGHBOUR: 'it returns false'. Refute it at one input. -/
def wirePutsWrong : ChangeSpec := { name := "wirePuts", fn := fun _ => fun
  | [d] => { results := [.lit (.bool false)], args := [d] }
  | _ => none }
def WirePutsWrongFalsely : Prop := wirePutsRow.holds Try.pinned (OpenSpec.ofChange wirePutsWrong)

/-- 'removalistlaw16.WireSpoils': WHATEVER THE INPUT: true; the input reads as it did. -/
def wireSpoilsSpec : ChangeSpec := { name := "wireSpoils", fn := fun _ => fun
  | [d1, d2, d3] => { results := [.lit (.bool true)], args := [d1, d2, d3] }
  | _ => none }
def wireSpoilsRow : OpenClaim := { program := "ytpbhanpblmoepaa", sum := "789639330b3d8f65dedb8869d58c6983045e64c9787012339ced349b3db08987", func := "removalist/removalistlaw16.WireSpoils", spec := "wireSpoils", inPlace := ["internal/bytealg.IndexByteString", "internal/bytealg.IndexString"], unfollowed := true, recurses := true, named := ["internal/bytealg.MaxLen"], apart := false }
def WireSpoilsSaid : Prop := wireSpoilsRow.holds Try.pinned (OpenSpec.ofChange wireSpoilsSpec)

/-- ITS FALSE NEIGHBOUR: 'it returns false'. Refute it at one input. -/
def wireSpoilsWrong : ChangeSpec := { name := "wireSpoils", fn := fun _ => fun
  | [d1, d2, d3] => { results := [.lit (.bool false)], args := [d1, d2, d3] }
  | _ => none }
def WireSpoilsWrongFalsely : Prop := wireSpoilsRow.holds Try.pinned (OpenSpec.ofChange wireSpoilsWrong)

/-- 'removalistlaw16.WireKinds': WHATEVER THE INPUT: true; the input reads as it did. -/
def wireKindsSpec : ChangeSpec := { name := "wireKinds", fn := fun _ => fun
  | [d1, d2] => { results := [.lit (.bool true)], args := [d1, d2] }
  | _ => none }
def wireKindsRow : OpenClaim := { program := "ytpbhanpblmoepaa", sum := "789639330b3d8f65dedb8869d58c6983045e64c9787012339ced349b3db08987", func := "removalist/removalistlaw16.WireKinds", spec := "wireKinds", inPlace := ["internal/bytealg.IndexByteString", "internal/bytealg.IndexString"], unfollowed := true, recurses := true, named := ["internal/bytealg.MaxLen"], apart := false }
def WireKindsSaid : Prop := wireKindsRow.holds Try.pinned (OpenSpec.ofChange wireKindsSpec)

/-- ITS FALSE NEIGHBOUR: 'it returns false'. Refute it at one input. -/
def wireKindsWrong : ChangeSpec := { name := "wireKinds", fn := fun _ => fun
  | [d1, d2] => { results := [.lit (.bool false)], args := [d1, d2] }
  | _ => none }
def WireKindsWrongFalsely : Prop := wireKindsRow.holds Try.pinned (OpenSpec.ofChange wireKindsWrong)

/-- 'removalistlaw16.WireUnlike': WHATEVER THE INPUT: true; the input reads as it did. -/
def wireUnlikeSpec : ChangeSpec := { name := "wireUnlike", fn := fun _ => fun
  | [d1, d2, d3] => { results := [.lit (.bool true)], args := [d1, d2, d3] }
  | _ => none }
def wireUnlikeRow : OpenClaim := { program := "ytpbhanpblmoepaa", sum := "789639330b3d8f65dedb8869d58c6983045e64c9787012339ced349b3db08987", func := "removalist/removalistlaw16.WireUnlike", spec := "wireUnlike", inPlace := ["internal/bytealg.IndexByteString", "internal/bytealg.IndexString"], unfollowed := true, recurses := true, named := ["internal/bytealg.MaxLen"], apart := false }
def WireUnlikeSaid : Prop := wireUnlikeRow.holds Try.pinned (OpenSpec.ofChange wireUnlikeSpec)

/-- ITS FALSE NEIGHBOUR: 'it returns false'. Refute it at one input. -/
def wireUnlikeWrong : ChangeSpec := { name := "wireUnlike", fn := fun _ => fun
  | [d1, d2, d3] => { results := [.lit (.bool false)], args := [d1, d2, d3] }
  | _ => none }
def WireUnlikeWrongFalsely : Prop := wireUnlikeRow.holds Try.pinned (OpenSpec.ofChange wireUnlikeWrong)

/- THE SECOND FORM. 'bulk': how many values and letters a reading holds, each counted each time it is reached (what is shared counts as often as it is met; a slice's spare places count too). A statement '..UptoSaid' is the law's where the arguments, and the package variables that the reading takes, are together of bulk at most 1048576: NARROWER than '..Said'. Prove '..Said' where nothing that the law and all that it calls make is longer than what came in: it says more and counts as full. Else prove '..UptoSaid'. A law counts once. -/
mutual
def uptoBulk {H : Type} : DataW H → Nat
  | .lit (.string bytes) => bytes.length + 1
  | .lit _ => 1
  | .nil => 1
  | .ptr d => uptoBulk d + 1
  | .slice elems spare => uptoBulkAll elems + uptoBulkAll spare + 1
  | .agg parts => uptoBulkAll parts + 1
  | .iface _ d => uptoBulk d + 1
  | .map entries => uptoBulkEntries entries + 1
  | .held _ => 1
def uptoBulkAll {H : Type} : List (DataW H) → Nat
  | [] => 0
  | d :: r => uptoBulk d + uptoBulkAll r
def uptoBulkEntries {H : Type} : List (Lit × DataW H) → Nat
  | [] => 0
  | x :: r => uptoBulkEntry x + uptoBulkEntries r
def uptoBulkEntry {H : Type} : Lit × DataW H → Nat
  | (.string bytes, d) => bytes.length + uptoBulk d + 1
  | (_, d) => uptoBulk d + 1
 end
def uptoSmall : (H : Type) → List (DataW H) → Bool := fun _ ds => decide (uptoBulkAll ds ≤ 1048576)
def OpenSpec.upto (s : _root_.Go.ChangeSpec) : _root_.Go.OpenSpec := { _root_.Go.OpenSpec.ofChange s with cond := some uptoSmall }

/-- 'removalistlaw16.WirePuts', WHERE WHAT IT READS IS OF BULK AT MOST 1048576: true; the input reads as it did. -/
def wirePutsUptoRow : OpenClaim := { program := "ytpbhanpblmoepaa", sum := "789639330b3d8f65dedb8869d58c6983045e64c9787012339ced349b3db08987", func := "removalist/removalistlaw16.WirePuts", spec := "wirePuts", inPlace := ["internal/bytealg.IndexByteString", "internal/bytealg.IndexString"], unfollowed := true, recurses := true, named := ["internal/bytealg.MaxLen"], apart := false, narrowed := true }
def WirePutsUptoSaid : Prop := wirePutsUptoRow.holds Try.pinned (OpenSpec.upto wirePutsSpec)

/-- 'removalistlaw16.WireSpoils', WHERE WHAT IT READS IS OF BULK AT MOST 1048576: true; the input reads as it did. -/
def wireSpoilsUptoRow : OpenClaim := { program := "ytpbhanpblmoepaa", sum := "789639330b3d8f65dedb8869d58c6983045e64c9787012339ced349b3db08987", func := "removalist/removalistlaw16.WireSpoils", spec := "wireSpoils", inPlace := ["internal/bytealg.IndexByteString", "internal/bytealg.IndexString"], unfollowed := true, recurses := true, named := ["internal/bytealg.MaxLen"], apart := false, narrowed := true }
def WireSpoilsUptoSaid : Prop := wireSpoilsUptoRow.holds Try.pinned (OpenSpec.upto wireSpoilsSpec)

/-- 'removalistlaw16.WireKinds', WHERE WHAT IT READS IS OF BULK AT MOST 1048576: true; the input reads as it did. -/
def wireKindsUptoRow : OpenClaim := { program := "ytpbhanpblmoepaa", sum := "789639330b3d8f65dedb8869d58c6983045e64c9787012339ced349b3db08987", func := "removalist/removalistlaw16.WireKinds", spec := "wireKinds", inPlace := ["internal/bytealg.IndexByteString", "internal/bytealg.IndexString"], unfollowed := true, recurses := true, named := ["internal/bytealg.MaxLen"], apart := false, narrowed := true }
def WireKindsUptoSaid : Prop := wireKindsUptoRow.holds Try.pinned (OpenSpec.upto wireKindsSpec)

/-- 'removalistlaw16.WireUnlike', WHERE WHAT IT READS IS OF BULK AT MOST 1048576: true; the input reads as it did. -/
def wireUnlikeUptoRow : OpenClaim := { program := "ytpbhanpblmoepaa", sum := "789639330b3d8f65dedb8869d58c6983045e64c9787012339ced349b3db08987", func := "removalist/removalistlaw16.WireUnlike", spec := "wireUnlike", inPlace := ["internal/bytealg.IndexByteString", "internal/bytealg.IndexString"], unfollowed := true, recurses := true, named := ["internal/bytealg.MaxLen"], apart := false, narrowed := true }
def WireUnlikeUptoSaid : Prop := wireUnlikeUptoRow.holds Try.pinned (OpenSpec.upto wireUnlikeSpec)

end Rows
end Go.Proofs.Ytpbhanpblmoepaa
