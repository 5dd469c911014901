/-
  No cell of these rows narrows 'for every input' (looked for: loops, veiled, ifaces, maps, wideKeys, modest, calm, conditions, laid).
  DERIVED. THE GIVEN ROWS OF THIS SEAT. 4 by the template 'for every input the law returns true; each argument reads behind the call as it read before'; 0 by the template 'total and deterministic' (their statements: YtehmjkdgakinbaaTotals.lean).
  GIVEN WITH THE SEED: the statements are not yours to turn. If you find one false, say at which input.
  Laid BY PROGRAM, IN A SANDBOX (cutbox-rows.mjs): the forced cells as the released guide's own fill.sh prints them over the translation eb684db5c94c1bdd… (all of the seat's roots in one cut). By AI agents, Wed Nov 11 2026. No macro, syntax, notation, axiom, sorry.
-/
import Derived.Test.YtehmjkdgakinbaaChecked
import GoSem.Claim
import GoSem.ClaimJoined
import GoSem.ClaimMapViews
import Derived.JoinedTies
import Derived.KernelRfl
namespace Go.Proofs.Ytehmjkdgakinbaa
/- THE CELL 'sum', in the pinned program and in every row, IS THE sha256 OF THE DUMP (.gsa) THAT YtehmjkdgakinbaaProg.lean LOADS. Nothing in Lean hashes anything: it is a label: what it is worth is what the hold of that sum in a sandbox is worth. -/
noncomputable def Try.pinned : Pinned := { name := "ytehmjkdgakinbaa", sum := "eb684db5c94c1bdd61cb1e9c83d51b0b4f55df233d491f52e4f957c4d8f159a6", checked := Try.checked }
namespace Rows
def none {H : Type} : Left H := { results := [], args := [] }

/-- 'graticulelaw20.WindowShows': WHATEVER THE INPUT: true; the input reads as it did. -/
def windowShowsSpec : ChangeSpec := { name := "windowShows", fn := fun _ => fun
  | [d1, d2, d3, d4] => { results := [.lit (.bool true)], args := [d1, d2, d3, d4] }
  | _ => none }
def windowShowsRow : OpenClaim := { program := "ytehmjkdgakinbaa", sum := "eb684db5c94c1bdd61cb1e9c83d51b0b4f55df233d491f52e4f957c4d8f159a6", func := "graticule/graticulelaw20.WindowShows", spec := "windowShows", unfollowed := true, recurses := true, apart := false }
def WindowShowsSaid : Prop := windowShowsRow.holds Try.pinned (OpenSpec.ofChange windowShowsSpec)

/-- ITS FALSE NEIGHBOUR: 'it returns false'. Refute it at one input. -/
def windowShowsWrong : ChangeSpec := { name := "windowShows", fn := fun _ => fun
  | [d1, d2, d3, d4] => { results := [.lit (.bool false)], args := [d1, d2, d3, d4] }
  | _ => none }
def WindowShowsWrongFalsely : Prop := windowShowsRow.holds Try.pinned (OpenSpec.ofChange windowShowsWrong)

/-- 'graticulelaw20.WindowFew': WHATEVER THE INPUT: true; the input reads as it did. -/
def windowFewSpec : ChangeSpec := { name := "windowFew", fn := fun _ => fun
  | [d1, d2, d3, d4] => { results := [.lit (.bool true)], args := [d1, d2, d3, d4] }
  | _ => none }
def windowFewRow : OpenClaim := { program := "ytehmjkdgakinbaa", sum := "eb684db5c94c1bdd61cb1e9c83d51b0b4f55df233d491f52e4f957c4d8f159a6", func := "graticule/graticulelaw20.WindowFew", spec := "windowFew", unfollowed := true, recurses := true, apart := false }
def WindowFewSaid : Prop := windowFewRow.holds Try.pinned (OpenSpec.ofChange windowFewSpec)

/-- ITS FALSE NEIGHBOUR: 'it returns false'. Refute it at one input. -/
def windowFewWrong : ChangeSpec := { name := "windowFew", fn := fun _ => fun
  | [d1, d2, d3, d4] => { results := [.lit (.bool false)], args := [d1, d2, d3, d4] }
  | _ => none }
def WindowFewWrongFalsely : Prop := windowFewRow.holds Try.pinned (OpenSpec.ofChange windowFewWrong)

/-- 'graticulelaw20.WindowTiles': WHATEVER THE INPUT: true; the input reads as it did. -/
def windowTilesSpec : ChangeSpec := { name := "windowTiles", fn := fun _ => fun
  | [d1, d2, d3] => { results := [.lit (.bool true)], args := [d1, d2, d3] }
  | _ => none }
def windowTilesRow : OpenClaim := { program := "ytehmjkdgakinbaa", sum := "eb684db5c94c1bdd61cb1e9c83d51b0b4f55df233d491f52e4f957c4d8f159a6", func := "graticule/graticulelaw20.WindowTiles", spec := "windowTiles", unfollowed := true, recurses := true, apart := false }
def WindowTilesSaid : Prop := windowTilesRow.holds Try.pinned (OpenSpec.ofChange windowTilesSpec)

/-- ITS FALSE NEIGHBOUR: 'it returns false'. Refute it at one input. -/
def windowTilesWrong : ChangeSpec := { name := "windowTiles", fn := fun _ => fun
  | [d1, d2, d3] => { results := [.lit (.bool false)], args := [d1, d2, d3] }
  | _ => none }
def WindowTilesWrongFalsely : Prop := windowTilesRow.holds Try.pinned (OpenSpec.ofChange windowTilesWrong)

/-- 'graticulelaw20.WindowLocal': WHATEVER THE INPUT: true; the input reads as it did. -/
def windowLocalSpec : ChangeSpec := { name := "windowLocal", fn := fun _ => fun
  | [d1, d2] => { results := [.lit (.bool true)], args := [d1, d2] }
  | _ => none }
def windowLocalRow : OpenClaim := { program := "ytehmjkdgakinbaa", sum := "eb684db5c94c1bdd61cb1e9c83d51b0b4f55df233d491f52e4f957c4d8f159a6", func := "graticule/graticulelaw20.WindowLocal", spec := "windowLocal", unfollowed := true, recurses := true, apart := false }
def WindowLocalSaid : Prop := windowLocalRow.holds Try.pinned (OpenSpec.ofChange windowLocalSpec)

/-- ITS FALSE NEIGHBOUR: 'it returns false'. Refute it at one input. -/
def windowLocalWrong : ChangeSpec := { name := "windowLocal", fn := fun _ => fun
  | [d1, d2] => { results := [.lit (.bool false)], args := [d1, d2] }
  | _ => none }
def WindowLocalWrongFalsely : Prop := windowLocalRow.holds Try.pinned (OpenSpec.ofChange windowLocalWrong)

/- THE SECOND FORM. 'bulk': how many values and letters a reading holds, each counted each time it is reached (what is shared counts as often as it is met; a slice's spare places count too). A statement '..UptoSaid' is the law's where the arguments, and the package variables that the reading takes, are together of bulk at most 1048576: NARROWER than '..Said'. Prove '..Said' where nothing that the law and all that it calls make is longer than what came in: it says more and counts as full. Else prove '..UptoSaid'. A law counts once. -/
mutual
def uptoBulk {H : Type} : DataW H → Nat
  | .lit (.string bytes) => bytes.length + 1
  | .lit _ => 1
  | .nil => 1
  | .ptr d => uptoBulk d + 1
  | .slice elems spare => uptoBulkAll elems + uptoBulkAll spare + 1
  | .agg parts => uptoBulkAll parts + 1
  | .iface _ d => uptoBulk d + 1
  | .map entries => uptoBulkEntries entries + 1
  | .held _ => 1
def uptoBulkAll {H : Type} : List (DataW H) → Nat
  | [] => 0
  | d :: r => uptoBulk d + uptoBulkAll r
def uptoBulkEntries {H : Type} : List (Lit × DataW H) → Nat
  | [] => 0
  | x :: r => uptoBulkEntry x + uptoBulkEntries r
def uptoBulkEntry {H : Type} : Lit × DataW H → Nat
  | (.string bytes, d) => bytes.length + uptoBulk d + 1
  | (_, d) => uptoBulk d + 1
 end
def uptoSmall : (H : Type) → List (DataW H) → Bool := fun _ ds => decide (uptoBulkAll ds ≤ 1048576)
def OpenSpec.upto (s : _root_.Go.ChangeSpec) : _root_.Go.OpenSpec := { _root_.Go.OpenSpec.ofChange s with cond := some uptoSmall }

/-- 'graticulelaw20.WindowShows', WHERE WHAT IT READS IS OF BULK AT MOST 1048576: true; the input reads as it did. -/
def windowShowsUptoRow : OpenClaim := { program := "ytehmjkdgakinbaa", sum := "eb684db5c94c1bdd61cb1e9c83d51b0b4f55df233d491f52e4f957c4d8f159a6", func := "graticule/graticulelaw20.WindowShows", spec := "windowShows", unfollowed := true, recurses := true, apart := false, narrowed := true }
def WindowShowsUptoSaid : Prop := windowShowsUptoRow.holds Try.pinned (OpenSpec.upto windowShowsSpec)

/-- 'graticulelaw20.WindowFew', WHERE WHAT IT READS IS OF BULK AT MOST 1048576: true; the input reads as it did. -/
def windowFewUptoRow : OpenClaim := { program := "ytehmjkdgakinbaa", sum := "eb684db5c94c1bdd61cb1e9c83d51b0b4f55df233d491f52e4f957c4d8f159a6", func := "graticule/graticulelaw20.WindowFew", spec := "windowFew", unfollowed := true, recurses := true, apart := false, narrowed := true }
def WindowFewUptoSaid : Prop := windowFewUptoRow.holds Try.pinned (OpenSpec.upto windowFewSpec)

/-- 'graticulelaw20.WindowTiles', WHERE WHAT IT READS IS OF BULK AT MOST 1048576: true; the input reads as it did. -/
def windowTilesUptoRow : OpenClaim := { program := "ytehmjkdgakinbaa", sum := "eb684db5c94c1bdd61cb1e9c83d51b0b4f55df233d491f52e4f957c4d8f159a6", func := "graticule/graticulelaw20.WindowTiles", spec := "windowTiles", unfollowed := true, recurses := true, apart := false, narrowed := true }
def WindowTilesUptoSaid : Prop := windowTilesUptoRow.holds Try.pinned (OpenSpec.upto windowTilesSpec)

/-- 'graticulelaw20.WindowLocal', WHERE WHAT IT READS IS OF BULK AT MOST 1048576: true; the input reads as it did. -/
def windowLocalUptoRow : OpenClaim := { program := "ytehmjkdgakinbaa", sum := "eb684db5c94c1bdd61cb1e9c83d51b0b4f55df233d491f52e4f957c4d8f159a6", func := "graticule/graticulelaw20.WindowLocal", spec := "windowLocal", unfollowed := true, recurses := true, apart := false, narrowed := true }
def WindowLocalUptoSaid : Prop := windowLocalUptoRow.holds Try.pinned (OpenSpec.upto windowLocalSpec)

end Rows
end Go.Proofs.Ytehmjkdgakinbaa
