/-
  No cell of these rows narrows 'for every input' (looked for: loops, veiled, ifaces, maps, wideKeys, modest, calm, conditions, laid).
  DERIVED. THE GIVEN ROWS OF THIS SEAT. 4 by the template 'for every input the law returns true; each argument reads behind the call as it read before'; 0 by the template 'total and deterministic' (their statements: YtaobbaohelpdgaaTotals.lean).
  GIVEN WITH THE SEED: the statements are not yours to turn. If you find one false, say at which input.
  Laid BY PROGRAM, IN A SANDBOX (cutbox-rows.mjs): the forced cells as the released guide's own fill.sh prints them over the translation b9bdfa4abaf7ae76… (all of the seat's roots in one cut). By AI agents, Wed Nov 11 2026. No macro, syntax, notation, axiom, sorry.
-/
import Derived.Test.YtaobbaohelpdgaaChecked
import GoSem.Claim
import GoSem.ClaimJoined
import GoSem.ClaimMapViews
import Derived.JoinedTies
import Derived.KernelRfl
namespace Go.Proofs.Ytaobbaohelpdgaa
/- THE CELL 'sum', in the pinned program and in every row, IS THE sha256 OF THE DUMP (.gsa) THAT YtaobbaohelpdgaaProg.lean LOADS. Nothing in Lean hashes anything: it is a label: what it is worth is what the hold of that sum in a sandbox is worth. -/
noncomputable def Try.pinned : Pinned := { name := "ytaobbaohelpdgaa", sum := "b9bdfa4abaf7ae7664131b5dc6ca7edfc5c212ad6e6ae404e39725d0e310a588", checked := Try.checked }
namespace Rows
def none {H : Type} : Left H := { results := [], args := [] }

/-- 'graticulelaw26.BlockMany': WHATEVER THE INPUT: true; the input reads as it did. -/
def blockManySpec : ChangeSpec := { name := "blockMany", fn := fun _ => fun
  | [d1, d2] => { results := [.lit (.bool true)], args := [d1, d2] }
  | _ => none }
def blockManyRow : OpenClaim := { program := "ytaobbaohelpdgaa", sum := "b9bdfa4abaf7ae7664131b5dc6ca7edfc5c212ad6e6ae404e39725d0e310a588", func := "graticule/graticulelaw26.BlockMany", spec := "blockMany", unfollowed := true, recurses := true, apart := false }
def BlockManySaid : Prop := blockManyRow.holds Try.pinned (OpenSpec.ofChange blockManySpec)

/-- ITS FALSE NEIGHBOUR: 'it returns false'. Refute it at one input. -/
def blockManyWrong : ChangeSpec := { name := "blockMany", fn := fun _ => fun
  | [d1, d2] => { results := [.lit (.bool false)], args := [d1, d2] }
  | _ => none }
def BlockManyWrongFalsely : Prop := blockManyRow.holds Try.pinned (OpenSpec.ofChange blockManyWrong)

/-- 'graticulelaw26.BlockReads': WHATEVER THE INPUT: true; the input reads as it did. -/
def blockReadsSpec : ChangeSpec := { name := "blockReads", fn := fun _ => fun
  | [d] => { results := [.lit (.bool true)], args := [d] }
  | _ => none }
def blockReadsRow : OpenClaim := { program := "ytaobbaohelpdgaa", sum := "b9bdfa4abaf7ae7664131b5dc6ca7edfc5c212ad6e6ae404e39725d0e310a588", func := "graticule/graticulelaw26.BlockReads", spec := "blockReads", unfollowed := true, recurses := true, apart := false }
def BlockReadsSaid : Prop := blockReadsRow.holds Try.pinned (OpenSpec.ofChange blockReadsSpec)

/-- ITS FALSE NEIGHBOUR: 'it returns false'. Refute it at one input. -/
def blockReadsWrong : ChangeSpec := { name := "blockReads", fn := fun _ => fun
  | [d] => { results := [.lit (.bool false)], args := [d] }
  | _ => none }
def BlockReadsWrongFalsely : Prop := blockReadsRow.holds Try.pinned (OpenSpec.ofChange blockReadsWrong)

/-- 'graticulelaw26.BlockTells': WHATEVER THE INPUT: true; the input reads as it did. -/
def blockTellsSpec : ChangeSpec := { name := "blockTells", fn := fun _ => fun
  | [d1, d2] => { results := [.lit (.bool true)], args := [d1, d2] }
  | _ => none }
def blockTellsRow : OpenClaim := { program := "ytaobbaohelpdgaa", sum := "b9bdfa4abaf7ae7664131b5dc6ca7edfc5c212ad6e6ae404e39725d0e310a588", func := "graticule/graticulelaw26.BlockTells", spec := "blockTells", unfollowed := true, recurses := true, apart := false }
def BlockTellsSaid : Prop := blockTellsRow.holds Try.pinned (OpenSpec.ofChange blockTellsSpec)

/-- ITS FALSE NEIGHBOUR: 'it returns false'. Refute it at one input. -/
def blockTellsWrong : ChangeSpec := { name := "blockTells", fn := fun _ => fun
  | [d1, d2] => { results := [.lit (.bool false)], args := [d1, d2] }
  | _ => none }
def BlockTellsWrongFalsely : Prop := blockTellsRow.holds Try.pinned (OpenSpec.ofChange blockTellsWrong)

/-- 'graticulelaw26.BlockCuts': WHATEVER THE INPUT: true; the input reads as it did. -/
def blockCutsSpec : ChangeSpec := { name := "blockCuts", fn := fun _ => fun
  | [d1, d2, d3] => { results := [.lit (.bool true)], args := [d1, d2, d3] }
  | _ => none }
def blockCutsRow : OpenClaim := { program := "ytaobbaohelpdgaa", sum := "b9bdfa4abaf7ae7664131b5dc6ca7edfc5c212ad6e6ae404e39725d0e310a588", func := "graticule/graticulelaw26.BlockCuts", spec := "blockCuts", unfollowed := true, recurses := true, apart := false }
def BlockCutsSaid : Prop := blockCutsRow.holds Try.pinned (OpenSpec.ofChange blockCutsSpec)

/-- ITS FALSE NEIGHBOUR: 'it returns false'. Refute it at one input. -/
def blockCutsWrong : ChangeSpec := { name := "blockCuts", fn := fun _ => fun
  | [d1, d2, d3] => { results := [.lit (.bool false)], args := [d1, d2, d3] }
  | _ => none }
def BlockCutsWrongFalsely : Prop := blockCutsRow.holds Try.pinned (OpenSpec.ofChange blockCutsWrong)

/- THE SECOND FORM. 'bulk': how many values and letters a reading holds, each counted each time it is reached (what is shared counts as often as it is met; a slice's spare places count too). A statement '..UptoSaid' is the law's where the arguments, and the package variables that the reading takes, are together of bulk at most 1048576: NARROWER than '..Said'. Prove '..Said' where nothing that the law and all that it calls make is longer than what came in: it says more and counts as full. Else prove '..UptoSaid'. A law counts once. -/
mutual
def uptoBulk {H : Type} : DataW H → Nat
  | .lit (.string bytes) => bytes.length + 1
  | .lit _ => 1
  | .nil => 1
  | .ptr d => uptoBulk d + 1
  | .slice elems spare => uptoBulkAll elems + uptoBulkAll spare + 1
  | .agg parts => uptoBulkAll parts + 1
  | .iface _ d => uptoBulk d + 1
  | .map entries => uptoBulkEntries entries + 1
  | .held _ => 1
def uptoBulkAll {H : Type} : List (DataW H) → Nat
  | [] => 0
  | d :: r => uptoBulk d + uptoBulkAll r
def uptoBulkEntries {H : Type} : List (Lit × DataW H) → Nat
  | [] => 0
  | x :: r => uptoBulkEntry x + uptoBulkEntries r
def uptoBulkEntry {H : Type} : Lit × DataW H → Nat
  | (.string bytes, d) => bytes.length + uptoBulk d + 1
  | (_, d) => uptoBulk d + 1
 end
def uptoSmall : (H : Type) → List (DataW H) → Bool := fun _ ds => decide (uptoBulkAll ds ≤ 1048576)
def OpenSpec.upto (s : _root_.Go.ChangeSpec) : _root_.Go.OpenSpec := { _root_.Go.OpenSpec.ofChange s with cond := some uptoSmall }

/-- 'graticulelaw26.BlockMany', WHERE WHAT IT READS IS OF BULK AT MOST 1048576: true; the input reads as it did. -/
def blockManyUptoRow : OpenClaim := { program := "ytaobbaohelpdgaa", sum := "b9bdfa4abaf7ae7664131b5dc6ca7edfc5c212ad6e6ae404e39725d0e310a588", func := "graticule/graticulelaw26.BlockMany", spec := "blockMany", unfollowed := true, recurses := true, apart := false, narrowed := true }
def BlockManyUptoSaid : Prop := blockManyUptoRow.holds Try.pinned (OpenSpec.upto blockManySpec)

/-- 'graticulelaw26.BlockReads', WHERE WHAT IT READS IS OF BULK AT MOST 1048576: true; the input reads as it did. -/
def blockReadsUptoRow : OpenClaim := { program := "ytaobbaohelpdgaa", sum := "b9bdfa4abaf7ae7664131b5dc6ca7edfc5c212ad6e6ae404e39725d0e310a588", func := "graticule/graticulelaw26.BlockReads", spec := "blockReads", unfollowed := true, recurses := true, apart := false, narrowed := true }
def BlockReadsUptoSaid : Prop := blockReadsUptoRow.holds Try.pinned (OpenSpec.upto blockReadsSpec)

/-- 'graticulelaw26.BlockTells', WHERE WHAT IT READS IS OF BULK AT MOST 1048576: true; the input reads as it did. -/
def blockTellsUptoRow : OpenClaim := { program := "ytaobbaohelpdgaa", sum := "b9bdfa4abaf7ae7664131b5dc6ca7edfc5c212ad6e6ae404e39725d0e310a588", func := "graticule/graticulelaw26.BlockTells", spec := "blockTells", unfollowed := true, recurses := true, apart := false, narrowed := true }
def BlockTellsUptoSaid : Prop := blockTellsUptoRow.holds Try.pinned (OpenSpec.upto blockTellsSpec)

/-- 'graticulelaw26.BlockCuts', WHERE WHAT IT READS IS OF BULK AT MOST 1048576: true; the input reads as it did. -/
def blockCutsUptoRow : OpenClaim := { program := "ytaobbaohelpdgaa", sum := "b9bdfa4abaf7ae7664131b5dc6ca7edfc5c212ad6e6ae404e39725d0e310a588", func := "graticule/graticulelaw26.BlockCuts", spec := "blockCuts", unfollowed := true, recurses := true, apart := false, narrowed := true }
def BlockCutsUptoSaid : Prop := blockCutsUptoRow.holds Try.pinned (OpenSpec.upto blockCutsSpec)

end Rows
end Go.Proofs.Ytaobbaohelpdgaa
