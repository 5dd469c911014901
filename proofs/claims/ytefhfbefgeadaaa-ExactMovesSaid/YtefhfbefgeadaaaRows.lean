/-
  No cell of these rows narrows 'for every input' (looked for: loops, veiled, ifaces, maps, wideKeys, modest, calm, conditions, laid).
  DERIVED. THE GIVEN ROWS OF THIS SEAT. 6 by the template 'for every input the law returns true; each argument reads behind the call as it read before'; 0 by the template 'total and deterministic' (their statements: YtefhfbefgeadaaaTotals.lean).
  GIVEN WITH THE SEED: the statements are not yours to turn. If you find one false, say at which input.
  Laid BY PROGRAM, IN A SANDBOX (cutbox-rows.mjs): the forced cells as the released guide's own fill.sh prints them over the translation 60032908125a5ef4… (all of the seat's roots in one cut). By AI agents, Wed Nov 11 2026. No macro, syntax, notation, axiom, sorry.
-/
import Derived.Test.YtefhfbefgeadaaaChecked
import GoSem.Claim
import GoSem.ClaimJoined
import GoSem.ClaimMapViews
import Derived.JoinedTies
import Derived.KernelRfl
namespace Go.Proofs.Ytefhfbefgeadaaa
/- THE CELL 'sum', in the pinned program and in every row, IS THE sha256 OF THE DUMP (.gsa) THAT YtefhfbefgeadaaaProg.lean LOADS. Nothing in Lean hashes anything: it is a label: what it is worth is what the hold of that sum in a sandbox is worth. -/
noncomputable def Try.pinned : Pinned := { name := "ytefhfbefgeadaaa", sum := "60032908125a5ef4eac2c613816f42a9fe27eb611b0e32926ac0e7b503d38cc3", checked := Try.checked }
namespace Rows
def none {H : Type} : Left H := { results := [], args := [] }

/-- 'graticulelaw01.ExactRounds': WHATEVER THE INPUT: true; the input reads as it did. -/
def exactRoundsSpec : ChangeSpec := { name := "exactRounds", fn := fun _ => fun
  | [d1, d2, d3, d4] => { results := [.lit (.bool true)], args := [d1, d2, d3, d4] }
  | _ => none }
def exactRoundsRow : OpenClaim := { program := "ytefhfbefgeadaaa", sum := "60032908125a5ef4eac2c613816f42a9fe27eb611b0e32926ac0e7b503d38cc3", func := "graticule/graticulelaw01.ExactRounds", spec := "exactRounds", apart := false }
def ExactRoundsSaid : Prop := exactRoundsRow.holds Try.pinned (OpenSpec.ofChange exactRoundsSpec)

/-- ITS FALSE NEIGHBOUR: 'it returns false'. Refute it at one input. -/
def exactRoundsWrong : ChangeSpec := { name := "exactRounds", fn := fun _ => fun
  | [d1, d2, d3, d4] => { results := [.lit (.bool false)], args := [d1, d2, d3, d4] }
  | _ => none }
def ExactRoundsWrongFalsely : Prop := exactRoundsRow.holds Try.pinned (OpenSpec.ofChange exactRoundsWrong)

/-- 'graticulelaw01.ExactAreas': WHATEVER THE INPUT: true; the input reads as it did. -/
def exactAreasSpec : ChangeSpec := { name := "exactAreas", fn := fun _ => fun
  | [d1, d2, d3] => { results := [.lit (.bool true)], args := [d1, d2, d3] }
  | _ => none }
def exactAreasRow : OpenClaim := { program := "ytefhfbefgeadaaa", sum := "60032908125a5ef4eac2c613816f42a9fe27eb611b0e32926ac0e7b503d38cc3", func := "graticule/graticulelaw01.ExactAreas", spec := "exactAreas", apart := false }
def ExactAreasSaid : Prop := exactAreasRow.holds Try.pinned (OpenSpec.ofChange exactAreasSpec)

/-- ITS FALSE NEIGHBOUR: 'it returns false'. Refute it at one input. -/
def exactAreasWrong : ChangeSpec := { name := "exactAreas", fn := fun _ => fun
  | [d1, d2, d3] => { results := [.lit (.bool false)], args := [d1, d2, d3] }
  | _ => none }
def ExactAreasWrongFalsely : Prop := exactAreasRow.holds Try.pinned (OpenSpec.ofChange exactAreasWrong)

/-- 'graticulelaw01.ExactBoxes': WHATEVER THE INPUT: true; the input reads as it did. -/
def exactBoxesSpec : ChangeSpec := { name := "exactBoxes", fn := fun _ => fun
  | [d] => { results := [.lit (.bool true)], args := [d] }
  | _ => none }
def exactBoxesRow : OpenClaim := { program := "ytefhfbefgeadaaa", sum := "60032908125a5ef4eac2c613816f42a9fe27eb611b0e32926ac0e7b503d38cc3", func := "graticule/graticulelaw01.ExactBoxes", spec := "exactBoxes", apart := false }
def ExactBoxesSaid : Prop := exactBoxesRow.holds Try.pinned (OpenSpec.ofChange exactBoxesSpec)

/-- ITS FALSE NEIGHBOUR: 'it returns false'. Refute it at one input. -/
def exactBoxesWrong : ChangeSpec := { name := "exactBoxes", fn := fun _ => fun
  | [d] => { results := [.lit (.bool false)], args := [d] }
  | _ => none }
def ExactBoxesWrongFalsely : Prop := exactBoxesRow.holds Try.pinned (OpenSpec.ofChange exactBoxesWrong)

/-- 'graticulelaw01.ExactLies': WHATEVER THE INPUT: true; the input reads as it did. -/
def exactLiesSpec : ChangeSpec := { name := "exactLies", fn := fun _ => fun
  | [d1, d2, d3, d4] => { results := [.lit (.bool true)], args := [d1, d2, d3, d4] }
  | _ => none }
def exactLiesRow : OpenClaim := { program := "ytefhfbefgeadaaa", sum := "60032908125a5ef4eac2c613816f42a9fe27eb611b0e32926ac0e7b503d38cc3", func := "graticule/graticulelaw01.ExactLies", spec := "exactLies", unfollowed := true, recurses := true, apart := false }
def ExactLiesSaid : Prop := exactLiesRow.holds Try.pinned (OpenSpec.ofChange exactLiesSpec)

/-- ITS FALSE NEIGHBOUR: 'it returns false'. Refute it at one input. -/
def exactLiesWrong : ChangeSpec := { name := "exactLies", fn := fun _ => fun
  | [d1, d2, d3, d4] => { results := [.lit (.bool false)], args := [d1, d2, d3, d4] }
  | _ => none }
def ExactLiesWrongFalsely : Prop := exactLiesRow.holds Try.pinned (OpenSpec.ofChange exactLiesWrong)

/-- 'graticulelaw01.ExactTurns': WHATEVER THE INPUT: true; the input reads as it did. -/
def exactTurnsSpec : ChangeSpec := { name := "exactTurns", fn := fun _ => fun
  | [d1, d2, d3, d4] => { results := [.lit (.bool true)], args := [d1, d2, d3, d4] }
  | _ => none }
def exactTurnsRow : OpenClaim := { program := "ytefhfbefgeadaaa", sum := "60032908125a5ef4eac2c613816f42a9fe27eb611b0e32926ac0e7b503d38cc3", func := "graticule/graticulelaw01.ExactTurns", spec := "exactTurns", unfollowed := true, recurses := true, apart := false }
def ExactTurnsSaid : Prop := exactTurnsRow.holds Try.pinned (OpenSpec.ofChange exactTurnsSpec)

/-- ITS FALSE NEIGHBOUR: 'it returns false'. Refute it at one input. -/
def exactTurnsWrong : ChangeSpec := { name := "exactTurns", fn := fun _ => fun
  | [d1, d2, d3, d4] => { results := [.lit (.bool false)], args := [d1, d2, d3, d4] }
  | _ => none }
def ExactTurnsWrongFalsely : Prop := exactTurnsRow.holds Try.pinned (OpenSpec.ofChange exactTurnsWrong)

/-- 'graticulelaw01.ExactMoves': WHATEVER THE INPUT: true; the input reads as it did. -/
def exactMovesSpec : ChangeSpec := { name := "exactMoves", fn := fun _ => fun
  | [d1, d2, d3, d4, d5] => { results := [.lit (.bool true)], args := [d1, d2, d3, d4, d5] }
  | _ => none }
def exactMovesRow : OpenClaim := { program := "ytefhfbefgeadaaa", sum := "60032908125a5ef4eac2c613816f42a9fe27eb611b0e32926ac0e7b503d38cc3", func := "graticule/graticulelaw01.ExactMoves", spec := "exactMoves", unfollowed := true, recurses := true, apart := false }
def ExactMovesSaid : Prop := exactMovesRow.holds Try.pinned (OpenSpec.ofChange exactMovesSpec)

/-- ITS FALSE NEIGHBOUR: 'it returns false'. Refute it at one input. -/
def exactMovesWrong : ChangeSpec := { name := "exactMoves", fn := fun _ => fun
  | [d1, d2, d3, d4, d5] => { results := [.lit (.bool false)], args := [d1, d2, d3, d4, d5] }
  | _ => none }
def ExactMovesWrongFalsely : Prop := exactMovesRow.holds Try.pinned (OpenSpec.ofChange exactMovesWrong)

/- THE SECOND FORM. 'bulk': how many values and letters a reading holds, each counted each time it is reached (what is shared counts as often as it is met; a slice's spare places count too). A statement '..UptoSaid' is the law's where the arguments, and the package variables that the reading takes, are together of bulk at most 1048576: NARROWER than '..Said'. Prove '..Said' where nothing that the law and all that it calls make is longer than what came in: it says more and counts as full. Else prove '..UptoSaid'. A law counts once. -/
mutual
def uptoBulk {H : Type} : DataW H → Nat
  | .lit (.string bytes) => bytes.length + 1
  | .lit _ => 1
  | .nil => 1
  | .ptr d => uptoBulk d + 1
  | .slice elems spare => uptoBulkAll elems + uptoBulkAll spare + 1
  | .agg parts => uptoBulkAll parts + 1
  | .iface _ d => uptoBulk d + 1
  | .map entries => uptoBulkEntries entries + 1
  | .held _ => 1
def uptoBulkAll {H : Type} : List (DataW H) → Nat
  | [] => 0
  | d :: r => uptoBulk d + uptoBulkAll r
def uptoBulkEntries {H : Type} : List (Lit × DataW H) → Nat
  | [] => 0
  | x :: r => uptoBulkEntry x + uptoBulkEntries r
def uptoBulkEntry {H : Type} : Lit × DataW H → Nat
  | (.string bytes, d) => bytes.length + uptoBulk d + 1
  | (_, d) => uptoBulk d + 1
 end
def uptoSmall : (H : Type) → List (DataW H) → Bool := fun _ ds => decide (uptoBulkAll ds ≤ 1048576)
def OpenSpec.upto (s : _root_.Go.ChangeSpec) : _root_.Go.OpenSpec := { _root_.Go.OpenSpec.ofChange s with cond := some uptoSmall }

/-- 'graticulelaw01.ExactRounds', WHERE WHAT IT READS IS OF BULK AT MOST 1048576: true; the input reads as it did. -/
def exactRoundsUptoRow : OpenClaim := { program := "ytefhfbefgeadaaa", sum := "60032908125a5ef4eac2c613816f42a9fe27eb611b0e32926ac0e7b503d38cc3", func := "graticule/graticulelaw01.ExactRounds", spec := "exactRounds", apart := false, narrowed := true }
def ExactRoundsUptoSaid : Prop := exactRoundsUptoRow.holds Try.pinned (OpenSpec.upto exactRoundsSpec)

/-- 'graticulelaw01.ExactAreas', WHERE WHAT IT READS IS OF BULK AT MOST 1048576: true; the input reads as it did. -/
def exactAreasUptoRow : OpenClaim := { program := "ytefhfbefgeadaaa", sum := "60032908125a5ef4eac2c613816f42a9fe27eb611b0e32926ac0e7b503d38cc3", func := "graticule/graticulelaw01.ExactAreas", spec := "exactAreas", apart := false, narrowed := true }
def ExactAreasUptoSaid : Prop := exactAreasUptoRow.holds Try.pinned (OpenSpec.upto exactAreasSpec)

/-- 'graticulelaw01.ExactBoxes', WHERE WHAT IT READS IS OF BULK AT MOST 1048576: true; the input reads as it did. -/
def exactBoxesUptoRow : OpenClaim := { program := "ytefhfbefgeadaaa", sum := "60032908125a5ef4eac2c613816f42a9fe27eb611b0e32926ac0e7b503d38cc3", func := "graticule/graticulelaw01.ExactBoxes", spec := "exactBoxes", apart := false, narrowed := true }
def ExactBoxesUptoSaid : Prop := exactBoxesUptoRow.holds Try.pinned (OpenSpec.upto exactBoxesSpec)

/-- 'graticulelaw01.ExactLies', WHERE WHAT IT READS IS OF BULK AT MOST 1048576: true; the input reads as it did. -/
def exactLiesUptoRow : OpenClaim := { program := "ytefhfbefgeadaaa", sum := "60032908125a5ef4eac2c613816f42a9fe27eb611b0e32926ac0e7b503d38cc3", func := "graticule/graticulelaw01.ExactLies", spec := "exactLies", unfollowed := true, recurses := true, apart := false, narrowed := true }
def ExactLiesUptoSaid : Prop := exactLiesUptoRow.holds Try.pinned (OpenSpec.upto exactLiesSpec)

/-- 'graticulelaw01.ExactTurns', WHERE WHAT IT READS IS OF BULK AT MOST 1048576: true; the input reads as it did. -/
def exactTurnsUptoRow : OpenClaim := { program := "ytefhfbefgeadaaa", sum := "60032908125a5ef4eac2c613816f42a9fe27eb611b0e32926ac0e7b503d38cc3", func := "graticule/graticulelaw01.ExactTurns", spec := "exactTurns", unfollowed := true, recurses := true, apart := false, narrowed := true }
def ExactTurnsUptoSaid : Prop := exactTurnsUptoRow.holds Try.pinned (OpenSpec.upto exactTurnsSpec)

/-- 'graticulelaw01.ExactMoves', WHERE WHAT IT READS IS OF BULK AT MOST 1048576: true; the input reads as it did. -/
def exactMovesUptoRow : OpenClaim := { program := "ytefhfbefgeadaaa", sum := "60032908125a5ef4eac2c613816f42a9fe27eb611b0e32926ac0e7b503d38cc3", func := "graticule/graticulelaw01.ExactMoves", spec := "exactMoves", unfollowed := true, recurses := true, apart := false, narrowed := true }
def ExactMovesUptoSaid : Prop := exactMovesUptoRow.holds Try.pinned (OpenSpec.upto exactMovesSpec)

end Rows
end Go.Proofs.Ytefhfbefgeadaaa
