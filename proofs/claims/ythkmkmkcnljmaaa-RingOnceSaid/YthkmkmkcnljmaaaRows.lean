/-
  No cell of these rows narrows 'for every input' (looked for: loops, veiled, ifaces, maps, wideKeys, modest, calm, conditions, laid).
  DERIVED. THE GIVEN ROWS OF THIS SEAT. 5 by the template 'for every input the law returns true; each argument reads behind the call as it read before'; 0 by the template 'total and deterministic' (their statements: YthkmkmkcnljmaaaTotals.lean).
  GIVEN WITH THE SEED: the statements are not yours to turn. If you find one false, say at which input.
  Laid BY PROGRAM, IN A SANDBOX (cutbox-rows.mjs): the forced cells as the released guide's own fill.sh prints them over the translation 51f326df43f644eb… (all of the seat's roots in one cut). By AI agents, Wed Nov 11 2026. No macro, syntax, notation, axiom, sorry.
-/
import Derived.Test.YthkmkmkcnljmaaaChecked
import GoSem.Claim
import GoSem.ClaimJoined
import GoSem.ClaimMapViews
import Derived.JoinedTies
import Derived.KernelRfl
namespace Go.Proofs.Ythkmkmkcnljmaaa
/- THE CELL 'sum', in the pinned program and in every row, IS THE sha256 OF THE DUMP (.gsa) THAT YthkmkmkcnljmaaaProg.lean LOADS. Nothing in Lean hashes anything: it is a label: what it is worth is what the hold of that sum in a sandbox is worth. -/
noncomputable def Try.pinned : Pinned := { name := "ythkmkmkcnljmaaa", sum := "51f326df43f644eb0b9e673f201d34be6c9e76f19a5f60fe45015c340317bed7", checked := Try.checked }
namespace Rows
def none {H : Type} : Left H := { results := [], args := [] }

/-- 'graticulelaw03.RingAreas': WHATEVER THE INPUT: true; the input reads as it did. -/
def ringAreasSpec : ChangeSpec := { name := "ringAreas", fn := fun _ => fun
  | [d] => { results := [.lit (.bool true)], args := [d] }
  | _ => none }
def ringAreasRow : OpenClaim := { program := "ythkmkmkcnljmaaa", sum := "51f326df43f644eb0b9e673f201d34be6c9e76f19a5f60fe45015c340317bed7", func := "graticule/graticulelaw03.RingAreas", spec := "ringAreas", unfollowed := true, recurses := true, plainKeys := false, apart := false }
def RingAreasSaid : Prop := ringAreasRow.holds Try.pinned (OpenSpec.ofChange ringAreasSpec)

/-- ITS FALSE NEIGHBOUR: 'it returns false'. Refute it at one input. -/
def ringAreasWrong : ChangeSpec := { name := "ringAreas", fn := fun _ => fun
  | [d] => { results := [.lit (.bool false)], args := [d] }
  | _ => none }
def RingAreasWrongFalsely : Prop := ringAreasRow.holds Try.pinned (OpenSpec.ofChange ringAreasWrong)

/-- 'graticulelaw03.RingOnce': WHATEVER THE INPUT: true; the input reads as it did. -/
def ringOnceSpec : ChangeSpec := { name := "ringOnce", fn := fun _ => fun
  | [d1, d2] => { results := [.lit (.bool true)], args := [d1, d2] }
  | _ => none }
def ringOnceRow : OpenClaim := { program := "ythkmkmkcnljmaaa", sum := "51f326df43f644eb0b9e673f201d34be6c9e76f19a5f60fe45015c340317bed7", func := "graticule/graticulelaw03.RingOnce", spec := "ringOnce", unfollowed := true, recurses := true, plainKeys := false, apart := false }
def RingOnceSaid : Prop := ringOnceRow.holds Try.pinned (OpenSpec.ofChange ringOnceSpec)

/-- ITS FALSE NEIGHBOUR: 'it returns false'. Refute it at one input. -/
def ringOnceWrong : ChangeSpec := { name := "ringOnce", fn := fun _ => fun
  | [d1, d2] => { results := [.lit (.bool false)], args := [d1, d2] }
  | _ => none }
def RingOnceWrongFalsely : Prop := ringOnceRow.holds Try.pinned (OpenSpec.ofChange ringOnceWrong)

/-- 'graticulelaw03.RingMoves': WHATEVER THE INPUT: true; the input reads as it did. -/
def ringMovesSpec : ChangeSpec := { name := "ringMoves", fn := fun _ => fun
  | [d1, d2, d3, d4, d5, d6] => { results := [.lit (.bool true)], args := [d1, d2, d3, d4, d5, d6] }
  | _ => none }
def ringMovesRow : OpenClaim := { program := "ythkmkmkcnljmaaa", sum := "51f326df43f644eb0b9e673f201d34be6c9e76f19a5f60fe45015c340317bed7", func := "graticule/graticulelaw03.RingMoves", spec := "ringMoves", unfollowed := true, recurses := true, plainKeys := false, apart := false }
def RingMovesSaid : Prop := ringMovesRow.holds Try.pinned (OpenSpec.ofChange ringMovesSpec)

/-- ITS FALSE NEIGHBOUR: 'it returns false'. Refute it at one input. -/
def ringMovesWrong : ChangeSpec := { name := "ringMoves", fn := fun _ => fun
  | [d1, d2, d3, d4, d5, d6] => { results := [.lit (.bool false)], args := [d1, d2, d3, d4, d5, d6] }
  | _ => none }
def RingMovesWrongFalsely : Prop := ringMovesRow.holds Try.pinned (OpenSpec.ofChange ringMovesWrong)

/-- 'graticulelaw03.RingSigns': WHATEVER THE INPUT: true; the input reads as it did. -/
def ringSignsSpec : ChangeSpec := { name := "ringSigns", fn := fun _ => fun
  | [d1, d2, d3, d4] => { results := [.lit (.bool true)], args := [d1, d2, d3, d4] }
  | _ => none }
def ringSignsRow : OpenClaim := { program := "ythkmkmkcnljmaaa", sum := "51f326df43f644eb0b9e673f201d34be6c9e76f19a5f60fe45015c340317bed7", func := "graticule/graticulelaw03.RingSigns", spec := "ringSigns", unfollowed := true, recurses := true, plainKeys := false, apart := false }
def RingSignsSaid : Prop := ringSignsRow.holds Try.pinned (OpenSpec.ofChange ringSignsSpec)

/-- ITS FALSE NEIGHBOUR: 'it returns false'. Refute it at one input. -/
def ringSignsWrong : ChangeSpec := { name := "ringSigns", fn := fun _ => fun
  | [d1, d2, d3, d4] => { results := [.lit (.bool false)], args := [d1, d2, d3, d4] }
  | _ => none }
def RingSignsWrongFalsely : Prop := ringSignsRow.holds Try.pinned (OpenSpec.ofChange ringSignsWrong)

/-- 'graticulelaw03.RingTurns': WHATEVER THE INPUT: true; the input reads as it did. -/
def ringTurnsSpec : ChangeSpec := { name := "ringTurns", fn := fun _ => fun
  | [d1, d2, d3] => { results := [.lit (.bool true)], args := [d1, d2, d3] }
  | _ => none }
def ringTurnsRow : OpenClaim := { program := "ythkmkmkcnljmaaa", sum := "51f326df43f644eb0b9e673f201d34be6c9e76f19a5f60fe45015c340317bed7", func := "graticule/graticulelaw03.RingTurns", spec := "ringTurns", unfollowed := true, recurses := true, plainKeys := false, apart := false }
def RingTurnsSaid : Prop := ringTurnsRow.holds Try.pinned (OpenSpec.ofChange ringTurnsSpec)

/-- ITS FALSE NEIGHBOUR: 'it returns false'. Refute it at one input. -/
def ringTurnsWrong : ChangeSpec := { name := "ringTurns", fn := fun _ => fun
  | [d1, d2, d3] => { results := [.lit (.bool false)], args := [d1, d2, d3] }
  | _ => none }
def RingTurnsWrongFalsely : Prop := ringTurnsRow.holds Try.pinned (OpenSpec.ofChange ringTurnsWrong)

/- THE SECOND FORM. 'bulk': how many values and letters a reading holds, each counted each time it is reached (what is shared counts as often as it is met; a slice's spare places count too). A statement '..UptoSaid' is the law's where the arguments, and the package variables that the reading takes, are together of bulk at most 1048576: NARROWER than '..Said'. Prove '..Said' where nothing that the law and all that it calls make is longer than what came in: it says more and counts as full. Else prove '..UptoSaid'. A law counts once. -/
mutual
def uptoBulk {H : Type} : DataW H → Nat
  | .lit (.string bytes) => bytes.length + 1
  | .lit _ => 1
  | .nil => 1
  | .ptr d => uptoBulk d + 1
  | .slice elems spare => uptoBulkAll elems + uptoBulkAll spare + 1
  | .agg parts => uptoBulkAll parts + 1
  | .iface _ d => uptoBulk d + 1
  | .map entries => uptoBulkEntries entries + 1
  | .held _ => 1
def uptoBulkAll {H : Type} : List (DataW H) → Nat
  | [] => 0
  | d :: r => uptoBulk d + uptoBulkAll r
def uptoBulkEntries {H : Type} : List (Lit × DataW H) → Nat
  | [] => 0
  | x :: r => uptoBulkEntry x + uptoBulkEntries r
def uptoBulkEntry {H : Type} : Lit × DataW H → Nat
  | (.string bytes, d) => bytes.length + uptoBulk d + 1
  | (_, d) => uptoBulk d + 1
 end
def uptoSmall : (H : Type) → List (DataW H) → Bool := fun _ ds => decide (uptoBulkAll ds ≤ 1048576)
def OpenSpec.upto (s : _root_.Go.ChangeSpec) : _root_.Go.OpenSpec := { _root_.Go.OpenSpec.ofChange s with cond := some uptoSmall }

/-- 'graticulelaw03.RingAreas', WHERE WHAT IT READS IS OF BULK AT MOST 1048576: true; the input reads as it did. -/
def ringAreasUptoRow : OpenClaim := { program := "ythkmkmkcnljmaaa", sum := "51f326df43f644eb0b9e673f201d34be6c9e76f19a5f60fe45015c340317bed7", func := "graticule/graticulelaw03.RingAreas", spec := "ringAreas", unfollowed := true, recurses := true, plainKeys := false, apart := false, narrowed := true }
def RingAreasUptoSaid : Prop := ringAreasUptoRow.holds Try.pinned (OpenSpec.upto ringAreasSpec)

/-- 'graticulelaw03.RingOnce', WHERE WHAT IT READS IS OF BULK AT MOST 1048576: true; the input reads as it did. -/
def ringOnceUptoRow : OpenClaim := { program := "ythkmkmkcnljmaaa", sum := "51f326df43f644eb0b9e673f201d34be6c9e76f19a5f60fe45015c340317bed7", func := "graticule/graticulelaw03.RingOnce", spec := "ringOnce", unfollowed := true, recurses := true, plainKeys := false, apart := false, narrowed := true }
def RingOnceUptoSaid : Prop := ringOnceUptoRow.holds Try.pinned (OpenSpec.upto ringOnceSpec)

/-- 'graticulelaw03.RingMoves', WHERE WHAT IT READS IS OF BULK AT MOST 1048576: true; the input reads as it did. -/
def ringMovesUptoRow : OpenClaim := { program := "ythkmkmkcnljmaaa", sum := "51f326df43f644eb0b9e673f201d34be6c9e76f19a5f60fe45015c340317bed7", func := "graticule/graticulelaw03.RingMoves", spec := "ringMoves", unfollowed := true, recurses := true, plainKeys := false, apart := false, narrowed := true }
def RingMovesUptoSaid : Prop := ringMovesUptoRow.holds Try.pinned (OpenSpec.upto ringMovesSpec)

/-- 'graticulelaw03.RingSigns', WHERE WHAT IT READS IS OF BULK AT MOST 1048576: true; the input reads as it did. -/
def ringSignsUptoRow : OpenClaim := { program := "ythkmkmkcnljmaaa", sum := "51f326df43f644eb0b9e673f201d34be6c9e76f19a5f60fe45015c340317bed7", func := "graticule/graticulelaw03.RingSigns", spec := "ringSigns", unfollowed := true, recurses := true, plainKeys := false, apart := false, narrowed := true }
def RingSignsUptoSaid : Prop := ringSignsUptoRow.holds Try.pinned (OpenSpec.upto ringSignsSpec)

/-- 'graticulelaw03.RingTurns', WHERE WHAT IT READS IS OF BULK AT MOST 1048576: true; the input reads as it did. -/
def ringTurnsUptoRow : OpenClaim := { program := "ythkmkmkcnljmaaa", sum := "51f326df43f644eb0b9e673f201d34be6c9e76f19a5f60fe45015c340317bed7", func := "graticule/graticulelaw03.RingTurns", spec := "ringTurns", unfollowed := true, recurses := true, plainKeys := false, apart := false, narrowed := true }
def RingTurnsUptoSaid : Prop := ringTurnsUptoRow.holds Try.pinned (OpenSpec.upto ringTurnsSpec)

end Rows
end Go.Proofs.Ythkmkmkcnljmaaa
