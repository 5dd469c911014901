/-
  No cell of these rows narrows 'for every input' (looked for: loops, veiled, ifaces, maps, wideKeys, modest, calm, conditions, laid).
  DERIVED. THE GIVEN ROWS OF THIS SEAT. 4 by the template 'for every input the law returns true; each argument reads behind the call as it read before'; 0 by the template 'total and deterministic' (their statements: YthjcpojcpafbjaaTotals.lean).
  GIVEN WITH THE SEED: the statements are not yours to turn. If you find one false, say at which input.
  Laid BY PROGRAM, IN A SANDBOX (cutbox-rows.mjs): the forced cells as the released guide's own fill.sh prints them over the translation 6a6fab726048ad37… (all of the seat's roots in one cut). By AI agents, Wed Nov 11 2026. No macro, syntax, notation, axiom, sorry.
-/
import Derived.Test.YthjcpojcpafbjaaChecked
import GoSem.Claim
import GoSem.ClaimJoined
import GoSem.ClaimMapViews
import Derived.JoinedTies
import Derived.KernelRfl
namespace Go.Proofs.Ythjcpojcpafbjaa
/- THE CELL 'sum', in the pinned program and in every row, IS THE sha256 OF THE DUMP (.gsa) THAT YthjcpojcpafbjaaProg.lean LOADS. Nothing in Lean hashes anything: it is a label: what it is worth is what the hold of that sum in a sandbox is worth. -/
noncomputable def Try.pinned : Pinned := { name := "ythjcpojcpafbjaa", sum := "6a6fab726048ad37b0e9d284694ab896ae04d262bc9f2d9869f899c066736724", checked := Try.checked }
namespace Rows
def none {H : Type} : Left H := { results := [], args := [] }

/-- 'graticulelaw22.LineclipJoins': WHATEVER THE INPUT: true; the input reads as it did. -/
def lineclipJoinsSpec : ChangeSpec := { name := "lineclipJoins", fn := fun _ => fun
  | [d] => { results := [.lit (.bool true)], args := [d] }
  | _ => none }
def lineclipJoinsRow : OpenClaim := { program := "ythjcpojcpafbjaa", sum := "6a6fab726048ad37b0e9d284694ab896ae04d262bc9f2d9869f899c066736724", func := "graticule/graticulelaw22.LineclipJoins", spec := "lineclipJoins", apart := false }
def LineclipJoinsSaid : Prop := lineclipJoinsRow.holds Try.pinned (OpenSpec.ofChange lineclipJoinsSpec)

/-- ITS FALSE NEIGHBOUR: 'it returns false'. Refute it at one input. -/
def lineclipJoinsWrong : ChangeSpec := { name := "lineclipJoins", fn := fun _ => fun
  | [d] => { results := [.lit (.bool false)], args := [d] }
  | _ => none }
def LineclipJoinsWrongFalsely : Prop := lineclipJoinsRow.holds Try.pinned (OpenSpec.ofChange lineclipJoinsWrong)

/-- 'graticulelaw22.LineclipParts': WHATEVER THE INPUT: true; the input reads as it did. -/
def lineclipPartsSpec : ChangeSpec := { name := "lineclipParts", fn := fun _ => fun
  | [d1, d2] => { results := [.lit (.bool true)], args := [d1, d2] }
  | _ => none }
def lineclipPartsRow : OpenClaim := { program := "ythjcpojcpafbjaa", sum := "6a6fab726048ad37b0e9d284694ab896ae04d262bc9f2d9869f899c066736724", func := "graticule/graticulelaw22.LineclipParts", spec := "lineclipParts", apart := false }
def LineclipPartsSaid : Prop := lineclipPartsRow.holds Try.pinned (OpenSpec.ofChange lineclipPartsSpec)

/-- ITS FALSE NEIGHBOUR: 'it returns false'. Refute it at one input. -/
def lineclipPartsWrong : ChangeSpec := { name := "lineclipParts", fn := fun _ => fun
  | [d1, d2] => { results := [.lit (.bool false)], args := [d1, d2] }
  | _ => none }
def LineclipPartsWrongFalsely : Prop := lineclipPartsRow.holds Try.pinned (OpenSpec.ofChange lineclipPartsWrong)

/-- 'graticulelaw22.LineclipTurns': WHATEVER THE INPUT: true; the input reads as it did. -/
def lineclipTurnsSpec : ChangeSpec := { name := "lineclipTurns", fn := fun _ => fun
  | [d1, d2] => { results := [.lit (.bool true)], args := [d1, d2] }
  | _ => none }
def lineclipTurnsRow : OpenClaim := { program := "ythjcpojcpafbjaa", sum := "6a6fab726048ad37b0e9d284694ab896ae04d262bc9f2d9869f899c066736724", func := "graticule/graticulelaw22.LineclipTurns", spec := "lineclipTurns", apart := false }
def LineclipTurnsSaid : Prop := lineclipTurnsRow.holds Try.pinned (OpenSpec.ofChange lineclipTurnsSpec)

/-- ITS FALSE NEIGHBOUR: 'it returns false'. Refute it at one input. -/
def lineclipTurnsWrong : ChangeSpec := { name := "lineclipTurns", fn := fun _ => fun
  | [d1, d2] => { results := [.lit (.bool false)], args := [d1, d2] }
  | _ => none }
def LineclipTurnsWrongFalsely : Prop := lineclipTurnsRow.holds Try.pinned (OpenSpec.ofChange lineclipTurnsWrong)

/-- 'graticulelaw22.LineclipMeets': WHATEVER THE INPUT: true; the input reads as it did. -/
def lineclipMeetsSpec : ChangeSpec := { name := "lineclipMeets", fn := fun _ => fun
  | [d1, d2] => { results := [.lit (.bool true)], args := [d1, d2] }
  | _ => none }
def lineclipMeetsRow : OpenClaim := { program := "ythjcpojcpafbjaa", sum := "6a6fab726048ad37b0e9d284694ab896ae04d262bc9f2d9869f899c066736724", func := "graticule/graticulelaw22.LineclipMeets", spec := "lineclipMeets", apart := false }
def LineclipMeetsSaid : Prop := lineclipMeetsRow.holds Try.pinned (OpenSpec.ofChange lineclipMeetsSpec)

/-- ITS FALSE NEIGHBOUR: 'it returns false'. Refute it at one input. -/
def lineclipMeetsWrong : ChangeSpec := { name := "lineclipMeets", fn := fun _ => fun
  | [d1, d2] => { results := [.lit (.bool false)], args := [d1, d2] }
  | _ => none }
def LineclipMeetsWrongFalsely : Prop := lineclipMeetsRow.holds Try.pinned (OpenSpec.ofChange lineclipMeetsWrong)

/- THE SECOND FORM. 'bulk': how many values and letters a reading holds, each counted each time it is reached (what is shared counts as often as it is met; a slice's spare places count too). A statement '..UptoSaid' is the law's where the arguments, and the package variables that the reading takes, are together of bulk at most 1048576: NARROWER than '..Said'. Prove '..Said' where nothing that the law and all that it calls make is longer than what came in: it says more and counts as full. Else prove '..UptoSaid'. A law counts once. -/
mutual
def uptoBulk {H : Type} : DataW H → Nat
  | .lit (.string bytes) => bytes.length + 1
  | .lit _ => 1
  | .nil => 1
  | .ptr d => uptoBulk d + 1
  | .slice elems spare => uptoBulkAll elems + uptoBulkAll spare + 1
  | .agg parts => uptoBulkAll parts + 1
  | .iface _ d => uptoBulk d + 1
  | .map entries => uptoBulkEntries entries + 1
  | .held _ => 1
def uptoBulkAll {H : Type} : List (DataW H) → Nat
  | [] => 0
  | d :: r => uptoBulk d + uptoBulkAll r
def uptoBulkEntries {H : Type} : List (Lit × DataW H) → Nat
  | [] => 0
  | x :: r => uptoBulkEntry x + uptoBulkEntries r
def uptoBulkEntry {H : Type} : Lit × DataW H → Nat
  | (.string bytes, d) => bytes.length + uptoBulk d + 1
  | (_, d) => uptoBulk d + 1
 end
def uptoSmall : (H : Type) → List (DataW H) → Bool := fun _ ds => decide (uptoBulkAll ds ≤ 1048576)
def OpenSpec.upto (s : _root_.Go.ChangeSpec) : _root_.Go.OpenSpec := { _root_.Go.OpenSpec.ofChange s with cond := some uptoSmall }

/-- 'graticulelaw22.LineclipJoins', WHERE WHAT IT READS IS OF BULK AT MOST 1048576: true; the input reads as it did. -/
def lineclipJoinsUptoRow : OpenClaim := { program := "ythjcpojcpafbjaa", sum := "6a6fab726048ad37b0e9d284694ab896ae04d262bc9f2d9869f899c066736724", func := "graticule/graticulelaw22.LineclipJoins", spec := "lineclipJoins", apart := false, narrowed := true }
def LineclipJoinsUptoSaid : Prop := lineclipJoinsUptoRow.holds Try.pinned (OpenSpec.upto lineclipJoinsSpec)

/-- 'graticulelaw22.LineclipParts', WHERE WHAT IT READS IS OF BULK AT MOST 1048576: true; the input reads as it did. -/
def lineclipPartsUptoRow : OpenClaim := { program := "ythjcpojcpafbjaa", sum := "6a6fab726048ad37b0e9d284694ab896ae04d262bc9f2d9869f899c066736724", func := "graticule/graticulelaw22.LineclipParts", spec := "lineclipParts", apart := false, narrowed := true }
def LineclipPartsUptoSaid : Prop := lineclipPartsUptoRow.holds Try.pinned (OpenSpec.upto lineclipPartsSpec)

/-- 'graticulelaw22.LineclipTurns', WHERE WHAT IT READS IS OF BULK AT MOST 1048576: true; the input reads as it did. -/
def lineclipTurnsUptoRow : OpenClaim := { program := "ythjcpojcpafbjaa", sum := "6a6fab726048ad37b0e9d284694ab896ae04d262bc9f2d9869f899c066736724", func := "graticule/graticulelaw22.LineclipTurns", spec := "lineclipTurns", apart := false, narrowed := true }
def LineclipTurnsUptoSaid : Prop := lineclipTurnsUptoRow.holds Try.pinned (OpenSpec.upto lineclipTurnsSpec)

/-- 'graticulelaw22.LineclipMeets', WHERE WHAT IT READS IS OF BULK AT MOST 1048576: true; the input reads as it did. -/
def lineclipMeetsUptoRow : OpenClaim := { program := "ythjcpojcpafbjaa", sum := "6a6fab726048ad37b0e9d284694ab896ae04d262bc9f2d9869f899c066736724", func := "graticule/graticulelaw22.LineclipMeets", spec := "lineclipMeets", apart := false, narrowed := true }
def LineclipMeetsUptoSaid : Prop := lineclipMeetsUptoRow.holds Try.pinned (OpenSpec.upto lineclipMeetsSpec)

end Rows
end Go.Proofs.Ythjcpojcpafbjaa
