/-
  No cell of these rows narrows 'for every input' (looked for: loops, veiled, ifaces, maps, wideKeys, modest, calm, conditions, laid).
  DERIVED. THE GIVEN ROWS OF THIS SEAT. 4 by the template 'for every input the law returns true; each argument reads behind the call as it read before'; 0 by the template 'total and deterministic' (their statements: YtoccfdohlefifaaTotals.lean).
  GIVEN WITH THE SEED: the statements are not yours to turn. If you find one false, say at which input.
  Laid BY PROGRAM, IN A SANDBOX (cutbox-rows.mjs): the forced cells as the released guide's own fill.sh prints them over the translation 93bb394431f3e1a0… (all of the seat's roots in one cut). By AI agents, Wed Nov 11 2026. No macro, syntax, notation, axiom, sorry.
-/
import Derived.Test.YtoccfdohlefifaaChecked
import GoSem.Claim
import GoSem.ClaimJoined
import GoSem.ClaimMapViews
import Derived.JoinedTies
import Derived.KernelRfl
namespace Go.Proofs.Ytoccfdohlefifaa
/- THE CELL 'sum', in the pinned program and in every row, IS THE sha256 OF THE DUMP (.gsa) THAT YtoccfdohlefifaaProg.lean LOADS. Nothing in Lean hashes anything: it is a label: what it is worth is what the hold of that sum in a sandbox is worth. -/
noncomputable def Try.pinned : Pinned := { name := "ytoccfdohlefifaa", sum := "93bb394431f3e1a013880b8a9fa551103e6082cfe71501487f5e657349cf29fb", checked := Try.checked }
namespace Rows
def none {H : Type} : Left H := { results := [], args := [] }

/-- 'graticulelaw18.GuardTurns': WHATEVER THE INPUT: true; the input reads as it did. -/
def guardTurnsSpec : ChangeSpec := { name := "guardTurns", fn := fun _ => fun
  | [d1, d2, d3, d4, d5] => { results := [.lit (.bool true)], args := [d1, d2, d3, d4, d5] }
  | _ => none }
def guardTurnsRow : OpenClaim := { program := "ytoccfdohlefifaa", sum := "93bb394431f3e1a013880b8a9fa551103e6082cfe71501487f5e657349cf29fb", func := "graticule/graticulelaw18.GuardTurns", spec := "guardTurns", unfollowed := true, recurses := true, plainKeys := false, apart := false }
def GuardTurnsSaid : Prop := guardTurnsRow.holds Try.pinned (OpenSpec.ofChange guardTurnsSpec)

/-- ITS FALSE NEIGHBOUR: 'it returns false'. Refute it at one input. -/
def guardTurnsWrong : ChangeSpec := { name := "guardTurns", fn := fun _ => fun
  | [d1, d2, d3, d4, d5] => { results := [.lit (.bool false)], args := [d1, d2, d3, d4, d5] }
  | _ => none }
def GuardTurnsWrongFalsely : Prop := guardTurnsRow.holds Try.pinned (OpenSpec.ofChange guardTurnsWrong)

/-- 'graticulelaw18.GuardPlays': WHATEVER THE INPUT: true; the input reads as it did. -/
def guardPlaysSpec : ChangeSpec := { name := "guardPlays", fn := fun _ => fun
  | [d1, d2, d3] => { results := [.lit (.bool true)], args := [d1, d2, d3] }
  | _ => none }
def guardPlaysRow : OpenClaim := { program := "ytoccfdohlefifaa", sum := "93bb394431f3e1a013880b8a9fa551103e6082cfe71501487f5e657349cf29fb", func := "graticule/graticulelaw18.GuardPlays", spec := "guardPlays", unfollowed := true, recurses := true, plainKeys := false, apart := false }
def GuardPlaysSaid : Prop := guardPlaysRow.holds Try.pinned (OpenSpec.ofChange guardPlaysSpec)

/-- ITS FALSE NEIGHBOUR: 'it returns false'. Refute it at one input. -/
def guardPlaysWrong : ChangeSpec := { name := "guardPlays", fn := fun _ => fun
  | [d1, d2, d3] => { results := [.lit (.bool false)], args := [d1, d2, d3] }
  | _ => none }
def GuardPlaysWrongFalsely : Prop := guardPlaysRow.holds Try.pinned (OpenSpec.ofChange guardPlaysWrong)

/-- 'graticulelaw18.GuardNil': WHATEVER THE INPUT: true; the input reads as it did. -/
def guardNilSpec : ChangeSpec := { name := "guardNil", fn := fun _ => fun
  | [d1, d2, d3] => { results := [.lit (.bool true)], args := [d1, d2, d3] }
  | _ => none }
def guardNilRow : OpenClaim := { program := "ytoccfdohlefifaa", sum := "93bb394431f3e1a013880b8a9fa551103e6082cfe71501487f5e657349cf29fb", func := "graticule/graticulelaw18.GuardNil", spec := "guardNil", unfollowed := true, recurses := true, plainKeys := false, apart := false }
def GuardNilSaid : Prop := guardNilRow.holds Try.pinned (OpenSpec.ofChange guardNilSpec)

/-- ITS FALSE NEIGHBOUR: 'it returns false'. Refute it at one input. -/
def guardNilWrong : ChangeSpec := { name := "guardNil", fn := fun _ => fun
  | [d1, d2, d3] => { results := [.lit (.bool false)], args := [d1, d2, d3] }
  | _ => none }
def GuardNilWrongFalsely : Prop := guardNilRow.holds Try.pinned (OpenSpec.ofChange guardNilWrong)

/-- 'graticulelaw18.GuardKeeps': WHATEVER THE INPUT: true; the input reads as it did. -/
def guardKeepsSpec : ChangeSpec := { name := "guardKeeps", fn := fun _ => fun
  | [d1, d2, d3] => { results := [.lit (.bool true)], args := [d1, d2, d3] }
  | _ => none }
def guardKeepsRow : OpenClaim := { program := "ytoccfdohlefifaa", sum := "93bb394431f3e1a013880b8a9fa551103e6082cfe71501487f5e657349cf29fb", func := "graticule/graticulelaw18.GuardKeeps", spec := "guardKeeps", unfollowed := true, recurses := true, plainKeys := false, apart := false }
def GuardKeepsSaid : Prop := guardKeepsRow.holds Try.pinned (OpenSpec.ofChange guardKeepsSpec)

/-- ITS FALSE NEIGHBOUR: 'it returns false'. Refute it at one input. -/
def guardKeepsWrong : ChangeSpec := { name := "guardKeeps", fn := fun _ => fun
  | [d1, d2, d3] => { results := [.lit (.bool false)], args := [d1, d2, d3] }
  | _ => none }
def GuardKeepsWrongFalsely : Prop := guardKeepsRow.holds Try.pinned (OpenSpec.ofChange guardKeepsWrong)

/- THE SECOND FORM. 'bulk': how many values and letters a reading holds, each counted each time it is reached (what is shared counts as often as it is met; a slice's spare places count too). A statement '..UptoSaid' is the law's where the arguments, and the package variables that the reading takes, are together of bulk at most 1048576: NARROWER than '..Said'. Prove '..Said' where nothing that the law and all that it calls make is longer than what came in: it says more and counts as full. Else prove '..UptoSaid'. A law counts once. -/
mutual
def uptoBulk {H : Type} : DataW H → Nat
  | .lit (.string bytes) => bytes.length + 1
  | .lit _ => 1
  | .nil => 1
  | .ptr d => uptoBulk d + 1
  | .slice elems spare => uptoBulkAll elems + uptoBulkAll spare + 1
  | .agg parts => uptoBulkAll parts + 1
  | .iface _ d => uptoBulk d + 1
  | .map entries => uptoBulkEntries entries + 1
  | .held _ => 1
def uptoBulkAll {H : Type} : List (DataW H) → Nat
  | [] => 0
  | d :: r => uptoBulk d + uptoBulkAll r
def uptoBulkEntries {H : Type} : List (Lit × DataW H) → Nat
  | [] => 0
  | x :: r => uptoBulkEntry x + uptoBulkEntries r
def uptoBulkEntry {H : Type} : Lit × DataW H → Nat
  | (.string bytes, d) => bytes.length + uptoBulk d + 1
  | (_, d) => uptoBulk d + 1
 end
def uptoSmall : (H : Type) → List (DataW H) → Bool := fun _ ds => decide (uptoBulkAll ds ≤ 1048576)
def OpenSpec.upto (s : _root_.Go.ChangeSpec) : _root_.Go.OpenSpec := { _root_.Go.OpenSpec.ofChange s with cond := some uptoSmall }

/-- 'graticulelaw18.GuardTurns', WHERE WHAT IT READS IS OF BULK AT MOST 1048576: true; the input reads as it did. -/
def guardTurnsUptoRow : OpenClaim := { program := "ytoccfdohlefifaa", sum := "93bb394431f3e1a013880b8a9fa551103e6082cfe71501487f5e657349cf29fb", func := "graticule/graticulelaw18.GuardTurns", spec := "guardTurns", unfollowed := true, recurses := true, plainKeys := false, apart := false, narrowed := true }
def GuardTurnsUptoSaid : Prop := guardTurnsUptoRow.holds Try.pinned (OpenSpec.upto guardTurnsSpec)

/-- 'graticulelaw18.GuardPlays', WHERE WHAT IT READS IS OF BULK AT MOST 1048576: true; the input reads as it did. -/
def guardPlaysUptoRow : OpenClaim := { program := "ytoccfdohlefifaa", sum := "93bb394431f3e1a013880b8a9fa551103e6082cfe71501487f5e657349cf29fb", func := "graticule/graticulelaw18.GuardPlays", spec := "guardPlays", unfollowed := true, recurses := true, plainKeys := false, apart := false, narrowed := true }
def GuardPlaysUptoSaid : Prop := guardPlaysUptoRow.holds Try.pinned (OpenSpec.upto guardPlaysSpec)

/-- 'graticulelaw18.GuardNil', WHERE WHAT IT READS IS OF BULK AT MOST 1048576: true; the input reads as it did. -/
def guardNilUptoRow : OpenClaim := { program := "ytoccfdohlefifaa", sum := "93bb394431f3e1a013880b8a9fa551103e6082cfe71501487f5e657349cf29fb", func := "graticule/graticulelaw18.GuardNil", spec := "guardNil", unfollowed := true, recurses := true, plainKeys := false, apart := false, narrowed := true }
def GuardNilUptoSaid : Prop := guardNilUptoRow.holds Try.pinned (OpenSpec.upto guardNilSpec)

/-- 'graticulelaw18.GuardKeeps', WHERE WHAT IT READS IS OF BULK AT MOST 1048576: true; the input reads as it did. -/
def guardKeepsUptoRow : OpenClaim := { program := "ytoccfdohlefifaa", sum := "93bb394431f3e1a013880b8a9fa551103e6082cfe71501487f5e657349cf29fb", func := "graticule/graticulelaw18.GuardKeeps", spec := "guardKeeps", unfollowed := true, recurses := true, plainKeys := false, apart := false, narrowed := true }
def GuardKeepsUptoSaid : Prop := guardKeepsUptoRow.holds Try.pinned (OpenSpec.upto guardKeepsSpec)

end Rows
end Go.Proofs.Ytoccfdohlefifaa
