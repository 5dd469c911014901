/-
  No cell of these rows narrows 'for every input' (looked for: loops, veiled, ifaces, maps, wideKeys, modest, calm, conditions, laid).
  DERIVED. THE GIVEN ROWS OF THIS SEAT. 3 by the template 'for every input the law returns true; each argument reads behind the call as it read before'; 0 by the template 'total and deterministic' (their statements: YtopnbammdeimcaaTotals.lean).
  GIVEN WITH THE SEED: the statements are not yours to turn. If you find one false, say at which input.
  Laid BY PROGRAM, IN A SANDBOX (cutbox-rows.mjs): the forced cells as the released guide's own fill.sh prints them over the translation 33fb61d8e9c561e8… (all of the seat's roots in one cut). By AI agents, Wed Nov 11 2026. No macro, syntax, notation, axiom, sorry.
-/
import Derived.Test.YtopnbammdeimcaaChecked
import GoSem.Claim
import GoSem.ClaimJoined
import GoSem.ClaimMapViews
import Derived.JoinedTies
import Derived.KernelRfl
namespace Go.Proofs.Ytopnbammdeimcaa
/- THE CELL 'sum', in the pinned program and in every row, IS THE sha256 OF THE DUMP (.gsa) THAT YtopnbammdeimcaaProg.lean LOADS. Nothing in Lean hashes anything: it is a label: what it is worth is what the hold of that sum in a sandbox is worth. -/
noncomputable def Try.pinned : Pinned := { name := "ytopnbammdeimcaa", sum := "33fb61d8e9c561e86687f7e28eb23f18df87050845f483f468a4d2463da59870", checked := Try.checked }
namespace Rows
def none {H : Type} : Left H := { results := [], args := [] }

/-- 'graticulelaw21.PolyclipHalves': WHATEVER THE INPUT: true; the input reads as it did. -/
def polyclipHalvesSpec : ChangeSpec := { name := "polyclipHalves", fn := fun _ => fun
  | [d1, d2, d3] => { results := [.lit (.bool true)], args := [d1, d2, d3] }
  | _ => none }
def polyclipHalvesRow : OpenClaim := { program := "ytopnbammdeimcaa", sum := "33fb61d8e9c561e86687f7e28eb23f18df87050845f483f468a4d2463da59870", func := "graticule/graticulelaw21.PolyclipHalves", spec := "polyclipHalves", unfollowed := true, recurses := true, plainKeys := false, apart := false }
def PolyclipHalvesSaid : Prop := polyclipHalvesRow.holds Try.pinned (OpenSpec.ofChange polyclipHalvesSpec)

/-- ITS FALSE NEIGHBOUR: 'it returns false'. Refute it at one input. -/
def polyclipHalvesWrong : ChangeSpec := { name := "polyclipHalves", fn := fun _ => fun
  | [d1, d2, d3] => { results := [.lit (.bool false)], args := [d1, d2, d3] }
  | _ => none }
def PolyclipHalvesWrongFalsely : Prop := polyclipHalvesRow.holds Try.pinned (OpenSpec.ofChange polyclipHalvesWrong)

/-- 'graticulelaw21.PolyclipTwice': WHATEVER THE INPUT: true; the input reads as it did. -/
def polyclipTwiceSpec : ChangeSpec := { name := "polyclipTwice", fn := fun _ => fun
  | [d1, d2] => { results := [.lit (.bool true)], args := [d1, d2] }
  | _ => none }
def polyclipTwiceRow : OpenClaim := { program := "ytopnbammdeimcaa", sum := "33fb61d8e9c561e86687f7e28eb23f18df87050845f483f468a4d2463da59870", func := "graticule/graticulelaw21.PolyclipTwice", spec := "polyclipTwice", unfollowed := true, recurses := true, plainKeys := false, apart := false }
def PolyclipTwiceSaid : Prop := polyclipTwiceRow.holds Try.pinned (OpenSpec.ofChange polyclipTwiceSpec)

/-- ITS FALSE NEIGHBOUR: 'it returns false'. Refute it at one input. -/
def polyclipTwiceWrong : ChangeSpec := { name := "polyclipTwice", fn := fun _ => fun
  | [d1, d2] => { results := [.lit (.bool false)], args := [d1, d2] }
  | _ => none }
def PolyclipTwiceWrongFalsely : Prop := polyclipTwiceRow.holds Try.pinned (OpenSpec.ofChange polyclipTwiceWrong)

/-- 'graticulelaw21.PolyclipKeeps': WHATEVER THE INPUT: true; the input reads as it did. -/
def polyclipKeepsSpec : ChangeSpec := { name := "polyclipKeeps", fn := fun _ => fun
  | [d1, d2, d3] => { results := [.lit (.bool true)], args := [d1, d2, d3] }
  | _ => none }
def polyclipKeepsRow : OpenClaim := { program := "ytopnbammdeimcaa", sum := "33fb61d8e9c561e86687f7e28eb23f18df87050845f483f468a4d2463da59870", func := "graticule/graticulelaw21.PolyclipKeeps", spec := "polyclipKeeps", unfollowed := true, recurses := true, plainKeys := false, apart := false }
def PolyclipKeepsSaid : Prop := polyclipKeepsRow.holds Try.pinned (OpenSpec.ofChange polyclipKeepsSpec)

/-- ITS FALSE NEIGHBOUR: 'it returns false'. Refute it at one input. -/
def polyclipKeepsWrong : ChangeSpec := { name := "polyclipKeeps", fn := fun _ => fun
  | [d1, d2, d3] => { results := [.lit (.bool false)], args := [d1, d2, d3] }
  | _ => none }
def PolyclipKeepsWrongFalsely : Prop := polyclipKeepsRow.holds Try.pinned (OpenSpec.ofChange polyclipKeepsWrong)

/- THE SECOND FORM. 'bulk': how many values and letters a reading holds, each counted each time it is reached (what is shared counts as often as it is met; a slice's spare places count too). A statement '..UptoSaid' is the law's where the arguments, and the package variables that the reading takes, are together of bulk at most 1048576: NARROWER than '..Said'. Prove '..Said' where nothing that the law and all that it calls make is longer than what came in: it says more and counts as full. Else prove '..UptoSaid'. A law counts once. -/
mutual
def uptoBulk {H : Type} : DataW H → Nat
  | .lit (.string bytes) => bytes.length + 1
  | .lit _ => 1
  | .nil => 1
  | .ptr d => uptoBulk d + 1
  | .slice elems spare => uptoBulkAll elems + uptoBulkAll spare + 1
  | .agg parts => uptoBulkAll parts + 1
  | .iface _ d => uptoBulk d + 1
  | .map entries => uptoBulkEntries entries + 1
  | .held _ => 1
def uptoBulkAll {H : Type} : List (DataW H) → Nat
  | [] => 0
  | d :: r => uptoBulk d + uptoBulkAll r
def uptoBulkEntries {H : Type} : List (Lit × DataW H) → Nat
  | [] => 0
  | x :: r => uptoBulkEntry x + uptoBulkEntries r
def uptoBulkEntry {H : Type} : Lit × DataW H → Nat
  | (.string bytes, d) => bytes.length + uptoBulk d + 1
  | (_, d) => uptoBulk d + 1
 end
def uptoSmall : (H : Type) → List (DataW H) → Bool := fun _ ds => decide (uptoBulkAll ds ≤ 1048576)
def OpenSpec.upto (s : _root_.Go.ChangeSpec) : _root_.Go.OpenSpec := { _root_.Go.OpenSpec.ofChange s with cond := some uptoSmall }

/-- 'graticulelaw21.PolyclipHalves', WHERE WHAT IT READS IS OF BULK AT MOST 1048576: true; the input reads as it did. -/
def polyclipHalvesUptoRow : OpenClaim := { program := "ytopnbammdeimcaa", sum := "33fb61d8e9c561e86687f7e28eb23f18df87050845f483f468a4d2463da59870", func := "graticule/graticulelaw21.PolyclipHalves", spec := "polyclipHalves", unfollowed := true, recurses := true, plainKeys := false, apart := false, narrowed := true }
def PolyclipHalvesUptoSaid : Prop := polyclipHalvesUptoRow.holds Try.pinned (OpenSpec.upto polyclipHalvesSpec)

/-- 'graticulelaw21.PolyclipTwice', WHERE WHAT IT READS IS OF BULK AT MOST 1048576: true; the input reads as it did. -/
def polyclipTwiceUptoRow : OpenClaim := { program := "ytopnbammdeimcaa", sum := "33fb61d8e9c561e86687f7e28eb23f18df87050845f483f468a4d2463da59870", func := "graticule/graticulelaw21.PolyclipTwice", spec := "polyclipTwice", unfollowed := true, recurses := true, plainKeys := false, apart := false, narrowed := true }
def PolyclipTwiceUptoSaid : Prop := polyclipTwiceUptoRow.holds Try.pinned (OpenSpec.upto polyclipTwiceSpec)

/-- 'graticulelaw21.PolyclipKeeps', WHERE WHAT IT READS IS OF BULK AT MOST 1048576: true; the input reads as it did. -/
def polyclipKeepsUptoRow : OpenClaim := { program := "ytopnbammdeimcaa", sum := "33fb61d8e9c561e86687f7e28eb23f18df87050845f483f468a4d2463da59870", func := "graticule/graticulelaw21.PolyclipKeeps", spec := "polyclipKeeps", unfollowed := true, recurses := true, plainKeys := false, apart := false, narrowed := true }
def PolyclipKeepsUptoSaid : Prop := polyclipKeepsUptoRow.holds Try.pinned (OpenSpec.upto polyclipKeepsSpec)

end Rows
end Go.Proofs.Ytopnbammdeimcaa
