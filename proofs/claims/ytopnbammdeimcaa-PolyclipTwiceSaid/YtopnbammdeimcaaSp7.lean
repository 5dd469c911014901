/-
  Chapter 21. Said plainly. No program in sight.
-/
import Derived.Test.YtopnbammdeimcaaSp4
import Derived.Test.YtopnbammdeimcaaSp5
namespace Go.Proofs.Ytopnbammdeimcaa
set_option linter.unusedVariables false
noncomputable def law21_PolyclipTwice (l1 : List (Int × Int)) (b2 : (Int × Int) × (Int × Int)) : Option (Bool) :=
  (law03_Cut l1).bind fun r38 => (polyclip_Ring r38 b2).bind fun r43 => (law21_known).bind fun r47 => (gd r47 (polyclip_Ring r43 b2) []).bind fun r48 => (gd r47 (law01_Ofs r43) []).bind fun r51 => (gd r47 (law03_Same r48 r51) false).bind fun r54 => (gd ((r47 && r54) && (!(decide ((r43.length : Int) = 0)))) (polyclip_Whole r43 b2) false).bind fun r55 => (gd (((r47 && r54) && (!(decide ((r43.length : Int) = 0)))) && r55) (ring_Area r43) 0).bind fun r56 => (some ((decide ((r43.length : Int) = 0)) || (r55 && (!decide (r56 = 0))))).bind fun x57 => some ((r47 && r54) && x57)
end Go.Proofs.Ytopnbammdeimcaa
