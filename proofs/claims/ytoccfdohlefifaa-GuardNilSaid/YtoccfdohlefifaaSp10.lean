import Derived.Test.YtoccfdohlefifaaSp6
import Derived.Test.YtoccfdohlefifaaSp8
namespace Go.Proofs.Ytoccfdohlefifaa
set_option linter.unusedVariables false
noncomputable def guard_Guard_Why_nil (x2 : Int × Int) (b3 : Int × Int) (c4 : Int × Int) : Option (Int) :=
  (some ((true || false) || (decide (b3 = x2)))).bind fun x40 => (gd (!(x40 || (decide (b3 = c4)))) (exact_Right [x2, b3, c4]) false).bind fun r43 => (some ((x40 || (decide (b3 = c4))) || (!r43))).bind fun x44 => (gd (!x44) (none : Option Unit) ()).bind fun u45 => (gd (!(x44 || false)) (none : Option Unit) ()).bind fun u46 => (gd (!((x44 || false) || false)) (none : Option Unit) ()).bind fun u47 => if (((x44 || false) || false) || false) then (some 1) else none
noncomputable def guard_Guard_Drop_nil (x2 : Int × Int) (b3 : Int × Int) (c4 : Int × Int) : Option (Bool) :=
  (guard_Guard_Why_nil x2 b3 c4).bind fun r31 => if (!decide (r31 = 0)) then (some false) else none
noncomputable def guard_Guard_Has_nil (p2 : Int × Int) : Option (Bool) :=
  some (false && false)
noncomputable def guard_Guard_Joined_nil (x2 : Int × Int) (b3 : Int × Int) : Option (Bool) :=
  some (false && false)
noncomputable def guard_Guard_Points_nil : Option (List (Int × Int)) :=
  some ([] : List (Int × Int))
noncomputable def guard_Guard_Edges_nil : Option (Int) :=
  some 0
noncomputable def law18_GuardNil (x1 : Int × Int) (b2 : Int × Int) (c3 : Int × Int) : Option (Bool) :=
  (law18_known).bind fun r36 => (gd r36 (guard_Guard_Why_nil x1 b2 c3) 0).bind fun r37 => (gd (r36 && (decide (r37 = 1))) (guard_Guard_Drop_nil x1 b2 c3) false).bind fun r38 => (some ((r36 && (decide (r37 = 1))) && (!r38))).bind fun x39 => (some ((x39 && (!(false && false))) && (!(false && false)))).bind fun x40 => (some (x40 && (decide ((([] : List (Int × Int)).length : Int) = 0)))).bind fun x43 => some (x43 && true)
end Go.Proofs.Ytoccfdohlefifaa
