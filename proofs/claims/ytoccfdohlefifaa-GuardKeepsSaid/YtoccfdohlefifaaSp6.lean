import Derived.Test.YtoccfdohlefifaaSp4
namespace Go.Proofs.Ytoccfdohlefifaa
set_option linter.unusedVariables false
noncomputable def guard_Guard_Has (g1 : (((List ((Int × Int) × (Int × Int))) × (List ((Int × Int) × (List Int))) × (List Int))) × (List Int) × (List (Int × Int)) × (List ((Int × Int) × Bool)) × (List (((Int × Int) × (Int × Int)) × Bool))) (p2 : Int × Int) : Option (Bool) :=
  (some (true && ((lkM g1.2.2.2.1 p2).getD false))).bind fun x19 => some x19
noncomputable def guard_Guard_Joined (g1 : (((List ((Int × Int) × (Int × Int))) × (List ((Int × Int) × (List Int))) × (List Int))) × (List Int) × (List (Int × Int)) × (List ((Int × Int) × Bool)) × (List (((Int × Int) × (Int × Int)) × Bool))) (x2 : Int × Int) (b3 : Int × Int) : Option (Bool) :=
  (gd true (guard_between x2 b3) ((0, 0), (0, 0))).bind fun r24 => (some (true && ((lkM g1.2.2.2.2 r24).getD false))).bind fun x25 => some x25
end Go.Proofs.Ytoccfdohlefifaa
