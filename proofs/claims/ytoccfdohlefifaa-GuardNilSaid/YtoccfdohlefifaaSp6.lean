import Derived.Test.YtoccfdohlefifaaSp5
namespace Go.Proofs.Ytoccfdohlefifaa
set_option linter.unusedVariables false
noncomputable def guard_Guard_Edges (g1 : (((List ((Int × Int) × (Int × Int))) × (List ((Int × Int) × (List Int))) × (List Int))) × (List Int) × (List (Int × Int)) × (List ((Int × Int) × Bool)) × (List (((Int × Int) × (Int × Int)) × Bool))) : Option (Int) :=
  some (g1.2.2.2.2.length : Int)
noncomputable def law18_known : Option (Bool) :=
  (guard_New ([] : List Int) [([(0, 0), (2, 1), (4, 0)], 0, 0)]).bind fun r90 => (guard_New ([] : List Int) [([(0, 0), (2, 1), (4, 0)], 0, 0), ([(2, 0), (2, (-5))], 0, 0)]).bind fun r115 => if (false || false) then (some false) else ((ix [(0, 0), (2, 1), (4, 0)] 0).bind fun x140 => (ix [(0, 0), (2, 1), (4, 0)] 1).bind fun x141 => (ix [(0, 0), (2, 1), (4, 0)] 2).bind fun x142 => (guard_Guard_Why r90 x140 x141 x142).bind fun r143 => (gd (decide (r143 = 0)) (ix [(0, 0), (2, 1), (4, 0)] 0) (0, 0)).bind fun x144 => (gd (decide (r143 = 0)) (ix [(0, 0), (2, 1), (4, 0)] 1) (0, 0)).bind fun x145 => (gd (decide (r143 = 0)) (ix [(0, 0), (2, 1), (4, 0)] 2) (0, 0)).bind fun x146 => (gd (decide (r143 = 0)) (guard_Guard_Why r115 x144 x145 x146) 0).bind fun r147 => (some ((decide (r143 = 0)) && (decide (r147 = 4)))).bind fun x148 => (gd x148 (guard_Guard_Edges r90) 0).bind fun r149 => some (x148 && (decide (r149 = 2))))
end Go.Proofs.Ytoccfdohlefifaa
