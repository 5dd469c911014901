import Derived.Test.YtnmkonlfnpcoiaaSp6
namespace Go.Proofs.Ytnmkonlfnpcoiaa
set_option linter.unusedVariables false
noncomputable def law27_PackTurns_b1 (x118 : List Int) (r120 : List ((Int × Int × Int) × (List Int))) (x132 : Int) (m160 : List ((Int × Int × Int) × (List Int))) (i163 : Int) : Option (((List ((Int × Int × Int) × (List Int))) × Int) ⊕ Bool) :=
  if (decide (i163 < (r120.length : Int))) then ((some (ad (sb (sb (r120.length : Int) 1) i163) (IntKind.i64.wrap x132))).bind fun x200 => (rmK x200 (r120.length : Int)).bind fun x201 => (ix r120 x201).bind fun x202 => (app m160 [x202]).bind fun x206 => some (Sum.inl (x206, ad i163 1))) else (Option.map Sum.inr ((pack_Write x118 r120).bind fun r211 => (pack_Write x118 m160).bind fun r215 => (law27_known).bind fun r219 => (some (r219 && ((decide (r211.2 = 0)) == (decide (r215.2 = 0))))).bind fun x220 => (gd x220 (ref07_Same r211.1 r215.1) false).bind fun r221 => some (x220 && r221)))
noncomputable def law27_PackTurns_l1 (x118 : List Int) (r120 : List ((Int × Int × Int) × (List Int))) (x132 : Int) (s : (List ((Int × Int × Int) × (List Int))) × Int) : Option (Bool) := loopO (fun s => law27_PackTurns_b1 x118 r120 x132 s.1 s.2) s
noncomputable def law27_PackTurns (head1 : List Int) (l2 : List ((Int × Int × Int) × (List Int))) (x3 : Int) : Option (Bool) :=
  (cut head1 0 (mn (head1.length : Int) 30)).bind fun x118 => (law27_Cut l2).bind fun r120 => if (decide ((r120.length : Int) = 0)) then ((law27_known).bind fun r130 => some r130) else ((rmK (IntKind.u64.wrap x3) (IntKind.u64.wrap (r120.length : Int))).bind fun x132 => law27_PackTurns_l1 x118 r120 x132 (([] : List ((Int × Int × Int) × (List Int))), 0))
end Go.Proofs.Ytnmkonlfnpcoiaa
