/-
  Chapter 03. Said plainly. No program in sight.
-/
import Derived.Test.YthkmkmkcnljmaaaSp14
namespace Go.Proofs.Ythkmkmkcnljmaaa
set_option linter.unusedVariables false
noncomputable def law03_RingTurns_b1 (x3 : Int) (r131 : List (Int × Int)) (c199 : List (Int × Int)) (i201 : Int) : Option (((List (Int × Int)) × Int) ⊕ Bool) :=
  if (decide (i201 < (r131.length : Int))) then ((rmK (IntKind.u64.wrap x3) (IntKind.u64.wrap (r131.length : Int))).bind fun x235 => (rmK (ad (IntKind.i64.wrap x235) i201) (r131.length : Int)).bind fun x236 => (ix r131 x236).bind fun x237 => (app c199 [x237]).bind fun x240 => some (Sum.inl (x240, ad i201 1))) else (Option.map Sum.inr ((law03_known).bind fun r245 => (gd r245 (ring_Alike r131 c199) false).bind fun r246 => (gd (r245 && r246) (ring_Alike c199 r131) false).bind fun r247 => some ((r245 && r246) && r247)))
noncomputable def law03_RingTurns_l1 (x3 : Int) (r131 : List (Int × Int)) (s : (List (Int × Int)) × Int) : Option (Bool) := loopO (fun s => law03_RingTurns_b1 x3 r131 s.1 s.2) s
noncomputable def law03_RingTurns (x1 : List (Int × Int)) (b2 : List (Int × Int)) (x3 : Int) : Option (Bool) :=
  (law03_Cut x1).bind fun r131 => (law03_Cut b2).bind fun r135 => (law01_Ofs r131).bind fun r140 => (law01_Ofs r135).bind fun r143 => (ring_Thin r131).bind fun r148 => (ref03_Thin r140).bind fun r151 => (law03_Same r148 r151).bind fun r154 => (gd (!(!r154)) (ring_Turned r131) []).bind fun r155 => (gd (!(!r154)) (ref03_Turned r140) []).bind fun r158 => (gd (!(!r154)) (law03_Same r155 r158) false).bind fun r161 => (gd (!((!r154) || (!r161))) (ring_First r131) []).bind fun r162 => (gd (!((!r154) || (!r161))) (ref03_First r140) 0).bind fun r165 => (gd (!((!r154) || (!r161))) (ref03_From r140 r165) []).bind fun r166 => (gd (!((!r154) || (!r161))) (law03_Same r162 r166) false).bind fun r169 => (gd (!(((!r154) || (!r161)) || (!r169))) (ring_Alike r131 r135) false).bind fun r170 => (gd (!(((!r154) || (!r161)) || (!r169))) (ref03_Alike r140 r143) false).bind fun r171 => (some ((((!r154) || (!r161)) || (!r169)) || (!(r170 == r171)))).bind fun x172 => if x172 then (some false) else (law03_RingTurns_l1 x3 r131 (([] : List (Int × Int)), 0))
end Go.Proofs.Ythkmkmkcnljmaaa
