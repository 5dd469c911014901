import Derived.Test.YtnmkonlfnpcoiaaSp8
namespace Go.Proofs.Ytnmkonlfnpcoiaa
set_option linter.unusedVariables false
noncomputable def pack_Pack_Head_nil : Option (List Int) :=
  some ([] : List Int)
noncomputable def pack_Pack_Entries_nil : Option (List ((Int × Int × Int) × (List Int))) :=
  some ([] : List ((Int × Int × Int) × (List Int)))
noncomputable def pack_Pack_Get_nil (a : Int × Int × Int) : Option ((List Int) × Bool) :=
  some (([] : List Int), false)
noncomputable def pack_Pack_Blobs_nil : Option (Int) :=
  some 0
noncomputable def law27_alike_nil_k2 (g : ByteArray × (List ((Int × Int × Int) × ByteArray))) (a : Int) (b : ByteArray) (c : Bool) : Option ((ByteArray × Bool × Int) ⊕ Bool) :=
  (ix ([] : List ((Int × Int × Int) × (List Int))) a).bind fun f => (gd (!(!((([] : List Int), false).2))) (ix g.2 a) ((0, 0, 0), ByteArray.empty)).bind fun d => (some ((!((([] : List Int), false).2)) || (!eqS (bsS ((([] : List Int), false).1)) d.2))).bind fun e => if e then (Option.map Sum.inr (some false)) else (some (Sum.inl (b, c, ad a 1)))
noncomputable def law27_alike_nil_b1 (f : ByteArray × (List ((Int × Int × Int) × ByteArray))) (m : Int × Int × Int) (b : ByteArray) (c : Bool) (a : Int) : Option ((ByteArray × Bool × Int) ⊕ Bool) :=
  if (decide (a < (([] : List ((Int × Int × Int) × (List Int))).length : Int))) then ((ix ([] : List ((Int × Int × Int) × (List Int))) a).bind fun d => (ix f.2 a).bind fun e => (gd (!(!decide (d.1 = e.1))) (ix ([] : List ((Int × Int × Int) × (List Int))) a) ((0, 0, 0), [])).bind fun g => (gd (!(!decide (d.1 = e.1))) (ix f.2 a) ((0, 0, 0), ByteArray.empty)).bind fun h => (some ((!decide (d.1 = e.1)) || (!eqS (bsS g.2) h.2))).bind fun i => if i then (Option.map Sum.inr (some false)) else ((ix f.2 a).bind fun j => if (decide (j.1 = m)) then ((ix f.2 a).bind fun k => law27_alike_nil_k2 f a k.2 true) else (law27_alike_nil_k2 f a b c))) else (Option.map Sum.inr ((some ((eqS (bsS ((([] : List Int), false).1)) b) && (((([] : List Int), false).2) == c))).bind fun l => some l))
noncomputable def law27_alike_nil_l1 (b : ByteArray × (List ((Int × Int × Int) × ByteArray))) (a : Int × Int × Int) (s : ByteArray × Bool × Int) : Option (Bool) := loopO (fun s => law27_alike_nil_b1 b a s.1 s.2.1 s.2.2) s
noncomputable def law27_alike_nil (e : ByteArray × (List ((Int × Int × Int) × ByteArray))) (f : Int × Int × Int) : Option (Bool) :=
  (some ((!decide ((([] : List ((Int × Int × Int) × (List Int))).length : Int) = (e.2.length : Int))) || (!decide (0 = (e.2.length : Int))))).bind fun a => (gd (!a) (ref27_Blobs e) []).bind fun b => (some (a || (!decide (0 = (b.length : Int))))).bind fun c => (some (c || (!eqS (bsS ([] : List Int)) e.1))).bind fun d => if d then (some false) else (law27_alike_nil_l1 e f (ByteArray.empty, false, 0))
noncomputable def law27_PackOpens (v : List Int) (w : Int × Int × Int) : Option (Bool) :=
  (cut v 0 (mn (v.length : Int) 300)).bind fun d => rngO (pack_Open d) (fun a => (ref27_Open d).bind fun c => (some ((!decide (a.2 = c.2)) || (!(true == (decide (c.2 = 0)))))).bind fun u => if u then (some false) else (if (!decide (c.2 = 0)) then ((law27_known).bind fun o => some o) else ((pack_Pack_Head a.1).bind fun p => (pack_Pack_Entries a.1).bind fun q => (pack_Write p q).bind fun g => (law27_known).bind fun h => (gd h (law27_alike a.1 c.1 w) false).bind fun r => (some ((h && r) && (decide (g.2 = 0)))).bind fun j => (gd j (ref07_Same g.1 d) false).bind fun s => some (j && s)))) (fun k => (ref27_Open d).bind fun b => (some ((!decide (k.2 = b.2)) || (!(false == (decide (b.2 = 0)))))).bind fun t => if t then (some false) else (if (!decide (b.2 = 0)) then ((law27_known).bind fun l => some l) else ((pack_Write ([] : List Int) ([] : List ((Int × Int × Int) × (List Int)))).bind fun e => (law27_known).bind fun f => (gd f (law27_alike_nil b.1 w) false).bind fun m => (some ((f && m) && (decide (e.2 = 0)))).bind fun i => (gd i (ref07_Same e.1 d) false).bind fun n => some (i && n))))
end Go.Proofs.Ytnmkonlfnpcoiaa
