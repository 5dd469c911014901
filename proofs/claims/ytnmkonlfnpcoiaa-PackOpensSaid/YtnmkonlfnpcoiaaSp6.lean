import Derived.Test.YtnmkonlfnpcoiaaSp5
namespace Go.Proofs.Ytnmkonlfnpcoiaa
set_option linter.unusedVariables false
noncomputable def pack_Pack_Blobs (a : (List Int) × (List (List Int)) × (List ((Int × Int × Int) × Int))) : Option (Int) :=
  some (a.2.1.length : Int)
noncomputable def pack_Pack_Len (a : (List Int) × (List (List Int)) × (List ((Int × Int × Int) × Int))) : Option (Int) :=
  some (a.2.2.length : Int)
noncomputable def pack_Pack_Len_nil : Option (Int) :=
  some 0
noncomputable def law27_known : Option (Bool) :=
  (pack_Write ([] : List Int) ([] : List ((Int × Int × Int) × (List Int)))).bind fun c => (pack_Write ([] : List Int) [((0, 0, 0), [7])]).bind fun a => rngO (pack_Open a.1) (fun d => (some ((decide (c.2 = 0)) && (decide (a.2 = 0)))).bind fun f => (gd (f && (decide (d.2 = 0))) (ref07_Same c.1 [71, 82, 84, 49, 0, 0, 0]) false).bind fun i => (some ((f && (decide (d.2 = 0))) && i)).bind fun b => (gd b (ref07_Same a.1 [71, 82, 84, 49, 0, 1, 1, 7, 1, 0, 0, 0, 0]) false).bind fun e => (gd (b && e) (pack_Pack_Len d.1) 0).bind fun j => (some ((b && e) && (decide (j = 1)))).bind fun g => (gd g (pack_Pack_Blobs d.1) 0).bind fun k => some (g && (decide (k = 1)))) (fun h => (some ((decide (c.2 = 0)) && (decide (a.2 = 0)))).bind fun l => (gd (l && (decide (h.2 = 0))) (ref07_Same c.1 [71, 82, 84, 49, 0, 0, 0]) false).bind fun m => (some ((l && (decide (h.2 = 0))) && m)).bind fun n => (gd n (ref07_Same a.1 [71, 82, 84, 49, 0, 1, 1, 7, 1, 0, 0, 0, 0]) false).bind fun o => some false)
noncomputable def ref16_Level (b : Int) : Option (Bool) :=
  (some ((decide (0 ≤ b)) && (decide (b ≤ 4)))).bind fun a => some a
noncomputable def ref01_Power_b1 (c : Int) (b : Int) (a : Int) : Option ((Int × Int) ⊕ Int) :=
  if (decide (a < c)) then (some (Sum.inl (ml 2 b, ad a 1))) else (Option.map Sum.inr (some b))
noncomputable def ref01_Power_l1 (a : Int) (s : Int × Int) : Option (Int) := loopO (fun s => ref01_Power_b1 a s.1 s.2) s
noncomputable def ref01_Power (a : Int) : Option (Int) :=
  ref01_Power_l1 a (1, 0)
noncomputable def ref20_Right (a : Int × Int × Int) : Option (Bool) :=
  (ref16_Level a.1).bind fun b => (gd (b && (decide (0 ≤ a.2.1))) (ref01_Power a.1) 0).bind fun d => (some ((b && (decide (0 ≤ a.2.1))) && (decide (a.2.1 < d)))).bind fun c => (gd (c && (decide (0 ≤ a.2.2))) (ref01_Power a.1) 0).bind fun e => (some ((c && (decide (0 ≤ a.2.2))) && (decide (a.2.2 < e)))).bind fun f => some f
noncomputable def ref20_Less (b : Int × Int × Int) (a : Int × Int × Int) : Option (Bool) :=
  if (!decide (b.1 = a.1)) then (some (decide (b.1 < a.1))) else (if (!decide (b.2.1 = a.2.1)) then (some (decide (b.2.1 < a.2.1))) else (some (decide (b.2.2 < a.2.2))))
noncomputable def ref27_place_b1 (b : List ByteArray) (e : ByteArray) (a : Int) : Option (Int ⊕ Int) :=
  (gd (decide (a < (b.length : Int))) (ix b a) ByteArray.empty).bind fun c => (some ((decide (a < (b.length : Int))) && (!eqS c e))).bind fun d => if d then (some (Sum.inl (ad a 1))) else (Option.map Sum.inr (some a))
noncomputable def ref27_place_l1 (a : List ByteArray) (b : ByteArray) (s : Int) : Option (Int) := loopO (fun s => ref27_place_b1 a b s) s
noncomputable def ref27_place (a : List ByteArray) (b : ByteArray) : Option (Int) :=
  ref27_place_l1 a b 0
noncomputable def ref27_Blobs_k2 (b : Int) (a : List ByteArray) : Option (((List ByteArray) × Int) ⊕ (List ByteArray)) :=
  some (Sum.inl (a, ad b 1))
noncomputable def ref27_Blobs_b1 (g : ByteArray × (List ((Int × Int × Int) × ByteArray))) (a : List ByteArray) (b : Int) : Option (((List ByteArray) × Int) ⊕ (List ByteArray)) :=
  if (decide (b < (g.2.length : Int))) then ((ix g.2 b).bind fun d => (ref27_place a d.2).bind fun c => if (decide (c = (a.length : Int))) then ((ix g.2 b).bind fun e => (app a [e.2]).bind fun f => ref27_Blobs_k2 b f) else (ref27_Blobs_k2 b a)) else (Option.map Sum.inr (some a))
noncomputable def ref27_Blobs_l1 (a : ByteArray × (List ((Int × Int × Int) × ByteArray))) (s : (List ByteArray) × Int) : Option (List ByteArray) := loopO (fun s => ref27_Blobs_b1 a s.1 s.2) s
noncomputable def ref27_Blobs (a : ByteArray × (List ((Int × Int × Int) × ByteArray))) : Option (List ByteArray) :=
  ref27_Blobs_l1 a (([] : List ByteArray), 0)
noncomputable def pack_Pack_Head (b : (List Int) × (List (List Int)) × (List ((Int × Int × Int) × Int))) : Option (List Int) :=
  (bytes_Clone b.1).bind fun a => some a
noncomputable def pack_Pack_Entries_b1 (g : (List Int) × (List (List Int)) × (List ((Int × Int × Int) × Int))) (a : List ((Int × Int × Int) × (List Int))) (b : Int) : Option (((List ((Int × Int × Int) × (List Int))) × Int) ⊕ (List ((Int × Int × Int) × (List Int)))) :=
  if (decide (b < (g.2.2.length : Int))) then ((ix g.2.2 b).bind fun c => (ix g.2.1 c.2).bind fun e => (bytes_Clone e).bind fun d => (app a [(c.1, d)]).bind fun f => some (Sum.inl (f, ad b 1))) else (Option.map Sum.inr (some a))
noncomputable def pack_Pack_Entries_l1 (a : (List Int) × (List (List Int)) × (List ((Int × Int × Int) × Int))) (s : (List ((Int × Int × Int) × (List Int))) × Int) : Option (List ((Int × Int × Int) × (List Int))) := loopO (fun s => pack_Pack_Entries_b1 a s.1 s.2) s
noncomputable def pack_Pack_Entries (a : (List Int) × (List (List Int)) × (List ((Int × Int × Int) × Int))) : Option (List ((Int × Int × Int) × (List Int))) :=
  pack_Pack_Entries_l1 a (([] : List ((Int × Int × Int) × (List Int))), 0)
noncomputable def pack_Pack_Get_1 (e : Int) (c : (List Int) × (List (List Int)) × (List ((Int × Int × Int) × Int))) (d : Int × Int × Int) : Option (Bool) :=
  (ix c.2.2 e).bind fun b => (window_Less b.1 d).bind fun a => some (!a)
noncomputable def sort_Search_Get_1_k2 (a : Int) (b : Int) : Option ((Int × Int) ⊕ Int) :=
  some (Sum.inl (a, b))
noncomputable def sort_Search_Get_1_b1 (d : (List Int) × (List (List Int)) × (List ((Int × Int × Int) × Int))) (e : Int × Int × Int) (a : Int) (b : Int) : Option ((Int × Int) ⊕ Int) :=
  if (decide (a < b)) then ((srK .u64 (IntKind.u64.wrap (ad a b)) 1).bind fun c => (pack_Pack_Get_1 (IntKind.i64.wrap c) d e).bind fun f => if (!f) then (sort_Search_Get_1_k2 (ad (IntKind.i64.wrap c) 1) b) else (sort_Search_Get_1_k2 a (IntKind.i64.wrap c))) else (Option.map Sum.inr (some a))
noncomputable def sort_Search_Get_1_l1 (a : (List Int) × (List (List Int)) × (List ((Int × Int × Int) × Int))) (b : Int × Int × Int) (s : Int × Int) : Option (Int) := loopO (fun s => sort_Search_Get_1_b1 a b s.1 s.2) s
noncomputable def sort_Search_Get_1 (c : Int) (a : (List Int) × (List (List Int)) × (List ((Int × Int × Int) × Int))) (b : Int × Int × Int) : Option (Int) :=
  sort_Search_Get_1_l1 a b (0, c)
noncomputable def pack_Pack_Get (b : (List Int) × (List (List Int)) × (List ((Int × Int × Int) × Int))) (h : Int × Int × Int) : Option ((List Int) × Bool) :=
  (sort_Search_Get_1 (b.2.2.length : Int) b h).bind fun a => (gd (!(decide (a = (b.2.2.length : Int)))) (ix b.2.2 a) ((0, 0, 0), 0)).bind fun d => (some ((decide (a = (b.2.2.length : Int))) || (!decide (d.1 = h)))).bind fun e => if e then (some (([] : List Int), false)) else ((ix b.2.2 a).bind fun f => (ix b.2.1 f.2).bind fun g => (bytes_Clone g).bind fun c => some (c, true))
noncomputable def law27_alike_k2 (i : (List Int) × (List (List Int)) × (List ((Int × Int × Int) × Int))) (j : ByteArray × (List ((Int × Int × Int) × ByteArray))) (e : List ((Int × Int × Int) × (List Int))) (a : Int) (c : ByteArray) (d : Bool) : Option ((ByteArray × Bool × Int) ⊕ Bool) :=
  (ix e a).bind fun f => (pack_Pack_Get i f.1).bind fun b => (gd (!(!b.2)) (ix j.2 a) ((0, 0, 0), ByteArray.empty)).bind fun g => (some ((!b.2) || (!eqS (bsS b.1) g.2))).bind fun h => if h then (Option.map Sum.inr (some false)) else (some (Sum.inl (c, d, ad a 1)))
noncomputable def law27_alike_b1 (o : (List Int) × (List (List Int)) × (List ((Int × Int × Int) × Int))) (h : ByteArray × (List ((Int × Int × Int) × ByteArray))) (p : Int × Int × Int) (b : List ((Int × Int × Int) × (List Int))) (g : (List Int) × Bool) (c : ByteArray) (d : Bool) (a : Int) : Option ((ByteArray × Bool × Int) ⊕ Bool) :=
  if (decide (a < (b.length : Int))) then ((ix b a).bind fun e => (ix h.2 a).bind fun f => (gd (!(!decide (e.1 = f.1))) (ix b a) ((0, 0, 0), [])).bind fun i => (gd (!(!decide (e.1 = f.1))) (ix h.2 a) ((0, 0, 0), ByteArray.empty)).bind fun j => (some ((!decide (e.1 = f.1)) || (!eqS (bsS i.2) j.2))).bind fun k => if k then (Option.map Sum.inr (some false)) else ((ix h.2 a).bind fun l => if (decide (l.1 = p)) then ((ix h.2 a).bind fun m => law27_alike_k2 o h b a m.2 true) else (law27_alike_k2 o h b a c d))) else (Option.map Sum.inr ((some ((eqS (bsS g.1) c) && (g.2 == d))).bind fun n => some n))
noncomputable def law27_alike_l1 (c : (List Int) × (List (List Int)) × (List ((Int × Int × Int) × Int))) (e : ByteArray × (List ((Int × Int × Int) × ByteArray))) (d : Int × Int × Int) (a : List ((Int × Int × Int) × (List Int))) (b : (List Int) × Bool) (s : ByteArray × Bool × Int) : Option (Bool) := loopO (fun s => law27_alike_b1 c e d a b s.1 s.2.1 s.2.2) s
noncomputable def law27_alike (d : (List Int) × (List (List Int)) × (List ((Int × Int × Int) × Int))) (e : ByteArray × (List ((Int × Int × Int) × ByteArray))) (k : Int × Int × Int) : Option (Bool) :=
  (pack_Pack_Entries d).bind fun a => (pack_Pack_Get d k).bind fun f => (gd (!(!decide ((a.length : Int) = (e.2.length : Int)))) (pack_Pack_Len d) 0).bind fun g => (some ((!decide ((a.length : Int) = (e.2.length : Int))) || (!decide (g = (e.2.length : Int))))).bind fun b => (gd (!b) (pack_Pack_Blobs d) 0).bind fun h => (gd (!b) (ref27_Blobs e) []).bind fun i => (some (b || (!decide (h = (i.length : Int))))).bind fun c => (gd (!c) (pack_Pack_Head d) []).bind fun j => if (c || (!eqS (bsS j) e.1)) then (some false) else (law27_alike_l1 d e k a f (ByteArray.empty, false, 0))
end Go.Proofs.Ytnmkonlfnpcoiaa
