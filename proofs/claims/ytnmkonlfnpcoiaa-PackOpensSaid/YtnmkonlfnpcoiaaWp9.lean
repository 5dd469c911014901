import Derived.Test.YtnmkonlfnpcoiaaWp8
import Derived.Test.YtnmkonlfnpcoiaaSp9
namespace Go.Proofs.Ytnmkonlfnpcoiaa
open Go.RowKit
set_option linter.unusedVariables false
set_option maxRecDepth 10000
theorem pack_Pack_Head_nil_w (w : World) (r : List Int) (R : pack_Pack_Head_nil = some r) :
  Calls Try.prog 20 #[.pointer none] w fun e L=>∃ (c : Own) (x : Option Addr × Nat),e = .returned (.slice x.1 r.length x.2) ∧ Evo [] (fun _=>0) c w L ∧ RwO c 1 [] L 5 R5 x.1 x.2 r := by
 refine fl_enter (n := 10) rfl rfl rfl (Nat.le_of_ble_eq_true rfl) ?_
 intro X Q d0 V b u
 have C := b 0 _ rfl
 clear b
 have B : Evo [] (fun _=>0) (fun _=>0) w w := Evo.refl _ _ _
 refine rq_seq 10 (fun _=>0) (bz 1) [dv [] [] 2 (.slice none 0 0)] V d0 ?_ ?_
 ·exact sO (or_assign rfl)<|steps_nil
 intro D N S v G q I h
 have a := kt q C
 have k := es_ B h
 refine fl_seq (fun M K t=>?_)
 refine rq_seq 10 D (bz 2) [dv [] [0] 3 (.pointer none),dv [0] [] 4 (.bool true)] G v ?_ ?_
 ·exact sM a<|sF (fun f=>ok1 f.1)<|steps_nil
 intro E O T y H s o i
 have A := kt s a
 have d := gv (o [1] rfl) rfl
 have l := es_ k i
 refine fl_t d ?_
 refine rq_seq 10 E (bz 1) [dv [] [] 2 (.slice none 0 0)] H y ?_ ?_
 ·exact sO (or_assign rfl)<|steps_nil
 intro F P U z W J p j
 have g := gv (p [0] rfl) rfl
 have m := es_ l j
 refine fl_ret ?_
 refine t _ _ _ rfl ?_
 obtain rfl := osome R
 exact u _ _ _ _ (.inl rfl) z (results1_ rfl (RVal.tmp_ g)) ⟨F,(none,0),rfl,m,RwO.nil_⟩
theorem pack_Pack_Entries_nil_w (w : World) (r : List ((Int × Int × Int) × (List Int))) (R : pack_Pack_Entries_nil = some r) :
  Calls Try.prog 21 #[.pointer none] w fun e L=>∃ (c : Own) (x : Option Addr × Nat),e = .returned (.slice x.1 r.length x.2) ∧ Evo [] (fun _=>0) c w L ∧ RwO c 1 [2] L 30 R30 x.1 x.2 r := by
 refine fl_enter (n := 34) rfl rfl rfl (Nat.le_of_ble_eq_true rfl) ?_
 intro X Q d0 V b u
 have C := b 0 _ rfl
 clear b
 have B : Evo [] (fun _=>0) (fun _=>0) w w := Evo.refl _ _ _
 refine rq_seq 34 (fun _=>0) (bz 1) [dv [] [] 2 (.slice none 0 0)] V d0 ?_ ?_
 ·exact sO (or_assign rfl)<|steps_nil
 intro D N S v G q I h
 have a := kt q C
 have k := es_ B h
 refine fl_seq (fun M K t=>?_)
 refine rq_seq 34 D (bz 2) [dv [] [0] 6 (.pointer none),dv [0] [] 7 (.bool true)] G v ?_ ?_
 ·exact sM a<|sF (fun f=>ok1 f.1)<|steps_nil
 intro E O T y H s o i
 have A := kt s a
 have d := gv (o [1] rfl) rfl
 have l := es_ k i
 refine fl_t d ?_
 refine rq_seq 34 E (bz 1) [dv [] [] 2 (.slice none 0 0)] H y ?_ ?_
 ·exact sO (or_assign rfl)<|steps_nil
 intro F P U z W J p j
 have g := gv (p [0] rfl) rfl
 have m := es_ l j
 refine fl_ret ?_
 refine t _ _ _ rfl ?_
 obtain rfl := osome R
 exact u _ _ _ _ (.inl rfl) z (results1_ rfl (RVal.tmp_ g)) ⟨F,(none,0),rfl,m,RwO.nil_⟩
theorem pack_Pack_Get_nil_w (w : World) (h : Int × Int × Int) (r : (List Int) × Bool) (hs : pack_Pack_Get_nil h = some r) :
  Calls Try.prog 22 #[.pointer none,.agg #[Zi h.1,Zi h.2.1,Zi h.2.2]] w fun e w'=>∃ (k : Own) (x : Option Addr × Nat),e = .returned (.tuple #[.slice x.1 r.1.length x.2,.bool r.2]) ∧ Evo [] (fun _=>0) k w w' ∧ RwO k 1 [] w' 5 R5 x.1 x.2 r.1 := by
 refine fl_enter (n := 50) rfl rfl rfl (Nat.le_of_ble_eq_true rfl) ?_
 intro a0 Q d0 z0 d J
 have S := d 0 _ rfl
 have T := d 1 _ rfl
 clear d
 have R : Evo [] (fun _=>0) (fun _=>0) w w := Evo.refl _ _ _
 refine rq_seq 50 (fun _=>0) [0,0,0,4] [⟨[],[0],[],Fct.blk 20 2 (fun g=>pt g 0) 36 #[.pointer none]⟩,⟨[],[1],[],Fct.blk 22 3 (fun g=>pt g 0) 28 #[Zi h.1,Zi h.2.1,Zi h.2.2]⟩,dv [] [] 4 (.slice none 0 0),dv [] [] 5 (.bool false)] z0 d0 ?_ ?_
 ·exact sS (fun s=>nw1 (s.1.trans S))<|sS (fun s=>nw1 (s.1.trans T))<|sO (or_assign rfl)<|sO (or_assign rfl)<|steps_nil
 intro q t K L W Y F A
 obtain ⟨⟨y,(c : t.eval (.tmp 2) = pt y 0),(a : BlkO q 20 K y 36 #[.pointer none])⟩,⟨z,(l : t.eval (.tmp 3) = pt z 0),(b : BlkO q 22 K z 28 #[Zi h.1,Zi h.2.1,Zi h.2.2])⟩,-⟩ := F [0,1] rfl
 have C := es_ R A
 refine fl_seq (fun ad aa I=>?_)
 refine rq_seq 50 q (bz 2) [dv [] [2] 7 (.pointer none),dv [0] [] 8 (.bool true)] W L ?_ ?_
 ·exact sL1 to36 c a<|sF (fun f=>ok1 f.1)<|steps_nil
 intro U ae ah M X H G i
 obtain ⟨O,P⟩ := kt2 H c l
 have m := gv (G [1] rfl) rfl
 have D := es_ C i
 obtain ⟨u,v⟩ := be2 i a b
 refine fl_t m ?_
 refine rq_seq 50 U (bz 2) [dv [] [] 4 (.slice none 0 0),dv [] [] 5 (.bool false)] X M ?_ ?_
 ·exact sO (or_assign rfl)<|sO (or_assign rfl)<|steps_nil
 intro V af ai N ak Z j B
 have o := gv (j [0] rfl) rfl
 have p := gv (j [1] rfl) rfl
 have E := es_ D B
 refine fl_ret ?_
 refine I _ _ _ rfl ?_
 obtain rfl := osome hs
 exact J _ _ _ _ (.inl rfl) N (results2_ rfl (RVal.tmp_ o) (RVal.tmp_ p)) ⟨V,(none,0),rfl,E,RwO.nil_⟩
theorem pack_Pack_Blobs_nil_w (w : World) (r : Int) (O : pack_Pack_Blobs_nil = some r) :
  Calls Try.prog 13 #[.pointer none] w fun e P=>∃ u : Own,e = .returned (Zi r) ∧ Evo [] (fun _=>0) u w P := by
 refine fl_enter (n := 10) rfl rfl rfl (Nat.le_of_ble_eq_true rfl) ?_
 intro W Q d0 U b t
 have B := b 0 _ rfl
 clear b
 have A : Evo [] (fun _=>0) (fun _=>0) w w := Evo.refl _ _ _
 refine rq_seq 10 (fun _=>0) (bz 1) [dv [] [] 2 (Zi 0)] U d0 ?_ ?_
 ·exact sO (or_assign rfl)<|steps_nil
 intro C L R v F p H g
 have a := kt p B
 have j := es_ A g
 refine fl_seq (fun K J s=>?_)
 refine rq_seq 10 C (bz 2) [dv [] [0] 3 (.pointer none),dv [0] [] 4 (.bool true)] F v ?_ ?_
 ·exact sM a<|sF (fun f=>ok1 f.1)<|steps_nil
 intro D M S x G q m h
 have z := kt q a
 have c := gv (m [1] rfl) rfl
 have k := es_ j h
 refine fl_t c ?_
 refine rq_seq 10 D (bz 1) [dv [] [] 2 (Zi 0)] G x ?_ ?_
 ·exact sO (or_assign rfl)<|steps_nil
 intro E N T y V I o i
 have d := gv (o [0] rfl) rfl
 have l := es_ k i
 refine fl_ret ?_
 refine s _ _ _ rfl ?_
 obtain rfl := osome O
 exact t _ _ _ _ (.inl rfl) y (results1_ rfl (RVal.tmp_ d)) ⟨E,rfl,l⟩
theorem law27_alike_nil_w (w : World) (J : ByteArray × (List ((Int × Int × Int) × ByteArray))) (k : Option Addr) (v : Nat) (W : Int × Int × Int) (B : RdO (fun _=>0) [0] w R77 k v J.2) (r : Bool) (A : law27_alike_nil J W = some r) :
  Calls Try.prog 18 #[.pointer none,.agg #[.string J.1,sl k J.2 v],.agg #[Zi W.1,Zi W.2.1,Zi W.2.2]] w fun e w'=>∃ N : Own,e = .returned (.bool r) ∧ Evo [] (fun _=>0) N w w' := by
 refine fl_enter (n := 132) rfl rfl rfl (Nat.le_of_ble_eq_true rfl) ?_
 intro a0 Q d0 z0 cc cd
 have gX := cc 0 _ rfl
 have gY := cc 1 _ rfl
 have gZ := cc 2 _ rfl
 clear cc
 have gW : Evo [] (fun _=>0) (fun _=>0) w w := Evo.refl _ _ _
 refine rq_seq 132 (fun _=>0) [0,0,0] [⟨[],[1],[],Fct.blk 174 4 (fun g=>pt g 0) 43 #[.string J.1,sl k J.2 v]⟩,⟨[],[2],[],Fct.blk 176 5 (fun g=>pt g 0) 28 #[Zi W.1,Zi W.2.1,Zi W.2.2]⟩,dv [] [] 6 (.bool false)] z0 d0 ?_ ?_
 ·exact sS (fun s=>nw1 (s.1.trans gY))<|sS (fun s=>nw1 (s.1.trans gZ))<|sO (or_assign rfl)<|steps_nil
 intro dd eu eI f1 gG fp fc eV
 have bU := kt fp gX
 obtain ⟨⟨H,(dk : eu.eval (.tmp 4) = pt H 0),(aV : BlkO dd 174 eI H 43 #[.string J.1,sl k J.2 v])⟩,⟨au,(dl : eu.eval (.tmp 5) = pt au 0),(aW : BlkO dd 176 eI au 28 #[Zi W.1,Zi W.2.1,Zi W.2.2])⟩,-⟩ := fc [0,1] rfl
 have e2 := es_ gW eV
 refine rq_seq 132 dd (bz 3) [dv [] [0] 15 (.pointer none),⟨[0],[],[],Fct.row 179 [180] 16 30 R30 ([] : List ((Int × Int × Int) × (List Int)))⟩,⟨[1],[],[],Fct.rel [7,16] (fun l=>∀ (p : Option Addr) (o : Nat),l.getD 1 undef = .slice p ([] : List ((Int × Int × Int) × (List Int))).length o → l.getD 0 undef = .slice p ([] : List ((Int × Int × Int) × (List Int))).length o)⟩] gG f1 ?_ ?_
 ·refine sM bU<|sF (fun f=>or_call cf21 (args1 f.1) (pack_Pack_Entries_nil_w _   ([] : List ((Int × Int × Int) × (List Int))) rfl) (post_row (m' := (look0 [(1,179),(2,180)])) (.inr (by decide)) rfl rfl (fun _=>rfl))) ?_
  refine sc (fun own a wx Z aa I=>?_) ?_
  ·obtain ⟨⟨⟨p,o⟩,(cb : a.eval (.tmp 16) = .slice p ([] : List ((Int × Int × Int) × (List Int))).length o),gQ⟩,-⟩ := Z
   exact px (or_mono (f := Fct.val 7 (.slice p ([] : List ((Int × Int × Int) × (List Int))).length o)) (or_assign cb) (fun N a' w' v' hp h=>fun _ _ X=>by cases (cb.symm.trans ((hp.2 16 (by decide)).symm.trans X)); exact h))
  exact steps_nil
 intro eA ci gA f2 gH fq fd cU
 obtain ⟨bV,dm,bW⟩ := kt3 fq bU dk dl
 obtain ⟨⟨⟨p,o⟩,(cb : ci.eval (.tmp 16) = .slice p ([] : List ((Int × Int × Int) × (List Int))).length o),(aX : RwO eA 179 [180] gA 30 R30 p o ([] : List ((Int × Int × Int) × (List Int))))⟩,(g9 : ∀ (p : Option Addr) (o : Nat),ci.eval (.tmp 16) = .slice p ([] : List ((Int × Int × Int) × (List Int))).length o → ci.eval (.tmp 7) = .slice p ([] : List ((Int × Int × Int) × (List Int))).length o),-⟩ := fd [1,2] rfl
 have dn := g9 _ _ cb
 have e3 := es_ e2 cU
 obtain ⟨aY,ag⟩ := be2 cU aV aW
 refine rq_seq 132 eA [0,0,3,7,15,15,31,127] [dv [] [0] 18 (.pointer none),dv [] [5] 19 (.agg #[Zi W.1,Zi W.2.1,Zi W.2.2]),⟨[0,1],[],[],Fct.mems [183] 20 (fun (x : Option Addr × Nat)=>.tuple #[.slice x.1 ((([] : List Int),false).1).length x.2,.bool ((([] : List Int),false).2)]) (fun (x : Option Addr × Nat) own w=>RwO own 183 [] w 5 R5 x.1 x.2 ((([] : List Int),false).1)) (fun hk he h=>RwO.evo (hits_sub hk (by decide)) he h)⟩,⟨[2],[],[],Fct.rel [17,20] (fun l=>∀ (d : Option Addr) (b : Nat),l.getD 1 undef = .tuple #[.slice d ((([] : List Int),false).1).length b,.bool ((([] : List Int),false).2)] → l.getD 0 undef = .tuple #[.slice d ((([] : List Int),false).1).length b,.bool ((([] : List Int),false).2)])⟩,⟨[3,2],[],[],Fct.rel [21,20] (fun l=>∀ (d : Option Addr) (b : Nat),l.getD 1 undef = .tuple #[.slice d ((([] : List Int),false).1).length b,.bool ((([] : List Int),false).2)] → l.getD 0 undef = .slice d ((([] : List Int),false).1).length b)⟩,dv [3,2] [] 22 (.bool ((([] : List Int),false).2)),⟨[4,2],[],[],Fct.rel [8,20] (fun l=>∀ (d : Option Addr) (b : Nat),l.getD 1 undef = .tuple #[.slice d ((([] : List Int),false).1).length b,.bool ((([] : List Int),false).2)] → l.getD 0 undef = .slice d ((([] : List Int),false).1).length b)⟩,dv [5] [] 9 (.bool ((([] : List Int),false).2))] gH f2 ?_ ?_
 ·refine sM bV<|sL ta28 bW ag<|sF (fun f=>or_call cf22 (args2 f.1 f.2.1) (pack_Pack_Get_nil_w _ W  (([] : List Int),false) rfl) (post_mems (m := (fun _=>0)) (m' := (look0 [(1,183)])) (fun _ _=>.inl rfl) (fun N w' a' x h1 h=>⟨x,h1,RwO.back_ h (by decide) (.inl (Rep.fl_flat _))⟩))) ?_
  refine sc (fun own a wx Z aa I=>?_) ?_
  ·obtain ⟨⟨⟨d,b⟩,(L : a.eval (.tmp 20) = .tuple #[.slice d ((([] : List Int),false).1).length b,.bool ((([] : List Int),false).2)]),av⟩,-⟩ := Z
   exact px (or_mono (f := Fct.val 17 (.tuple #[.slice d ((([] : List Int),false).1).length b,.bool ((([] : List Int),false).2)])) (or_move L) (fun N a' w' v' hp h=>fun _ _ X=>by cases (L.symm.trans ((hp.2 20 (by decide)).symm.trans X)); exact h))
  refine sc (fun own a wx Z aa I=>?_) ?_
  ·obtain ⟨(de : ∀ (d : Option Addr) (b : Nat),a.eval (.tmp 20) = .tuple #[.slice d ((([] : List Int),false).1).length b,.bool ((([] : List Int),false).2)] → a.eval (.tmp 17) = .tuple #[.slice d ((([] : List Int),false).1).length b,.bool ((([] : List Int),false).2)]),⟨⟨d,b⟩,(L : a.eval (.tmp 20) = .tuple #[.slice d ((([] : List Int),false).1).length b,.bool ((([] : List Int),false).2)]),av⟩,-⟩ := Z
   have cS := de _ _ L
   exact px (or_mono (f := Fct.val 21 (.slice d ((([] : List Int),false).1).length b)) (ok1 cS) (fun N a' w' v' hp h=>fun _ _ X=>by cases (L.symm.trans ((hp.2 20 (by decide)).symm.trans X)); exact h))
  refine sc (fun own a wx Z aa I=>?_) ?_
  ·obtain ⟨(de : ∀ (d : Option Addr) (b : Nat),a.eval (.tmp 20) = .tuple #[.slice d ((([] : List Int),false).1).length b,.bool ((([] : List Int),false).2)] → a.eval (.tmp 17) = .tuple #[.slice d ((([] : List Int),false).1).length b,.bool ((([] : List Int),false).2)]),⟨⟨d,b⟩,L,av⟩,-⟩ := Z
   have cS := de _ _ L
   exact px (ok1 cS)
  refine sc (fun own a wx Z aa I=>?_) ?_
  ·obtain ⟨(gz : ∀ (d : Option Addr) (b : Nat),a.eval (.tmp 20) = .tuple #[.slice d ((([] : List Int),false).1).length b,.bool ((([] : List Int),false).2)] → a.eval (.tmp 21) = .slice d ((([] : List Int),false).1).length b),⟨⟨d,b⟩,(L : a.eval (.tmp 20) = .tuple #[.slice d ((([] : List Int),false).1).length b,.bool ((([] : List Int),false).2)]),av⟩,-⟩ := Z
   have gf := gz _ _ L
   exact px (or_mono (f := Fct.val 8 (.slice d ((([] : List Int),false).1).length b)) (or_assign gf) (fun N a' w' v' hp h=>fun _ _ X=>by cases (L.symm.trans ((hp.2 20 (by decide)).symm.trans X)); exact h))
  exact sA<|steps_nil
 intro eB cj gB f3 gI fr cY bI
 obtain ⟨dp,dq,dr,ds⟩ := kt4 fr bV dm bW dn
 have du := gv (cY [7] rfl) rfl
 obtain ⟨⟨⟨d,b⟩,(L : cj.eval (.tmp 20) = .tuple #[.slice d ((([] : List Int),false).1).length b,.bool ((([] : List Int),false).2)]),(a1 : RwO eB 183 [] gB 5 R5 d b ((([] : List Int),false).1))⟩,(ha : ∀ (d : Option Addr) (b : Nat),cj.eval (.tmp 20) = .tuple #[.slice d ((([] : List Int),false).1).length b,.bool ((([] : List Int),false).2)] → cj.eval (.tmp 8) = .slice d ((([] : List Int),false).1).length b),-⟩ := cY [2,6] rfl
 have dt := ha _ _ L
 have e4 := es_ e3 bI
 obtain ⟨a2,a3⟩ := be2 bI aY ag
 have aZ := re_ bI aX
 refine rq_seq 132 eB (bz 2) [dv [] [] 10 (.string ByteArray.empty),dv [] [] 11 (.bool false)] gI f3 ?_ ?_
 ·exact sO (or_assign rfl)<|sO (or_assign rfl)<|steps_nil
 intro go hr hI f4 gJ fs cZ aA
 obtain ⟨af,U,dw,bX,dx,dy⟩ := kt6 fs dp dq dr ds dt du
 have cl := gv (cZ [0] rfl) rfl
 have cm := gv (cZ [1] rfl) rfl
 have cV := es_ e4 aA
 obtain ⟨E,a6⟩ := be2 aA a2 a3
 have a4 := re_ aA aZ
 have a5 := re_ aA a1
 refine fl_seq (fun hh fx fF=>?_)
 obtain ⟨ab,fJ,A⟩ := obind A
 obtain ⟨ce,fI,A⟩ := obind A
 obtain ⟨ae,fK,A⟩ := obind A
 obtain ⟨gD,fL,A⟩ := obind A
 refine rd_seq g_mixed 132 [] go [] [0,1,0,4,12,31,63,127,255,127,639,1663,4095,8191,16383,32767,65535,32767,262143,524287,1048575,2097151,4194303,8388607,16777215,33554431,8388607,75497471,268435455,536870911] [dv [] [7] 23 (.slice p ([] : List ((Int × Int × Int) × (List Int))).length o),dv [0] [] 24 (Zi (([] : List ((Int × Int × Int) × (List Int))).length : Int)),dv [] [4] 25 (pt H 1),dv [2] [] 26 (sl k J.2 v),dv [3] [] 27 (Zi (J.2.length : Int)),dv [1,4] [] 28 (.bool (!decide ((([] : List ((Int × Int × Int) × (List Int))).length : Int) = (J.2.length : Int)))),dv [5] [] 29 (.bool (!decide ((([] : List ((Int × Int × Int) × (List Int))).length : Int) = (J.2.length : Int)))),dc [6] [0] (!(!decide ((([] : List ((Int × Int × Int) × (List Int))).length : Int) = (J.2.length : Int)))) 30 (.pointer none),dc [6,7] [] (!(!decide ((([] : List ((Int × Int × Int) × (List Int))).length : Int) = (J.2.length : Int)))) 31 (Zi 0),dc [6] [4] (!(!decide ((([] : List ((Int × Int × Int) × (List Int))).length : Int) = (J.2.length : Int)))) 32 (pt H 1),dc [6,9] [] (!(!decide ((([] : List ((Int × Int × Int) × (List Int))).length : Int) = (J.2.length : Int)))) 33 (sl k J.2 v),dc [6,10] [] (!(!decide ((([] : List ((Int × Int × Int) × (List Int))).length : Int) = (J.2.length : Int)))) 34 (Zi (J.2.length : Int)),dc [6,8,11] [] (!(!decide ((([] : List ((Int × Int × Int) × (List Int))).length : Int) = (J.2.length : Int)))) 35 (.bool (!decide (0 = (J.2.length : Int)))),dv [6,12] [] 36 (.bool ab),dv [13] [] 37 (.bool ab),dc [14] [0] (!ab) 38 (.pointer none),dc [14,15] [] (!ab) 39 (Zi 0),dc [14] [4] (!ab) 40 (.agg #[.string J.1,sl k J.2 v]),⟨[14,17],[],[],Fct.cond (!ab) (some 41) (Fct.row 190 [] 41 9 R9 ce)⟩,dc [14,18] [] (!ab) 42 (Zi (ce.length : Int)),dc [14,16,19] [] (!ab) 43 (.bool (!decide (0 = (ce.length : Int)))),dv [14,20] [] 44 (.bool ae),dv [21] [] 45 (.bool ae),dc [22] [0] (!ae) 46 (.pointer none),⟨[22,23],[],[],Fct.cond (!ae) (some 47) (Fct.row 193 [] 47 5 R5 ([] : List Int))⟩,dc [22,24] [] (!ae) 48 (.string (bsS ([] : List Int))),dc [22] [4] (!ae) 49 (pt H 0),dc [22,26] [] (!ae) 50 (.string J.1),dc [22,25,27] [] (!ae) 51 (.bool (!eqS (bsS ([] : List Int)) J.1)),dv [22,28] [] 52 (.bool gD)] gJ f4 nm_ ?_ ?_
 ·refine sM bX<|sF (fun f=>or_len tu23 f.1 rfl)<|sS (fun s=>or_field fo43_1 (s.1.trans U) (by rfl))<|sG to41 E<|sF (fun f=>or_len tu41 f.1 rfl)<|sF (fun f=>or_neq f.1 f.2.1 rfl)<|sV<|cF (fun _ s _ _=>or_move (s.1.trans af))<|cF (fun f _ _ q=>or_call cf14 (args1 (f.2.1.1 q)) (pack_Pack_Len_nil_w _   0 rfl) post_val)<|cF (fun _ s _ _=>or_field fo43_1 (s.1.trans U) (by rfl))<|cF (fun f _ I q=>ld1 to41 (f.2.1.1 q) (be_ I E))<|cF (fun f _ _ q=>or_len tu41 (f.2.1.1 q) rfl)<|cF (fun f _ _ q=>or_neq (f.2.1.1 q) (f.2.2.1.1 q) rfl)<|sF (fun f=>or_or f.1 rfl (fun hx=>f.2.1.1 hx) (osome fJ).symm)<|sV<|cF (fun _ s _ _=>or_move (s.1.trans af))<|cF (fun f _ _ q=>or_call cf13 (args1 (f.2.1.1 q)) (pack_Pack_Blobs_nil_w _   0 rfl) post_val)<|cFL ta43 U E<|cF (fun f _ I q=>or_call cf35 (args1 (f.2.1.1 q)) (ref27_Blobs_w _ J k v (RdO.zero (RdO.evo rfl I (RdO.evo rfl cV B))) ce (gd_t fI q)) (post_row (m' := (look0 [(1,190)])) (.inl (Rep.fl_flat _)) rfl rfl (fun _=>rfl))) ?_
  refine sc (fun own a wx Z aa I=>?_) ?_
  ·obtain ⟨gg,fY,-⟩ := Z
   refine sg_f rfl rfl rfl gg (fun q=>?_)
   obtain ⟨⟨hb,gS⟩,gh,gR⟩ := fY.1 q
   exact or_len tu80 gh rfl
  refine cF (fun f _ _ q=>or_neq (f.2.1.1 q) (f.2.2.1.1 q) rfl)<|sF (fun f=>or_or f.1 rfl (fun hx=>f.2.1.1 hx) (osome fK).symm)<|sV<|cF (fun _ s _ _=>or_move (s.1.trans af))<|cF (fun f _ _ q=>or_call cf20 (args1 (f.2.1.1 q)) (pack_Pack_Head_nil_w _   ([] : List Int) rfl) (post_row (m' := (look0 [(1,193)])) (.inl (Rep.fl_flat _)) rfl rfl (fun _=>rfl))) ?_
  refine sc (fun own a wx Z aa I=>?_) ?_
  ·obtain ⟨gi,fZ,-⟩ := Z
   refine sg_f rfl rfl rfl gi (fun q=>?_)
   obtain ⟨⟨hc,gT⟩,gj,di⟩ := fZ.1 q
   exact or_convBS tu22 tn5 tS9 gj (RwO.rd di)
  exact cF (fun _ s _ _=>or_field fo43_0 (s.1.trans U) (by rfl))<|cF (fun f _ I q=>ld1 to9 (f.2.1.1 q) (be_ I E))<|cF (fun f _ _ q=>or_neqS tS9 (f.2.1.1 q) (f.2.2.1.1 q) rfl)<|sF (fun f=>or_or f.1 rfl (fun hx=>f.2.1.1 hx) (osome fL).symm)<|steps_nil
 intro eC ht hJ ev eN ft fe aB
 obtain ⟨dz,dA,dB,dC,dD,dE,cn,co⟩ := kt8 ft af U dw bX dx dy cl cm
 have cp := gv (fe [29] rfl) rfl
 have cW := es_ cV aB
 obtain ⟨a9,ba⟩ := be2 aB E a6
 have a7 := re_ aB a4
 have a8 := re_ aB a5
 refine fl_cond cp A (fun fT A=>?_) (fun fT A=>?_)
 ·refine rq_seq 132 eC (bz 1) [dv [] [] 6 (.bool false)] eN ev ?_ ?_
  ·exact sO (or_assign rfl)<|steps_nil
  intro gp hu hK f5 hW g2 ff eW
  have dF := gv (ff [0] rfl) rfl
  have e5 := es_ cW eW
  refine fl_ret ?_
  refine fF _ _ _ rfl ?_
  obtain rfl := osome A
  exact cd _ _ _ _ (.inl rfl) f5 (results1_ rfl (RVal.tmp_ dF)) ⟨gp,rfl,e5⟩
 refine fl_skip ?_
 refine fx _ _ ?_
 refine fl_seq (fun hi fy c7=>?_)
 refine rq_seq 132 eC (bz 1) [dv [] [] 12 (Zi 0)] eN ev ?_ ?_
 ·exact sO (or_assign rfl)<|steps_nil
 intro gq hv hL f6 gK fu fg aC
 obtain ⟨dG,dH,dI,dJ,dK,dL,cq,cr⟩ := kt8 fu dz dA dB dC dD dE cn co
 have cs := gv (fg [0] rfl) rfl
 have e6 := es_ cW aC
 obtain ⟨bd,be⟩ := be2 aC a9 ba
 have bb := re_ aC a7
 have bc := re_ aC a8
 refine fl_block (fun hj g6 fM c8=>?_)
 refine fl_loop (body := (fun s=>law27_alike_nil_b1 J W s.1 s.2.1 s.2.2)) (z := r) (show loopO _ _ = _ from A) (fun (s : ByteArray × Bool × Int) a wx=>match s with | (C,V,j)=>∃ (ox : Own),a.defers = [] ∧ a.tmps.size = 132 ∧ a.eval (.tmp 0) = .pointer none ∧ a.eval (.tmp 4) = pt H 0 ∧ a.eval (.tmp 5) = pt au 0 ∧ a.eval (.tmp 7) = .slice p ([] : List ((Int × Int × Int) × (List Int))).length o ∧ a.eval (.tmp 8) = .slice d ((([] : List Int),false).1).length b ∧ a.eval (.tmp 9) = .bool ((([] : List Int),false).2) ∧ a.eval (.tmp 10) = .string C ∧ a.eval (.tmp 11) = .bool V ∧ a.eval (.tmp 12) = Zi j ∧ Evo [] (fun _=>0) ox w wx ∧ BlkO ox 174 wx H 43 #[.string J.1,sl k J.2 v] ∧ BlkO ox 176 wx au 28 #[Zi W.1,Zi W.2.1,Zi W.2.2] ∧ RwO ox 179 [244] wx 30 R30 p o ([] : List ((Int × Int × Int) × (List Int))) ∧ RwO ox 183 [] wx 5 R5 d b ((([] : List Int),false).1)) ?_ ?_
 ·exact ⟨(rl [(180,244)] gq),f6,gK,dG,dH,dI,dJ,dK,dL,cq,cr,cs,(Evo.rl_ e6 (fun _=>Nat.le_refl 0) rfl),(BlkO.rl_ bd),(BlkO.rl_ be),(RwO.rl_ bb),(RwO.rl_ bc)⟩
 ·rintro ⟨C,V,j⟩ dg hw hM ⟨gr,f7,gL,dM,dN,dO,bY,dP,dQ,ct,cu,aO,eX,bh,bi,bf,bg⟩ A hl fz bK df
  have A : law27_alike_nil_b1 J W C V j = some dg := A
  refine fl_seq (fun hm fA fG=>?_)
  refine rq_seq 132 gr [0,0,2,7] [dv [] [12] 53 (Zi j),dv [] [7] 54 (.slice p ([] : List ((Int × Int × Int) × (List Int))).length o),dv [1] [] 55 (Zi (([] : List ((Int × Int × Int) × (List Int))).length : Int)),dv [0,2] [] 56 (.bool (decide (j < (([] : List ((Int × Int × Int) × (List Int))).length : Int))))] gL f7 ?_ ?_
  ·exact sM aO<|sM bY<|sF (fun f=>or_len tu23 f.1 rfl)<|sF (fun f=>or_lss f.1 f.2.1 rfl)<|steps_nil
  intro eD hy hN ew eO c2 fh aD
  obtain ⟨dR,ax,dS,ay,bZ,b0,aP,aQ⟩ := kt8 c2 dM dN dO bY dP dQ ct cu
  have M := kt c2 aO
  have cv := gv (fh [3] rfl) rfl
  have Y := es_ eX aD
  obtain ⟨P,bj⟩ := be2 aD bh bi
  have G := re_ aD bf
  have ah := re_ aD bg
  refine fl_cond cv A (fun fU A=>?_) (fun fU A=>?_)
  ·refine fl_skip ?_
   refine fA _ _ ?_
   refine fl_seq (fun hn fB c9=>?_)
   refine fl_block (fun ho fC g8 da=>?_)
   refine fl_seq (fun hq fD fH=>?_)
   obtain ⟨u,bL,A⟩ := obind A
   obtain ⟨t,bM,A⟩ := obind A
   obtain ⟨cf,bN,A⟩ := obind A
   obtain ⟨eJ,bO,A⟩ := obind A
   obtain ⟨gE,fN,A⟩ := obind A
   refine rd_seq g_mixed 132 [] eD [] [0,0,3,7,15,0,32,0,224,480,992,2047,4095,8191,8191,32767,65535,131071,262143,8191,532479,8191,3678207,7872511,16261119,33554431,67108863] [dv [] [7] 59 (.slice p ([] : List ((Int × Int × Int) × (List Int))).length o),dv [] [12] 60 (Zi j),dv [0,1] [] 61 (.pointer (some ((adr p).add ((j : Int).toNat * R30.s)))),dv [2] [] 62 (.pointer (some ((adr p).add ((j : Int).toNat * R30.s)))),⟨[3],[],[],Fct.nest X30 [179,244] 63 (fun (y : (Unit × (Option Addr × Nat)))=>.agg #[Zi u.1.1,Zi u.1.2.1,Zi u.1.2.2]) u⟩,dv [] [4] 64 (pt H 1),dv [5] [] 65 (sl k J.2 v),dv [] [12] 66 (Zi j),dv [6,7] [] 67 (.pointer (some ((adr k).add ((j : Int).toNat * R77.s)))),dv [8] [] 68 (.pointer (some ((adr k).add ((j : Int).toNat * R77.s)))),dv [9] [] 69 (.agg #[Zi t.1.1,Zi t.1.2.1,Zi t.1.2.2]),dv [4,10] [] 70 (.bool (!decide (u.1 = t.1))),dv [11] [] 71 (.bool (!decide (u.1 = t.1))),dc [12] [7] (!(!decide (u.1 = t.1))) 72 (.slice p ([] : List ((Int × Int × Int) × (List Int))).length o),dc [12] [12] (!(!decide (u.1 = t.1))) 73 (Zi j),dc [12,13,14] [] (!(!decide (u.1 = t.1))) 74 (.pointer (some ((adr p).add ((j : Int).toNat * R30.s)))),dc [12,15] [] (!(!decide (u.1 = t.1))) 75 (.pointer (some (((adr p).add ((j : Int).toNat * R30.s)).add 3))),⟨[12,16],[],[],Fct.cond (!(!decide (u.1 = t.1))) (some 76) (Fct.nest X30 [179,244] 76 (fun (y : (Unit × (Option Addr × Nat)))=>.slice y.2.1 cf.2.length y.2.2) cf)⟩,dc [12,17] [] (!(!decide (u.1 = t.1))) 77 (.string (bsS cf.2)),dc [12] [4] (!(!decide (u.1 = t.1))) 78 (pt H 1),dc [12,19] [] (!(!decide (u.1 = t.1))) 79 (sl k J.2 v),dc [12] [12] (!(!decide (u.1 = t.1))) 80 (Zi j),dc [12,20,21] [] (!(!decide (u.1 = t.1))) 81 (.pointer (some ((adr k).add ((j : Int).toNat * R77.s)))),dc [12,22] [] (!(!decide (u.1 = t.1))) 82 (.pointer (some (((adr k).add ((j : Int).toNat * R77.s)).add 3))),dc [12,23] [] (!(!decide (u.1 = t.1))) 83 (.string eJ.2),dc [12,18,24] [] (!(!decide (u.1 = t.1))) 84 (.bool (!eqS (bsS cf.2) eJ.2)),dv [12,25] [] 85 (.bool gE)] eO ew nm_ ?_ ?_
   ·refine sM ay<|sM M<|sF (fun f=>or_index (R := R30) (l := ([] : List ((Int × Int × Int) × (List Int)))) tl23 f.1 f.2.1 (RdO.some_ (RwO.rd G) bL) bL)<|sF (fun f=>or_field fo30_0 f.1 (Addr.add_zero' _))<|sFE (fun f I=>or_loadN X30 0 3 ta28 f.1 (Addr.add_zero' _).symm (RwO.rd (re_ I G)) bL (fun _=>rfl) (fun _=>rfl))<|sS (fun s=>or_field fo43_1 (s.1.trans ax) (by rfl))<|sG to41 P<|sM M<|sF (fun f=>or_index (R := R77) (l := J.2) tl41 f.1 f.2.1 (RdO.some_ (RdO.evo rfl Y B) bM) bM)<|sF (fun f=>or_field fo77_0 f.1 (Addr.add_zero' _))<|sFE (fun f I=>or_load (l := [Zi t.1.1,Zi t.1.2.1,Zi t.1.2.2]) ta75 f.1 (CellsAt.head_ (RdO.cells (F := E77) (RdO.evo rfl I (RdO.evo rfl Y B)) bM) rfl) rfl) ?_
    refine sc (fun own a wx Z aa I=>?_) ?_
    ·obtain ⟨⟨⟨_,_⟩,gk,⟨-,-⟩⟩,gl,-⟩ := Z
     exact px (or_neqA sg75 gk gl (sn75 u.1.1 u.1.2.1 u.1.2.2 t.1.1 t.1.2.1 t.1.2.2 _) rfl)
    refine sV<|cF (fun _ s _ _=>or_move (s.1.trans ay))<|cF (fun _ s _ _=>or_move (s.1.trans M))<|cF (fun f _ _ q=>or_index (R := R30) (l := ([] : List ((Int × Int × Int) × (List Int)))) tl23 (f.2.1.1 q) (f.2.2.1.1 q) (RdO.some_ (RwO.rd G) (gd_t bN q)) (gd_t bN q))<|cF (fun f _ _ q=>or_field fo30_1 (f.2.1.1 q) rfl)<|cF (fun f _ I q=>or_loadN1 X30 3 to22 (f.2.1.1 q) rfl (RwO.rd (re_ I G)) (gd_t bN q) (fun _=>rfl)) ?_
    refine sc (fun own a wx Z aa I=>?_) ?_
    ·obtain ⟨gm,f0,-⟩ := Z
     refine sg_f rfl rfl rfl gm (fun q=>?_)
     obtain ⟨⟨_,⟨hd,gU⟩⟩,gn,⟨-,dj⟩⟩ := f0.1 q
     exact or_convBS tu22 tn5 tS9 gn dj
    exact cF (fun _ s _ _=>or_field fo43_1 (s.1.trans ax) (by rfl))<|cF (fun f _ I q=>ld1 to41 (f.2.1.1 q) (be_ I P))<|cF (fun _ s _ _=>or_move (s.1.trans M))<|cF (fun f _ _ q=>or_index (R := R77) (l := J.2) tl41 (f.2.1.1 q) (f.2.2.1.1 q) (RdO.some_ (RdO.evo rfl Y B) (gd_t bO q)) (gd_t bO q))<|cF (fun f _ _ q=>or_field fo77_1 (f.2.1.1 q) rfl)<|cF (fun f _ I q=>or_load1 to9 (f.2.1.1 q) (CellsAt.one (RdO.cells (F := E77) (RdO.evo rfl I (RdO.evo rfl Y B)) (gd_t bO q)) rfl))<|cF (fun f _ _ q=>or_neqS tS9 (f.2.1.1 q) (f.2.2.1.1 q) rfl)<|sF (fun f=>or_or f.1 rfl (fun hx=>f.2.1.1 hx) (osome fN).symm)<|steps_nil
   intro eE hz hO ex eP c3 fi aE
   obtain ⟨dT,b1,b2,dU,dV,dW,cw,cx⟩ := kt8 c3 dR ax dS ay bZ b0 aP aQ
   have aR := kt c3 M
   have cy := gv (fi [26] rfl) rfl
   have aK := es_ Y aE
   obtain ⟨ai,aj⟩ := be2 aE P bj
   have bk := re_ aE G
   have bl := re_ aE ah
   refine fl_cond cy A (fun fV A=>?_) (fun fV A=>?_)
   ·refine rq_seq 132 eE (bz 1) [dv [] [] 6 (.bool false)] eP ex ?_ ?_
    ·exact sO (or_assign rfl)<|steps_nil
    intro gs hA hP f8 hX g3 fj eY
    have dX := gv (fj [0] rfl) rfl
    have e7 := es_ aK eY
    refine fl_ret ?_
    refine fH _ _ _ rfl ?_
    refine da _ _ _ rfl ?_
    refine c9 _ _ _ rfl ?_
    replace A := df _ A
    refine bK _ _ _ rfl ?_
    refine c8 _ _ _ rfl ?_
    refine c7 _ _ _ rfl ?_
    obtain rfl := osome A
    exact cd _ _ _ _ (.inl rfl) f8 (results1_ rfl (RVal.tmp_ dX)) ⟨gs,rfl,e7⟩
   refine fl_skip ?_
   refine fD _ _ ?_
   refine fl_seq (fun fS fE g7=>?_)
   have es : ∀ (K : Act) (aq : World) (ap : Own) (ar : ByteArray) (aM : Bool),K.defers = [] → K.tmps.size = 132 → K.eval (.tmp 0) = .pointer none → K.eval (.tmp 4) = pt H 0 → K.eval (.tmp 5) = pt au 0 → K.eval (.tmp 7) = .slice p ([] : List ((Int × Int × Int) × (List Int))).length o → K.eval (.tmp 8) = .slice d ((([] : List Int),false).1).length b → K.eval (.tmp 9) = .bool ((([] : List Int),false).2) → K.eval (.tmp 10) = .string ar → K.eval (.tmp 11) = .bool aM → K.eval (.tmp 12) = Zi j → Evo [] (fun _=>0) ap w aq → BlkO ap 174 aq H 43 #[.string J.1,sl k J.2 v] → BlkO ap 176 aq au 28 #[Zi W.1,Zi W.2.1,Zi W.2.2] → RwO ap 179 [313] aq 30 R30 p o ([] : List ((Int × Int × Int) × (List Int))) → RwO ap 183 [] aq 5 R5 d b ((([] : List Int),false).1) → law27_alike_nil_k2 J j ar aM = some dg → fS .normal K aq := by
    intro K aq ap ar aM f9 gM b3 dY dZ b4 d1 d2 cz cA aS eZ bn bo S bm A
    refine fE _ _ ?_
    obtain ⟨aU,bP,A⟩ := obind A
    refine rq_seq 132 ap [0,0,0,6,14,30,63,127,255,255,511,2047] [dv [] [0] 101 (.pointer none),dv [] [7] 102 (.slice p ([] : List ((Int × Int × Int) × (List Int))).length o),dv [] [12] 103 (Zi j),dv [1,2] [] 104 (.pointer (some ((adr p).add ((j : Int).toNat * R30.s)))),dv [3] [] 105 (.pointer (some ((adr p).add ((j : Int).toNat * R30.s)))),⟨[4],[],[],Fct.nest X30 [179,313] 106 (fun (y : (Unit × (Option Addr × Nat)))=>.agg #[Zi aU.1.1,Zi aU.1.2.1,Zi aU.1.2.2]) aU⟩,⟨[0,5],[],[],Fct.mems [320] 107 (fun (x : Option Addr × Nat)=>.tuple #[.slice x.1 ((([] : List Int),false).1).length x.2,.bool ((([] : List Int),false).2)]) (fun (x : Option Addr × Nat) own w=>RwO own 320 [] w 5 R5 x.1 x.2 ((([] : List Int),false).1)) (fun hk he h=>RwO.evo (hits_sub hk (by decide)) he h)⟩,⟨[6],[],[],Fct.rel [100,107] (fun l=>∀ (i : Option Addr) (c : Nat),l.getD 1 undef = .tuple #[.slice i ((([] : List Int),false).1).length c,.bool ((([] : List Int),false).2)] → l.getD 0 undef = .tuple #[.slice i ((([] : List Int),false).1).length c,.bool ((([] : List Int),false).2)])⟩,⟨[7,6],[],[],Fct.rel [108,107] (fun l=>∀ (i : Option Addr) (c : Nat),l.getD 1 undef = .tuple #[.slice i ((([] : List Int),false).1).length c,.bool ((([] : List Int),false).2)] → l.getD 0 undef = .slice i ((([] : List Int),false).1).length c)⟩,dv [7,6] [] 109 (.bool ((([] : List Int),false).2)),⟨[8,6],[],[],Fct.rel [13,107] (fun l=>∀ (i : Option Addr) (c : Nat),l.getD 1 undef = .tuple #[.slice i ((([] : List Int),false).1).length c,.bool ((([] : List Int),false).2)] → l.getD 0 undef = .slice i ((([] : List Int),false).1).length c)⟩,dv [9] [] 14 (.bool ((([] : List Int),false).2))] gM f9 ?_ ?_
    ·refine sM b3<|sM b4<|sM aS<|sF (fun f=>or_index (R := R30) (l := ([] : List ((Int × Int × Int) × (List Int)))) tl23 f.1 f.2.1 (RdO.some_ (RwO.rd S) bP) bP)<|sF (fun f=>or_field fo30_0 f.1 (Addr.add_zero' _))<|sFE (fun f I=>or_loadN X30 0 3 ta28 f.1 (Addr.add_zero' _).symm (RwO.rd (re_ I S)) bP (fun _=>rfl) (fun _=>rfl)) ?_
     refine sc (fun own a wx Z aa I=>?_) ?_
     ·obtain ⟨eS,⟨⟨_,_⟩,eT,⟨-,-⟩⟩,-⟩ := Z
      exact px (or_call cf22 (args2 eS eT) (pack_Pack_Get_nil_w _ aU.1  (([] : List Int),false) rfl) (post_mems (m := (fun _=>0)) (m' := (look0 [(1,320)])) (fun _ _=>.inl rfl) (fun N w' a' x h1 h=>⟨x,h1,RwO.back_ h (by decide) (.inl (Rep.fl_flat _))⟩)))
     refine sc (fun own a wx Z aa I=>?_) ?_
     ·obtain ⟨⟨⟨i,c⟩,(D : a.eval (.tmp 107) = .tuple #[.slice i ((([] : List Int),false).1).length c,.bool ((([] : List Int),false).2)]),aw⟩,-⟩ := Z
      exact px (or_mono (f := Fct.val 100 (.tuple #[.slice i ((([] : List Int),false).1).length c,.bool ((([] : List Int),false).2)])) (or_move D) (fun N a' w' v' hp h=>fun _ _ X=>by cases (D.symm.trans ((hp.2 107 (by decide)).symm.trans X)); exact h))
     refine sc (fun own a wx Z aa I=>?_) ?_
     ·obtain ⟨(bT : ∀ (i : Option Addr) (c : Nat),a.eval (.tmp 107) = .tuple #[.slice i ((([] : List Int),false).1).length c,.bool ((([] : List Int),false).2)] → a.eval (.tmp 100) = .tuple #[.slice i ((([] : List Int),false).1).length c,.bool ((([] : List Int),false).2)]),⟨⟨i,c⟩,(D : a.eval (.tmp 107) = .tuple #[.slice i ((([] : List Int),false).1).length c,.bool ((([] : List Int),false).2)]),aw⟩,-⟩ := Z
      have bH := bT _ _ D
      exact px (or_mono (f := Fct.val 108 (.slice i ((([] : List Int),false).1).length c)) (ok1 bH) (fun N a' w' v' hp h=>fun _ _ X=>by cases (D.symm.trans ((hp.2 107 (by decide)).symm.trans X)); exact h))
     refine sc (fun own a wx Z aa I=>?_) ?_
     ·obtain ⟨(bT : ∀ (i : Option Addr) (c : Nat),a.eval (.tmp 107) = .tuple #[.slice i ((([] : List Int),false).1).length c,.bool ((([] : List Int),false).2)] → a.eval (.tmp 100) = .tuple #[.slice i ((([] : List Int),false).1).length c,.bool ((([] : List Int),false).2)]),⟨⟨i,c⟩,D,aw⟩,-⟩ := Z
      have bH := bT _ _ D
      exact px (ok1 bH)
     refine sc (fun own a wx Z aa I=>?_) ?_
     ·obtain ⟨(fQ : ∀ (i : Option Addr) (c : Nat),a.eval (.tmp 107) = .tuple #[.slice i ((([] : List Int),false).1).length c,.bool ((([] : List Int),false).2)] → a.eval (.tmp 108) = .slice i ((([] : List Int),false).1).length c),⟨⟨i,c⟩,(D : a.eval (.tmp 107) = .tuple #[.slice i ((([] : List Int),false).1).length c,.bool ((([] : List Int),false).2)]),aw⟩,-⟩ := Z
      have eU := fQ _ _ D
      exact px (or_mono (f := Fct.val 13 (.slice i ((([] : List Int),false).1).length c)) (or_assign eU) (fun N a' w' v' hp h=>fun _ _ X=>by cases (D.symm.trans ((hp.2 107 (by decide)).symm.trans X)); exact h))
     exact sA<|steps_nil
    intro eF ck gC ga gN c4 c0 aF
    obtain ⟨d3,b5,d4,d5,d6,d7,cB,cC⟩ := kt8 c4 b3 dY dZ b4 d1 d2 cz cA
    have aT := kt c4 aS
    have cE := gv (c0 [11] rfl) rfl
    obtain ⟨⟨⟨i,c⟩,(D : ck.eval (.tmp 107) = .tuple #[.slice i ((([] : List Int),false).1).length c,.bool ((([] : List Int),false).2)]),(br : RwO eF 320 [] gC 5 R5 i c ((([] : List Int),false).1))⟩,(gy : ∀ (i : Option Addr) (c : Nat),ck.eval (.tmp 107) = .tuple #[.slice i ((([] : List Int),false).1).length c,.bool ((([] : List Int),false).2)] → ck.eval (.tmp 13) = .slice i ((([] : List Int),false).1).length c),-⟩ := c0 [6,10] rfl
    have cD := gy _ _ D
    have bJ := es_ eZ aF
    obtain ⟨ak,bs⟩ := be2 aF bn bo
    have bp := re_ aF S
    have bq := re_ aF bm
    obtain ⟨eK,bQ,A⟩ := obind A
    obtain ⟨gF,fO,A⟩ := obind A
    refine rd_seq g_mixed 132 [] eF [] [0,1,3,7,15,7,39,7,231,487,999,2047,4095] [dv [] [14] 110 (.bool ((([] : List Int),false).2)),dv [0] [] 111 (.bool (!((([] : List Int),false).2))),dv [1] [] 112 (.bool (!((([] : List Int),false).2))),dc [2] [13] (!(!((([] : List Int),false).2))) 113 (.slice i ((([] : List Int),false).1).length c),dc [2,3] [] (!(!((([] : List Int),false).2))) 114 (.string (bsS ((([] : List Int),false).1))),dc [2] [4] (!(!((([] : List Int),false).2))) 115 (pt H 1),dc [2,5] [] (!(!((([] : List Int),false).2))) 116 (sl k J.2 v),dc [2] [12] (!(!((([] : List Int),false).2))) 117 (Zi j),dc [2,6,7] [] (!(!((([] : List Int),false).2))) 118 (.pointer (some ((adr k).add ((j : Int).toNat * R77.s)))),dc [2,8] [] (!(!((([] : List Int),false).2))) 119 (.pointer (some (((adr k).add ((j : Int).toNat * R77.s)).add 3))),dc [2,9] [] (!(!((([] : List Int),false).2))) 120 (.string eK.2),dc [2,4,10] [] (!(!((([] : List Int),false).2))) 121 (.bool (!eqS (bsS ((([] : List Int),false).1)) eK.2)),dv [2,11] [] 122 (.bool gF)] gN ga nm_ ?_ ?_
    ·exact sM cE<|sF (fun f=>or_not f.1 rfl)<|sV<|cF (fun _ s _ _=>or_move (s.1.trans cD))<|cF (fun f _ I q=>or_convBS tu22 tn5 tS9 (f.2.1.1 q) (RwO.rd (re_ I br)))<|cF (fun _ s _ _=>or_field fo43_1 (s.1.trans b5) (by rfl))<|cF (fun f _ I q=>ld1 to41 (f.2.1.1 q) (be_ I ak))<|cF (fun _ s _ _=>or_move (s.1.trans aT))<|cF (fun f _ _ q=>or_index (R := R77) (l := J.2) tl41 (f.2.1.1 q) (f.2.2.1.1 q) (RdO.some_ (RdO.evo rfl bJ B) (gd_t bQ q)) (gd_t bQ q))<|cF (fun f _ _ q=>or_field fo77_1 (f.2.1.1 q) rfl)<|cF (fun f _ I q=>or_load1 to9 (f.2.1.1 q) (CellsAt.one (RdO.cells (F := E77) (RdO.evo rfl I (RdO.evo rfl bJ B)) (gd_t bQ q)) rfl))<|cF (fun f _ _ q=>or_neqS tS9 (f.2.1.1 q) (f.2.2.1.1 q) rfl)<|sF (fun f=>or_or f.1 rfl (fun hx=>f.2.1.1 hx) (osome fO).symm)<|steps_nil
    intro eG hB hQ ey eQ c5 fk aG
    obtain ⟨d8,d9,ea,eb,ec,ed,cG,cH⟩ := kt8 c5 d3 b5 d4 d5 d6 d7 cB cC
    have cI := kt c5 aT
    have cg := gv (fk [12] rfl) rfl
    have cX := es_ bJ aG
    obtain ⟨bv,bw⟩ := be2 aG ak bs
    have bt := re_ aG bp
    have bu := re_ aG bq
    refine fl_cond cg A (fun fW A=>?_) (fun fW A=>?_)
    ·refine rq_seq 132 eG (bz 1) [dv [] [] 6 (.bool false)] eQ ey ?_ ?_
     ·exact sO (or_assign rfl)<|steps_nil
     intro gt hC hR gb hY g4 fl e0
     have ee := gv (fl [0] rfl) rfl
     have e8 := es_ cX e0
     refine fl_ret ?_
     refine da _ _ _ rfl ?_
     refine c9 _ _ _ rfl ?_
     replace A := df _ A
     refine bK _ _ _ rfl ?_
     refine c8 _ _ _ rfl ?_
     refine c7 _ _ _ rfl ?_
     obtain rfl := osome A
     exact cd _ _ _ _ (.inl rfl) gb (results1_ rfl (RVal.tmp_ ee)) ⟨gt,rfl,e8⟩
    refine fl_skip ?_
    refine fC _ _ ?_
    refine fB _ _ ?_
    refine rq 132 eG (bz 3) [dv [] [12] 57 (Zi j),dv [0] [] 58 (Zi (ad j 1)),dv [1] [] 12 (Zi (ad j 1))] eQ ey ?_ ?_
    ·exact sM cI<|sF (fun f=>or_add f.1 rfl rfl)<|sA<|steps_nil
    intro gu hD hS gc gO fv fm aH
    obtain ⟨ef,eg,eh,ei,ej,ek,cJ,cK⟩ := kt8 fv d8 d9 ea eb ec ed cG cH
    have cL := gv (fm [2] rfl) rfl
    have e9 := es_ cX aH
    obtain ⟨bB,bC⟩ := be2 aH bv bw
    have bx := re_ aH bt
    have bA := re_ aH bu
    exact fz _ _ _ A ⟨(rl [(313,244)] gu),gc,gO,ef,eg,eh,ei,ej,ek,cJ,cK,cL,(Evo.rl_ e9 (fun _=>Nat.le_refl 0) rfl),(BlkO.rl_ bB),(BlkO.rl_ bC),(RwO.rl_ bx),(RwO.rl_ bA)⟩
   obtain ⟨O,bR,A⟩ := obind A
   refine rd_seq g_mixed 132 [] eE [] [0,1,0,7,15,31,0,127] [dv [] [4] 86 (pt H 1),dv [0] [] 87 (sl k J.2 v),dv [] [12] 88 (Zi j),dv [1,2] [] 89 (.pointer (some ((adr k).add ((j : Int).toNat * R77.s)))),dv [3] [] 90 (.pointer (some ((adr k).add ((j : Int).toNat * R77.s)))),dv [4] [] 91 (.agg #[Zi O.1.1,Zi O.1.2.1,Zi O.1.2.2]),dv [] [5] 92 (.agg #[Zi W.1,Zi W.2.1,Zi W.2.2]),dv [5,6] [] 93 (.bool (decide (O.1 = W)))] eP ex nm_ ?_ ?_
   ·exact sS (fun s=>or_field fo43_1 (s.1.trans b1) (by rfl))<|sG to41 ai<|sM aR<|sF (fun f=>or_index (R := R77) (l := J.2) tl41 f.1 f.2.1 (RdO.some_ (RdO.evo rfl aK B) bR) bR)<|sF (fun f=>or_field fo77_0 f.1 (Addr.add_zero' _))<|sFE (fun f I=>or_load (l := [Zi O.1.1,Zi O.1.2.1,Zi O.1.2.2]) ta75 f.1 (CellsAt.head_ (RdO.cells (F := E77) (RdO.evo rfl I (RdO.evo rfl aK B)) bR) rfl) rfl)<|sL ta28 b2 aj<|sF (fun f=>or_eqlA sg75 f.1 f.2.1 (se75 O.1.1 O.1.2.1 O.1.2.2 W.1 W.2.1 W.2.2 _) rfl)<|steps_nil
   intro eH hF hT ez eR c6 fn aI
   obtain ⟨b6,az,b7,b8,b9,ca,cM,cN⟩ := kt8 c6 dT b1 b2 dU dV dW cw cx
   have ao := kt c6 aR
   have cO := gv (fn [7] rfl) rfl
   have aL := es_ aK aI
   obtain ⟨T,an⟩ := be2 aI ai aj
   have al := re_ aI bk
   have am := re_ aI bl
   refine fl_cond cO A (fun fX A=>?_) (fun fX A=>?_)
   ·obtain ⟨eL,bS,A⟩ := obind A
    refine rq 132 eH [0,1,0,7,15,31,63,127] [dv [] [4] 94 (pt H 1),dv [0] [] 95 (sl k J.2 v),dv [] [12] 96 (Zi j),dv [1,2] [] 97 (.pointer (some ((adr k).add ((j : Int).toNat * R77.s)))),dv [3] [] 98 (.pointer (some (((adr k).add ((j : Int).toNat * R77.s)).add 3))),dv [4] [] 99 (.string eL.2),dv [5] [] 10 (.string eL.2),dv [] [] 11 (.bool true)] eR ez ?_ ?_
    ·exact sS (fun s=>or_field fo43_1 (s.1.trans az) (by rfl))<|sG to41 T<|sM ao<|sF (fun f=>or_index (R := R77) (l := J.2) tl41 f.1 f.2.1 (RdO.some_ (RdO.evo rfl aL B) bS) bS)<|sF (fun f=>or_field fo77_1 f.1 rfl)<|sFE (fun f I=>or_load1 to9 f.1 (CellsAt.one (RdO.cells (F := E77) (RdO.evo rfl I (RdO.evo rfl aL B)) bS) rfl))<|sA<|sO (or_assign rfl)<|steps_nil
    intro gw hG hU gd gP fw c1 aJ
    obtain ⟨el,em,en,eo,ep,eq,cR⟩ := kt7 fw b6 az b7 b8 b9 ca ao
    have cP := gv (c1 [6] rfl) rfl
    have cQ := gv (c1 [7] rfl) rfl
    have fa := es_ aL aJ
    obtain ⟨bF,bG⟩ := be2 aJ T an
    have bD := re_ aJ al
    have bE := re_ aJ am
    exact (es _ _ (rl [(244,313)] gw) _ _ gd gP el em en eo ep eq cP cQ cR (Evo.rl_ fa (fun _=>Nat.le_refl 0) rfl) (BlkO.rl_ bF) (BlkO.rl_ bG) (RwO.rl_ bD) (RwO.rl_ bE) A)
   refine fl_skip ?_
   exact (es _ _ (rl [(244,313)] eH) _ _ ez eR b6 az b7 b8 b9 ca cM cN ao (Evo.rl_ aL (fun _=>Nat.le_refl 0) rfl) (BlkO.rl_ T) (BlkO.rl_ an) (RwO.rl_ al) (RwO.rl_ am) A)
  refine fl_exit ?_
  refine fG _ _ _ rfl ?_
  replace A := df _ A
  refine bK _ _ _ rfl ?_
  refine fM _ _ ?_
  refine fy _ _ ?_
  obtain ⟨eM,fP,A⟩ := obind A
  refine rq_seq 132 eD [0,1,0,7,15,31,31,127,255,511] [dv [] [8] 123 (.slice d ((([] : List Int),false).1).length b),dv [0] [] 124 (.string (bsS ((([] : List Int),false).1))),dv [] [10] 125 (.string C),dv [1,2] [] 126 (.bool (eqS (bsS ((([] : List Int),false).1)) C)),dv [3] [] 127 (.bool (eqS (bsS ((([] : List Int),false).1)) C)),dc [4] [9] (eqS (bsS ((([] : List Int),false).1)) C) 128 (.bool ((([] : List Int),false).2)),dc [4] [11] (eqS (bsS ((([] : List Int),false).1)) C) 129 (.bool V),dc [4,5,6] [] (eqS (bsS ((([] : List Int),false).1)) C) 130 (.bool (((([] : List Int),false).2) == V)),dv [4,7] [] 131 (.bool eM),dv [8] [] 6 (.bool eM)] eO ew ?_ ?_
  ·exact sM bZ<|sFE (fun f I=>or_convBS tu22 tn5 tS9 f.1 (RwO.rd (re_ I ah)))<|sM aP<|sF (fun f=>or_eqlS tS9 f.1 f.2.1 rfl)<|sV<|cT (fun _ s _ _=>or_move (s.1.trans b0))<|cT (fun _ s _ _=>or_move (s.1.trans aQ))<|cT (fun f _ _ q=>or_eqlb tb4 (f.2.1.1 q) (f.2.2.1.1 q) rfl)<|sF (fun f=>or_and f.1 (fun hx=>f.2.1.1 hx) rfl (osome fP).symm)<|sA<|steps_nil
  intro gx hH hV ge hZ g5 fo e1
  have er := gv (fo [9] rfl) rfl
  have fb := es_ Y e1
  refine fl_ret ?_
  obtain rfl := (osome A).symm
  exact cd _ _ _ _ (.inl rfl) ge (results1_ rfl (RVal.tmp_ er)) ⟨gx,rfl,fb⟩
theorem law27_PackOpens_w (w : World) (b1 : List Int) (cM : Option Addr) (cU : Nat) (t2 : Int × Int × Int) (gb : RdO (fun _=>0) [0] w R5 cM cU b1) (r : Bool) (F : law27_PackOpens b1 t2 = some r) :
  Calls Try.prog 6 #[sl cM b1 cU,.agg #[Zi t2.1,Zi t2.2.1,Zi t2.2.2]] w fun e w'=>∃ E : Own,e = .returned (.bool r) ∧ Evo [] (fun _=>0) E w w' := by
 refine fl_enter (n := 63) rfl rfl rfl (Nat.le_of_ble_eq_true rfl) ?_
 intro a0 Q d0 z0 cv aA
 have f8 := cv 0 _ rfl
 have f9 := cv 1 _ rfl
 clear cv
 have f7 : Evo [] (fun _=>0) (fun _=>0) w w := Evo.refl _ _ _
 refine rq_seq 63 (fun _=>0) [0,0] [⟨[],[1],[],Fct.blk 95 3 (fun g=>pt g 0) 28 #[Zi t2.1,Zi t2.2.1,Zi t2.2.2]⟩,dv [] [] 4 (.bool false)] z0 d0 ?_ ?_
 ·exact sS (fun s=>nw1 (s.1.trans f9))<|sO (or_assign rfl)<|steps_nil
 intro fR f4 gk f6 gm fH fF fD
 have cj := kt fH f8
 obtain ⟨⟨fC,(d9 : f4.eval (.tmp 3) = pt fC 0),(ca : BlkO fR 95 gk fC 28 #[Zi t2.1,Zi t2.2.1,Zi t2.2.2])⟩,-⟩ := fF [0] rfl
 have dP := es_ f7 fD
 obtain ⟨K,fJ,F⟩ := obind F
 refine rq_seq 63 fR [0,0,2,6,15,31] [dv [] [0] 11 (sl cM b1 cU),dv [] [0] 12 (sl cM b1 cU),dv [1] [] 13 (Zi (b1.length : Int)),dv [2] [] 14 (Zi (mn (b1.length : Int) 300)),⟨[0,3],[],[],Fct.view [0] 15 R5 K⟩,⟨[4],[],[],Fct.rel [0,15] (fun l=>∀ (H : Option Addr) (C : Nat),l.getD 1 undef = sl H K C → l.getD 0 undef = sl H K C)⟩] gm f6 ?_ ?_
 ·refine sM cj<|sM cj<|sF (fun f=>or_len tu22 f.1 rfl)<|sF (fun f=>or_min f.1 rfl)<|sFE (fun f G=>or_view (R := R5) (l := b1) (L := [0]) tu22 ts5 f.1 Bnd.none_ (Bnd.some_ f.2.1) Bnd.none_ (RdO.evo rfl G (RdO.evo rfl dP gb)) fJ (.inl rfl) (by simp)) ?_
  refine sc (fun own a wx I J G=>?_) ?_
  ·obtain ⟨⟨⟨H,C⟩,(bH : a.eval (.tmp 15) = sl H K C),f5⟩,-⟩ := I
   exact px (or_mono (f := Fct.val 0 (sl H K C)) (or_assign bH) (fun E a' w' v' hp h=>fun _ _ D=>by cases (bH.symm.trans ((hp.2 15 (by decide)).symm.trans D)); exact h))
  exact steps_nil
 intro fe d4 gl fA f3 fI fG dO
 have ck := kt fI d9
 obtain ⟨⟨⟨H,C⟩,(bH : d4.eval (.tmp 15) = sl H K C),(ah : RdO fe [0] gl R5 H C K)⟩,(gi : ∀ (H : Option Addr) (C : Nat),d4.eval (.tmp 15) = sl H K C → d4.eval (.tmp 0) = sl H K C),-⟩ := fG [4,5] rfl
 have aO := gi _ _ bH
 have dQ := es_ dP dO
 have aX := be_ dO ca
 refine rngO_cases F (fun M eM F=>?_) (fun t eV F=>?_)
 ·refine rq_seq 63 fe [0,1,3,7,7,15,63] [dv [] [0] 17 (sl H K C),dv [0] [] 18 (.tuple #[.pointer none,Zi M.2]),dv [1] [] 16 (.tuple #[.pointer none,Zi M.2]),dv [2] [] 19 (.pointer none),dv [2] [] 20 (Zi M.2),dv [3] [] 5 (.pointer none),dv [4] [] 6 (Zi M.2)] f3 fA ?_ ?_
  ·exact sM aO<|sFE (fun f G=>or_call cf12 (args1 f.1) (pack_Open_n _ K H C (RdO.zero (RdO.evo rfl G ah)) M eM) post_val)<|sV<|sF (fun f=>ok1 f.1)<|sF (fun f=>ok1 f.1)<|sA<|sA<|steps_nil
  intro fK gr gD fo fX eC cw bw
  obtain ⟨bD,cV⟩ := kt2 eC aO ck
  have cW := gv (cw [5] rfl) rfl
  have cX := gv (cw [6] rfl) rfl
  have eg := es_ dQ bw
  have bL := be_ bw aX
  have aw := RdO.evo rfl bw ah
  obtain ⟨b,eW,F⟩ := obind F
  refine rp_seq 63 fK [116] [0,1,3,7,7,0,47,127] [dv [] [0] 22 (sl H K C),⟨[0],[],[],Fct.mems [114] 23 (fun (x : Option Addr × Nat)=>.tuple #[.agg #[.string b.1.1,.slice x.1 b.1.2.length x.2],Zi b.2]) (fun (x : Option Addr × Nat) own w=>RwO own 114 [] w 77 R77 x.1 x.2 b.1.2) (fun hk he h=>RwO.evo (hits_sub hk (by decide)) he h)⟩,⟨[1],[],[],Fct.rel [21,23] (fun l=>∀ (u : Option Addr) (i : Nat),l.getD 1 undef = .tuple #[.agg #[.string b.1.1,sl u b.1.2 i],Zi b.2] → l.getD 0 undef = .tuple #[.agg #[.string b.1.1,sl u b.1.2 i],Zi b.2])⟩,⟨[2,1],[],[],Fct.rel [24,23] (fun l=>∀ (u : Option Addr) (i : Nat),l.getD 1 undef = .tuple #[.agg #[.string b.1.1,sl u b.1.2 i],Zi b.2] → l.getD 0 undef = .agg #[.string b.1.1,sl u b.1.2 i])⟩,dv [2,1] [] 25 (Zi b.2),⟨[],[],[],Fct.blk 116 7 (fun g=>pt g 0) 43 #[.string ByteArray.empty,.slice none 0 0]⟩,⟨[5,3,1],[],[116],Fct.by_ [117] [7,23] (fun l own w=>∃ ay : Nat,l.getD 0 undef = pt ay 0 ∧ (∀ (u : Option Addr) (i : Nat),l.getD 1 undef = .tuple #[.agg #[.string b.1.1,sl u b.1.2 i],Zi b.2] → BlkO own 117 w ay 43 #[.string b.1.1,sl u b.1.2 i])) (fun hk he h=>by obtain ⟨g,e,h⟩ := h; exact ⟨g,e,fun _ _ D=>BlkO.evo (not_hit hk (by decide)) he (h _ _ D)⟩)⟩,dv [4] [] 8 (Zi b.2)] fX fo ?_ ?_
  ·refine sM bD<|sFE (fun f G=>or_call cf19 (args1 f.1) (ref27_Open_w _ K H C (RdO.zero (RdO.evo rfl G aw)) b eW) (post_mems (m := (fun _=>0)) (m' := (look0 [(1,114)])) (fun _ _=>.inl rfl) (fun E w' a' x h1 h=>⟨x,h1,RwO.back_ h (by decide) (.inl (Rep.fl_flat _))⟩))) ?_
   refine sc (fun own a wx I J G=>?_) ?_
   ·obtain ⟨⟨⟨u,i⟩,(A : a.eval (.tmp 23) = .tuple #[.agg #[.string b.1.1,sl u b.1.2 i],Zi b.2]),aG⟩,-⟩ := I
    exact px (or_mono (f := Fct.val 21 (.tuple #[.agg #[.string b.1.1,sl u b.1.2 i],Zi b.2])) (or_move A) (fun E a' w' v' hp h=>fun _ _ D=>by cases (A.symm.trans ((hp.2 23 (by decide)).symm.trans D)); exact h))
   refine sc (fun own a wx I J G=>?_) ?_
   ·obtain ⟨(an : ∀ (u : Option Addr) (i : Nat),a.eval (.tmp 23) = .tuple #[.agg #[.string b.1.1,sl u b.1.2 i],Zi b.2] → a.eval (.tmp 21) = .tuple #[.agg #[.string b.1.1,sl u b.1.2 i],Zi b.2]),⟨⟨u,i⟩,(A : a.eval (.tmp 23) = .tuple #[.agg #[.string b.1.1,sl u b.1.2 i],Zi b.2]),aG⟩,-⟩ := I
    have al := an _ _ A
    exact px (or_mono (f := Fct.val 24 (.agg #[.string b.1.1,sl u b.1.2 i])) (ok1 al) (fun E a' w' v' hp h=>fun _ _ D=>by cases (A.symm.trans ((hp.2 23 (by decide)).symm.trans D)); exact h))
   refine sc (fun own a wx I J G=>?_) ?_
   ·obtain ⟨(an : ∀ (u : Option Addr) (i : Nat),a.eval (.tmp 23) = .tuple #[.agg #[.string b.1.1,sl u b.1.2 i],Zi b.2] → a.eval (.tmp 21) = .tuple #[.agg #[.string b.1.1,sl u b.1.2 i],Zi b.2]),⟨⟨u,i⟩,A,aG⟩,-⟩ := I
    have al := an _ _ A
    exact px (ok1 al)
   refine sO (nw0) ?_
   refine sc (fun own a wx I J G=>?_) ?_
   ·obtain ⟨⟨ay,cq,cR⟩,(cG : ∀ (u : Option Addr) (i : Nat),a.eval (.tmp 23) = .tuple #[.agg #[.string b.1.1,sl u b.1.2 i],Zi b.2] → a.eval (.tmp 24) = .agg #[.string b.1.1,sl u b.1.2 i]),⟨⟨u,i⟩,(A : a.eval (.tmp 23) = .tuple #[.agg #[.string b.1.1,sl u b.1.2 i],Zi b.2]),aG⟩,-⟩ := I
    have cm := cG _ _ A
    exact px (or_store (l := #[.string b.1.1,sl u b.1.2 i]) (lab := 116) (lab2 := 117) ts43 cq cm cR (by simp) (by kernel_rfl) (mem_of rfl) (by decide) (by kernel_rfl) (fun E a' w' ha hb=>⟨_,(ha 7).trans cq,fun _ _ D=>by cases (A.symm.trans ((ha 23).symm.trans D)); exact hb⟩))
   exact sA<|steps_nil
  intro cC b5 dX fp fY eD cx bx
  obtain ⟨cY,cZ,bE,c0⟩ := kt4 eD bD cV cW cX
  have aK := gv (cx [7] rfl) rfl
  obtain ⟨⟨⟨u,i⟩,(A : b5.eval (.tmp 23) = .tuple #[.agg #[.string b.1.1,sl u b.1.2 i],Zi b.2]),(a2 : RwO cC 114 [] dX 77 R77 u i b.1.2)⟩,⟨ay,(c1 : b5.eval (.tmp 7) = pt ay 0),(cb : ∀ (u : Option Addr) (i : Nat),b5.eval (.tmp 23) = .tuple #[.agg #[.string b.1.1,sl u b.1.2 i],Zi b.2] → BlkO cC 117 dX ay 43 #[.string b.1.1,sl u b.1.2 i])⟩,-⟩ := cx [1,6] rfl
  have a3 := cb _ _ A
  have eh := es_ eg bx
  have bN := be_ bx bL
  have bM := RdO.evo rfl bx aw
  refine fl_seq (fun gn eN eR=>?_)
  obtain ⟨fV,fa,F⟩ := obind F
  refine rq_seq 63 cC [0,0,3,7,15,31,15,79,255,511] [dv [] [6] 26 (Zi M.2),dv [] [8] 27 (Zi b.2),dv [0,1] [] 28 (.bool (!decide (M.2 = b.2))),dv [2] [] 29 (.bool (!decide (M.2 = b.2))),dc [3] [5] (!(!decide (M.2 = b.2))) 30 (.pointer none),dc [3,4] [] (!(!decide (M.2 = b.2))) 31 (.bool false),dc [3] [8] (!(!decide (M.2 = b.2))) 32 (Zi b.2),dc [3,6] [] (!(!decide (M.2 = b.2))) 33 (.bool (decide (b.2 = 0))),dc [3,5,7] [] (!(!decide (M.2 = b.2))) 34 (.bool (!(false == (decide (b.2 = 0))))),dv [3,8] [] 35 (.bool fV)] fY fp ?_ ?_
  ·exact sM c0<|sM aK<|sF (fun f=>or_neq f.1 f.2.1 rfl)<|sV<|cF (fun _ s _ _=>or_move (s.1.trans bE))<|cF (fun f _ _ U=>ok1 (f.2.1.1 U))<|cF (fun _ s _ _=>or_move (s.1.trans aK))<|cF (fun f _ _ U=>or_eql (f.2.1.1 U) rfl rfl)<|cF (fun f _ _ U=>or_neqb tb4 (f.2.1.1 U) (f.2.2.1.1 U) rfl)<|sF (fun f=>or_or f.1 rfl (fun hx=>f.2.1.1 hx) (osome fa).symm)<|steps_nil
  intro dR gs gE dK dZ eE es aP
  obtain ⟨c2,c3,c4,c5,c6⟩ := kt5 eE cY cZ bE c1 aK
  have cd := gv (es [9] rfl) rfl
  have cr := es_ eh aP
  obtain ⟨bP,a5⟩ := be2 aP bN a3
  have bO := RdO.evo rfl aP bM
  have a4 := re_ aP a2
  refine fl_cond cd F (fun fk F=>?_) (fun fk F=>?_)
  ·refine rq_seq 63 dR (bz 1) [dv [] [] 4 (.bool false)] dZ dK ?_ ?_
   ·exact sO (or_assign rfl)<|steps_nil
   intro fL gt gF fq gO gc et ea
   have c7 := gv (et [0] rfl) rfl
   have ei := es_ cr ea
   refine fl_ret ?_
   refine eR _ _ _ rfl ?_
   obtain rfl := osome F
   exact aA _ _ _ _ (.inl rfl) fq (results1_ rfl (RVal.tmp_ c7)) ⟨fL,rfl,ei⟩
  refine fl_skip ?_
  refine eN _ _ ?_
  refine fl_seq (fun go eO eS=>?_)
  refine rq_seq 63 dR (bz 2) [dv [] [8] 36 (Zi b.2),dv [0] [] 37 (.bool (!decide (b.2 = 0)))] dZ dK ?_ ?_
  ·exact sM c6<|sF (fun f=>or_neq f.1 rfl rfl)<|steps_nil
  intro dS gu gG dL d1 eF eu aQ
  obtain ⟨c8,c9,aL,da⟩ := kt4 eF c2 c3 c4 c5
  have ce := gv (eu [1] rfl) rfl
  have cs := es_ cr aQ
  obtain ⟨bR,a7⟩ := be2 aQ bP a5
  have bQ := RdO.evo rfl aQ bO
  have a6 := re_ aQ a4
  refine fl_cond ce F (fun fl F=>?_) (fun fl F=>?_)
  ·obtain ⟨cI,eX,F⟩ := obind F
   refine rq_seq 63 dS (bz 2) [dv [] [] 38 (.bool cI),dv [0] [] 4 (.bool cI)] d1 dL ?_ ?_
   ·exact sO (or_call cf9 (args0) (law27_known_w _   cI eX) post_val)<|sA<|steps_nil
   intro fM gw gH fr gP gd ev eb
   have db := gv (ev [1] rfl) rfl
   have ej := es_ cs eb
   refine fl_ret ?_
   refine eS _ _ _ rfl ?_
   obtain rfl := (osome F).symm
   exact aA _ _ _ _ (.inl rfl) fr (results1_ rfl (RVal.tmp_ db)) ⟨fM,rfl,ej⟩
  refine fl_skip ?_
  refine eO _ _ ?_
  obtain ⟨p,eY,F⟩ := obind F
  refine rq_seq 63 dS [0,1,0,7,15,31,63,63,127,511] [dv [] [5] 40 (.pointer none),⟨[0],[],[],Fct.row 130 [] 41 5 R5 ([] : List Int)⟩,dv [] [5] 42 (.pointer none),⟨[2],[],[],Fct.row 132 [133] 43 30 R30 ([] : List ((Int × Int × Int) × (List Int)))⟩,⟨[1,3],[],[],Fct.mems [136] 44 (fun (x : Option Addr × Nat)=>.tuple #[.slice x.1 p.1.length x.2,Zi p.2]) (fun (x : Option Addr × Nat) own w=>RwO own 136 [] w 5 R5 x.1 x.2 p.1) (fun hk he h=>RwO.evo (hits_sub hk (by decide)) he h)⟩,⟨[4],[],[],Fct.rel [39,44] (fun l=>∀ (v : Option Addr) (j : Nat),l.getD 1 undef = .tuple #[sl v p.1 j,Zi p.2] → l.getD 0 undef = .tuple #[sl v p.1 j,Zi p.2])⟩,⟨[5,4],[],[],Fct.rel [45,44] (fun l=>∀ (v : Option Addr) (j : Nat),l.getD 1 undef = .tuple #[sl v p.1 j,Zi p.2] → l.getD 0 undef = sl v p.1 j)⟩,dv [5,4] [] 46 (Zi p.2),⟨[6,4],[],[],Fct.rel [9,44] (fun l=>∀ (v : Option Addr) (j : Nat),l.getD 1 undef = .tuple #[sl v p.1 j,Zi p.2] → l.getD 0 undef = sl v p.1 j)⟩,dv [7] [] 10 (Zi p.2)] d1 dL ?_ ?_
  ·refine sM aL<|sF (fun f=>or_call cf20 (args1 f.1) (pack_Pack_Head_nil_w _   ([] : List Int) rfl) (post_row (m' := (look0 [(1,130)])) (.inl (Rep.fl_flat _)) rfl rfl (fun _=>rfl)))<|sM aL<|sF (fun f=>or_call cf21 (args1 f.1) (pack_Pack_Entries_nil_w _   ([] : List ((Int × Int × Int) × (List Int))) rfl) (post_row (m' := (look0 [(1,132),(2,133)])) (.inr (by decide)) rfl rfl (fun _=>rfl))) ?_
   refine sc (fun own a wx I J G=>?_) ?_
   ·obtain ⟨⟨⟨fg,d5⟩,cn,cN⟩,⟨⟨fh,d6⟩,co,cO⟩,-⟩ := I
    exact px (or_call cf10 (args2 cn co) (pack_Write_w _ ([] : List Int) fg d5 ([] : List ((Int × Int × Int) × (List Int))) fh d6 (RdO.zero (RwO.rd cN)) (RdO.zero (RwO.rd cO)) p eY) (post_mems (m := (fun _=>0)) (m' := (look0 [(1,136)])) (fun _ _=>.inl rfl) (fun E w' a' x h1 h=>⟨x,h1,RwO.back_ h (by decide) (.inl (Rep.fl_flat _))⟩)))
   refine sc (fun own a wx I J G=>?_) ?_
   ·obtain ⟨⟨⟨v,j⟩,(B : a.eval (.tmp 44) = .tuple #[sl v p.1 j,Zi p.2]),aH⟩,-⟩ := I
    exact px (or_mono (f := Fct.val 39 (.tuple #[sl v p.1 j,Zi p.2])) (or_move B) (fun E a' w' v' hp h=>fun _ _ D=>by cases (B.symm.trans ((hp.2 44 (by decide)).symm.trans D)); exact h))
   refine sc (fun own a wx I J G=>?_) ?_
   ·obtain ⟨(ao : ∀ (v : Option Addr) (j : Nat),a.eval (.tmp 44) = .tuple #[sl v p.1 j,Zi p.2] → a.eval (.tmp 39) = .tuple #[sl v p.1 j,Zi p.2]),⟨⟨v,j⟩,(B : a.eval (.tmp 44) = .tuple #[sl v p.1 j,Zi p.2]),aH⟩,-⟩ := I
    have am := ao _ _ B
    exact px (or_mono (f := Fct.val 45 (sl v p.1 j)) (ok1 am) (fun E a' w' v' hp h=>fun _ _ D=>by cases (B.symm.trans ((hp.2 44 (by decide)).symm.trans D)); exact h))
   refine sc (fun own a wx I J G=>?_) ?_
   ·obtain ⟨(ao : ∀ (v : Option Addr) (j : Nat),a.eval (.tmp 44) = .tuple #[sl v p.1 j,Zi p.2] → a.eval (.tmp 39) = .tuple #[sl v p.1 j,Zi p.2]),⟨⟨v,j⟩,B,aH⟩,-⟩ := I
    have am := ao _ _ B
    exact px (ok1 am)
   refine sc (fun own a wx I J G=>?_) ?_
   ·obtain ⟨(cH : ∀ (v : Option Addr) (j : Nat),a.eval (.tmp 44) = .tuple #[sl v p.1 j,Zi p.2] → a.eval (.tmp 45) = sl v p.1 j),⟨⟨v,j⟩,(B : a.eval (.tmp 44) = .tuple #[sl v p.1 j,Zi p.2]),aH⟩,-⟩ := I
    have cp := cH _ _ B
    exact px (or_mono (f := Fct.val 9 (sl v p.1 j)) (or_assign cp) (fun E a' w' v' hp h=>fun _ _ D=>by cases (B.symm.trans ((hp.2 44 (by decide)).symm.trans D)); exact h))
   exact sA<|steps_nil
  intro dT b6 fT fs fZ eG cy aR
  obtain ⟨dd,de,df,dg⟩ := kt4 eG c8 c9 aL da
  have cf := gv (cy [9] rfl) rfl
  obtain ⟨⟨⟨v,j⟩,(B : b6.eval (.tmp 44) = .tuple #[sl v p.1 j,Zi p.2]),(a9 : RwO dT 136 [] fT 5 R5 v j p.1)⟩,(ff : ∀ (v : Option Addr) (j : Nat),b6.eval (.tmp 44) = .tuple #[sl v p.1 j,Zi p.2] → b6.eval (.tmp 9) = sl v p.1 j),-⟩ := cy [4,8] rfl
  have dh := ff _ _ B
  have ek := es_ cs aR
  obtain ⟨bT,ba⟩ := be2 aR bR a7
  have bS := RdO.evo rfl aR bQ
  have a8 := re_ aR a6
  obtain ⟨V,eZ,F⟩ := obind F
  obtain ⟨aB,e0,F⟩ := obind F
  obtain ⟨ap,fb,F⟩ := obind F
  obtain ⟨bI,e1,F⟩ := obind F
  refine rq_seq 63 dT [0,1,3,3,3,31,63,127,255,511,1023,2047,4095,4095,16383,32767,65535] [dv [] [] 47 (.bool V),dv [0] [] 48 (.bool V),dc [1] [5] V 49 (.pointer none),dc [1] [7] V 50 (.agg #[.string b.1.1,sl u b.1.2 i]),dc [1] [3] V 51 (.agg #[Zi t2.1,Zi t2.2.1,Zi t2.2.2]),dc [1,2,3,4] [] V 52 (.bool aB),dv [1,5] [] 53 (.bool (V && aB)),dv [6] [] 54 (.bool (V && aB)),dc [7] [10] (V && aB) 55 (Zi p.2),dc [7,8] [] (V && aB) 56 (.bool (decide (p.2 = 0))),dv [7,9] [] 57 (.bool ap),dv [10] [] 58 (.bool ap),dc [11] [9] ap 59 (sl v p.1 j),dc [11] [0] ap 60 (sl H K C),dc [11,12,13] [] ap 61 (.bool bI),dv [11,14] [] 62 (.bool (ap && bI)),dv [15] [] 4 (.bool (ap && bI))] fZ fs ?_ ?_
  ·exact sO (or_call cf9 (args0) (law27_known_w _   V eZ) post_val)<|sV<|cT (fun _ s _ _=>or_move (s.1.trans df))<|cTL ta43 dg ba<|cTL ta28 de bT<|cT (fun f _ G U=>or_call cf18 (args3 (f.2.1.1 U) (f.2.2.1.1 U) (f.2.2.2.1.1 U)) (law27_alike_nil_w _ b.1 u i t2 (RdO.zero (RwO.rd (re_ G a8))) aB (gd_t e0 U)) post_val)<|sF (fun f=>or_and f.1 (fun hx=>f.2.1.1 hx) rfl rfl)<|sV<|cT (fun _ s _ _=>or_move (s.1.trans cf))<|cT (fun f _ _ U=>or_eql (f.2.1.1 U) rfl rfl)<|sF (fun f=>or_and f.1 (fun hx=>f.2.1.1 hx) rfl (osome fb).symm)<|sV<|cT (fun _ s _ _=>or_move (s.1.trans dh))<|cT (fun _ s _ _=>or_move (s.1.trans dd))<|cT (fun f _ G U=>or_call cf11 (args2 (f.2.1.1 U) (f.2.2.1.1 U)) (ref07_Same_w _ p.1 v j K H C (RdO.zero (RwO.rd (re_ G a9))) (RdO.zero (RdO.evo rfl G bS)) bI (gd_t e1 U)) post_val)<|sF (fun f=>or_and f.1 (fun hx=>f.2.1.1 hx) rfl rfl)<|sA<|steps_nil
  intro fN gx gI ft gQ ge ew ec
  have di := gv (ew [16] rfl) rfl
  have el := es_ ek ec
  refine fl_ret ?_
  obtain rfl := osome F
  exact aA _ _ _ _ (.inl rfl) ft (results1_ rfl (RVal.tmp_ di)) ⟨fN,rfl,el⟩
 refine rq_seq 63 fe [0,1,3,7,7,15,63] [dv [] [0] 17 (sl H K C),⟨[0],[],[],Fct.mems [105,106,107,108,109] 18 (fun (x : (Option Addr × Nat) × (Option Addr × Nat) × (Option Addr × Nat) × (Option Addr × Nat))=>.tuple #[.pointer (some ⟨x.1.2,0,none⟩),Zi t.2]) (fun (x : (Option Addr × Nat) × (Option Addr × Nat) × (Option Addr × Nat) × (Option Addr × Nat)) own w=>RwO own 105 [] w 5 R5 x.2.1.1 x.2.1.2 t.1.1 ∧ RwO own 106 [107] w 22 R22 x.2.2.1.1 x.2.2.1.2 t.1.2.1 ∧ RwO own 108 [] w 66 R66 x.2.2.2.1 x.2.2.2.2 t.1.2.2 ∧ BlkO own 109 w x.1.2 64 #[.slice x.2.1.1 t.1.1.length x.2.1.2,.slice x.2.2.1.1 t.1.2.1.length x.2.2.1.2,.slice x.2.2.2.1 t.1.2.2.length x.2.2.2.2]) (fun hk he h=>⟨RwO.evo (hits_sub hk (by decide)) he h.1,RwO.evo (hits_sub hk (by decide)) he h.2.1,RwO.evo (hits_sub hk (by decide)) he h.2.2.1,BlkO.evo (not_hit hk (by decide)) he h.2.2.2⟩)⟩,⟨[1],[],[],Fct.rel [16,18] (fun l=>∀ (d : Nat),l.getD 1 undef = .tuple #[pt d 0,Zi t.2] → l.getD 0 undef = .tuple #[pt d 0,Zi t.2])⟩,⟨[2,1],[],[],Fct.rel [19,18] (fun l=>∀ (d : Nat),l.getD 1 undef = .tuple #[pt d 0,Zi t.2] → l.getD 0 undef = pt d 0)⟩,dv [2,1] [] 20 (Zi t.2),⟨[3,1],[],[],Fct.rel [5,18] (fun l=>∀ (d : Nat),l.getD 1 undef = .tuple #[pt d 0,Zi t.2] → l.getD 0 undef = pt d 0)⟩,dv [4] [] 6 (Zi t.2)] f3 fA ?_ ?_
 ·refine sM aO<|sFE (fun f G=>or_call cf12 (args1 f.1) (pack_Open_w _ K H C (RdO.zero (RdO.evo rfl G ah)) t eV) (post_mems (m := (fun _=>0)) (m' := (look0 [(1,109),(2,105),(3,106),(4,107),(5,108)])) (fun _ _=>.inl rfl) (fun E w' a' x h1 h=>⟨x,h1,⟨RwO.back_ h.1 (by decide) (.inl (Rep.fl_flat _)),RwO.back_ h.2.1 (by decide) (.inr (by decide)),RwO.back_ h.2.2.1 (by decide) (.inl (Rep.fl_flat _)),BlkO.back_ h.2.2.2 (by decide)⟩⟩))) ?_
  refine sc (fun own a wx I J G=>?_) ?_
  ·obtain ⟨⟨⟨⟨bC,d⟩,⟨ae,N⟩,⟨af,O⟩,⟨ag,P⟩⟩,(S : a.eval (.tmp 18) = .tuple #[pt d 0,Zi t.2]),aD,aE,aF,ak⟩,-⟩ := I
   exact px (or_mono (f := Fct.val 16 (.tuple #[pt d 0,Zi t.2])) (or_move S) (fun E a' w' v' hp h=>fun _ D=>by cases (S.symm.trans ((hp.2 18 (by decide)).symm.trans D)); exact h))
  refine sc (fun own a wx I J G=>?_) ?_
  ·obtain ⟨(cE : ∀ (d : Nat),a.eval (.tmp 18) = .tuple #[pt d 0,Zi t.2] → a.eval (.tmp 16) = .tuple #[pt d 0,Zi t.2]),⟨⟨⟨bC,d⟩,⟨ae,N⟩,⟨af,O⟩,⟨ag,P⟩⟩,(S : a.eval (.tmp 18) = .tuple #[pt d 0,Zi t.2]),aD,aE,aF,ak⟩,-⟩ := I
   have cl := cE _ S
   exact px (or_mono (f := Fct.val 19 (pt d 0)) (ok1 cl) (fun E a' w' v' hp h=>fun _ D=>by cases (S.symm.trans ((hp.2 18 (by decide)).symm.trans D)); exact h))
  refine sc (fun own a wx I J G=>?_) ?_
  ·obtain ⟨(cE : ∀ (d : Nat),a.eval (.tmp 18) = .tuple #[pt d 0,Zi t.2] → a.eval (.tmp 16) = .tuple #[pt d 0,Zi t.2]),⟨⟨⟨bC,d⟩,⟨ae,N⟩,⟨af,O⟩,⟨ag,P⟩⟩,S,aD,aE,aF,ak⟩,-⟩ := I
   have cl := cE _ S
   exact px (ok1 cl)
  refine sc (fun own a wx I J G=>?_) ?_
  ·obtain ⟨(fS : ∀ (d : Nat),a.eval (.tmp 18) = .tuple #[pt d 0,Zi t.2] → a.eval (.tmp 19) = pt d 0),⟨⟨⟨bC,d⟩,⟨ae,N⟩,⟨af,O⟩,⟨ag,P⟩⟩,(S : a.eval (.tmp 18) = .tuple #[pt d 0,Zi t.2]),aD,aE,aF,ak⟩,-⟩ := I
   have fB := fS _ S
   exact px (or_mono (f := Fct.val 5 (pt d 0)) (or_assign fB) (fun E a' w' v' hp h=>fun _ D=>by cases (S.symm.trans ((hp.2 18 (by decide)).symm.trans D)); exact h))
  exact sA<|steps_nil
 intro aY b7 bK fu f0 eH cz bA
 obtain ⟨bF,dj⟩ := kt2 eH aO ck
 have dl := gv (cz [6] rfl) rfl
 obtain ⟨⟨⟨⟨bC,d⟩,⟨ae,N⟩,⟨af,O⟩,⟨ag,P⟩⟩,(S : b7.eval (.tmp 18) = .tuple #[pt d 0,Zi t.2]),(bb : RwO aY 105 [] bK 5 R5 ae N t.1.1),(bc : RwO aY 106 [107] bK 22 R22 af O t.1.2.1),(bd : RwO aY 108 [] bK 66 R66 ag P t.1.2.2),(aT : BlkO aY 109 bK d 64 #[sl ae t.1.1 N,sl af t.1.2.1 O,sl ag t.1.2.2 P])⟩,(gj : ∀ (d : Nat),b7.eval (.tmp 18) = .tuple #[pt d 0,Zi t.2] → b7.eval (.tmp 5) = pt d 0),-⟩ := cz [1,5] rfl
 have dk := gj _ S
 have em := es_ dQ bA
 have bU := be_ bA aX
 have ax := RdO.evo rfl bA ah
 obtain ⟨c,e2,F⟩ := obind F
 refine rp_seq 63 aY [148] [0,1,3,7,7,0,47,127] [dv [] [0] 22 (sl H K C),⟨[0],[],[],Fct.mems [146] 23 (fun (x : Option Addr × Nat)=>.tuple #[.agg #[.string c.1.1,.slice x.1 c.1.2.length x.2],Zi c.2]) (fun (x : Option Addr × Nat) own w=>RwO own 146 [] w 77 R77 x.1 x.2 c.1.2) (fun hk he h=>RwO.evo (hits_sub hk (by decide)) he h)⟩,⟨[1],[],[],Fct.rel [21,23] (fun l=>∀ (y : Option Addr) (k : Nat),l.getD 1 undef = .tuple #[.agg #[.string c.1.1,sl y c.1.2 k],Zi c.2] → l.getD 0 undef = .tuple #[.agg #[.string c.1.1,sl y c.1.2 k],Zi c.2])⟩,⟨[2,1],[],[],Fct.rel [24,23] (fun l=>∀ (y : Option Addr) (k : Nat),l.getD 1 undef = .tuple #[.agg #[.string c.1.1,sl y c.1.2 k],Zi c.2] → l.getD 0 undef = .agg #[.string c.1.1,sl y c.1.2 k])⟩,dv [2,1] [] 25 (Zi c.2),⟨[],[],[],Fct.blk 148 7 (fun g=>pt g 0) 43 #[.string ByteArray.empty,.slice none 0 0]⟩,⟨[5,3,1],[],[148],Fct.by_ [149] [7,23] (fun l own w=>∃ az : Nat,l.getD 0 undef = pt az 0 ∧ (∀ (y : Option Addr) (k : Nat),l.getD 1 undef = .tuple #[.agg #[.string c.1.1,sl y c.1.2 k],Zi c.2] → BlkO own 149 w az 43 #[.string c.1.1,sl y c.1.2 k])) (fun hk he h=>by obtain ⟨g,e,h⟩ := h; exact ⟨g,e,fun _ _ D=>BlkO.evo (not_hit hk (by decide)) he (h _ _ D)⟩)⟩,dv [4] [] 8 (Zi c.2)] f0 fu ?_ ?_
 ·refine sM bF<|sFE (fun f G=>or_call cf19 (args1 f.1) (ref27_Open_w _ K H C (RdO.zero (RdO.evo rfl G ax)) c e2) (post_mems (m := (fun _=>0)) (m' := (look0 [(1,146)])) (fun _ _=>.inl rfl) (fun E w' a' x h1 h=>⟨x,h1,RwO.back_ h (by decide) (.inl (Rep.fl_flat _))⟩))) ?_
  refine sc (fun own a wx I J G=>?_) ?_
  ·obtain ⟨⟨⟨y,k⟩,(A : a.eval (.tmp 23) = .tuple #[.agg #[.string c.1.1,sl y c.1.2 k],Zi c.2]),aI⟩,-⟩ := I
   exact px (or_mono (f := Fct.val 21 (.tuple #[.agg #[.string c.1.1,sl y c.1.2 k],Zi c.2])) (or_move A) (fun E a' w' v' hp h=>fun _ _ D=>by cases (A.symm.trans ((hp.2 23 (by decide)).symm.trans D)); exact h))
  refine sc (fun own a wx I J G=>?_) ?_
  ·obtain ⟨(an : ∀ (y : Option Addr) (k : Nat),a.eval (.tmp 23) = .tuple #[.agg #[.string c.1.1,sl y c.1.2 k],Zi c.2] → a.eval (.tmp 21) = .tuple #[.agg #[.string c.1.1,sl y c.1.2 k],Zi c.2]),⟨⟨y,k⟩,(A : a.eval (.tmp 23) = .tuple #[.agg #[.string c.1.1,sl y c.1.2 k],Zi c.2]),aI⟩,-⟩ := I
   have al := an _ _ A
   exact px (or_mono (f := Fct.val 24 (.agg #[.string c.1.1,sl y c.1.2 k])) (ok1 al) (fun E a' w' v' hp h=>fun _ _ D=>by cases (A.symm.trans ((hp.2 23 (by decide)).symm.trans D)); exact h))
  refine sc (fun own a wx I J G=>?_) ?_
  ·obtain ⟨(an : ∀ (y : Option Addr) (k : Nat),a.eval (.tmp 23) = .tuple #[.agg #[.string c.1.1,sl y c.1.2 k],Zi c.2] → a.eval (.tmp 21) = .tuple #[.agg #[.string c.1.1,sl y c.1.2 k],Zi c.2]),⟨⟨y,k⟩,A,aI⟩,-⟩ := I
   have al := an _ _ A
   exact px (ok1 al)
  refine sO (nw0) ?_
  refine sc (fun own a wx I J G=>?_) ?_
  ·obtain ⟨⟨az,cq,cS⟩,(cG : ∀ (y : Option Addr) (k : Nat),a.eval (.tmp 23) = .tuple #[.agg #[.string c.1.1,sl y c.1.2 k],Zi c.2] → a.eval (.tmp 24) = .agg #[.string c.1.1,sl y c.1.2 k]),⟨⟨y,k⟩,(A : a.eval (.tmp 23) = .tuple #[.agg #[.string c.1.1,sl y c.1.2 k],Zi c.2]),aI⟩,-⟩ := I
   have cm := cG _ _ A
   exact px (or_store (l := #[.string c.1.1,sl y c.1.2 k]) (lab := 148) (lab2 := 149) ts43 cq cm cS (by simp) (by kernel_rfl) (mem_of rfl) (by decide) (by kernel_rfl) (fun E a' w' ha hb=>⟨_,(ha 7).trans cq,fun _ _ D=>by cases (A.symm.trans ((ha 23).symm.trans D)); exact hb⟩))
  exact sA<|steps_nil
 intro cD b8 dY fv f1 eI cA ai
 obtain ⟨dm,dn,bG,dp⟩ := kt4 eI bF dj dk dl
 have aM := gv (cA [7] rfl) rfl
 obtain ⟨⟨⟨y,k⟩,(A : b8.eval (.tmp 23) = .tuple #[.agg #[.string c.1.1,sl y c.1.2 k],Zi c.2]),(bh : RwO cD 146 [] dY 77 R77 y k c.1.2)⟩,⟨az,(dq : b8.eval (.tmp 7) = pt az 0),(cc : ∀ (y : Option Addr) (k : Nat),b8.eval (.tmp 23) = .tuple #[.agg #[.string c.1.1,sl y c.1.2 k],Zi c.2] → BlkO cD 149 dY az 43 #[.string c.1.1,sl y c.1.2 k])⟩,-⟩ := cA [1,6] rfl
 have bi := cc _ _ A
 have en := es_ em ai
 obtain ⟨bW,aU⟩ := be2 ai bU aT
 have bV := RdO.evo rfl ai ax
 have be := re_ ai bb
 have bf := re_ ai bc
 have bg := re_ ai bd
 refine fl_seq (fun gp eP eT=>?_)
 obtain ⟨fW,fc,F⟩ := obind F
 refine rq_seq 63 cD [0,0,3,7,15,31,15,79,255,511] [dv [] [6] 26 (Zi t.2),dv [] [8] 27 (Zi c.2),dv [0,1] [] 28 (.bool (!decide (t.2 = c.2))),dv [2] [] 29 (.bool (!decide (t.2 = c.2))),dc [3] [5] (!(!decide (t.2 = c.2))) 30 (pt d 0),dc [3,4] [] (!(!decide (t.2 = c.2))) 31 (.bool true),dc [3] [8] (!(!decide (t.2 = c.2))) 32 (Zi c.2),dc [3,6] [] (!(!decide (t.2 = c.2))) 33 (.bool (decide (c.2 = 0))),dc [3,5,7] [] (!(!decide (t.2 = c.2))) 34 (.bool (!(true == (decide (c.2 = 0))))),dv [3,8] [] 35 (.bool fW)] f1 fv ?_ ?_
 ·exact sM dp<|sM aM<|sF (fun f=>or_neq f.1 f.2.1 rfl)<|sV<|cF (fun _ s _ _=>or_move (s.1.trans bG))<|cF (fun f _ _ U=>ok1 (f.2.1.1 U))<|cF (fun _ s _ _=>or_move (s.1.trans aM))<|cF (fun f _ _ U=>or_eql (f.2.1.1 U) rfl rfl)<|cF (fun f _ _ U=>or_neqb tb4 (f.2.1.1 U) (f.2.2.1.1 U) rfl)<|sF (fun f=>or_or f.1 rfl (fun hx=>f.2.1.1 hx) (osome fc).symm)<|steps_nil
 intro dU gy gJ dM d2 eJ ex aa
 obtain ⟨dr,ds,dt,du,dw⟩ := kt5 eJ dm dn bG dq aM
 have cg := gv (ex [9] rfl) rfl
 have ct := es_ en aa
 obtain ⟨bY,aV,bn⟩ := be3 aa bW aU bi
 have bX := RdO.evo rfl aa bV
 have bj := re_ aa be
 have bk := re_ aa bf
 have bl := re_ aa bg
 have bm := re_ aa bh
 refine fl_cond cg F (fun fm F=>?_) (fun fm F=>?_)
 ·refine rq_seq 63 dU (bz 1) [dv [] [] 4 (.bool false)] d2 dM ?_ ?_
  ·exact sO (or_assign rfl)<|steps_nil
  intro fO gz gK fw gR gf ey ed
  have dx := gv (ey [0] rfl) rfl
  have eo := es_ ct ed
  refine fl_ret ?_
  refine eT _ _ _ rfl ?_
  obtain rfl := osome F
  exact aA _ _ _ _ (.inl rfl) fw (results1_ rfl (RVal.tmp_ dx)) ⟨fO,rfl,eo⟩
 refine fl_skip ?_
 refine eP _ _ ?_
 refine fl_seq (fun gq eQ eU=>?_)
 refine rq_seq 63 dU (bz 2) [dv [] [8] 36 (Zi c.2),dv [0] [] 37 (.bool (!decide (c.2 = 0)))] d2 dM ?_ ?_
 ·exact sM dw<|sF (fun f=>or_neq f.1 rfl rfl)<|steps_nil
 intro dV gA gL dN d3 eK ez ab
 obtain ⟨dy,dz,aN,dA⟩ := kt4 eK dr ds dt du
 have ch := gv (ez [1] rfl) rfl
 have cu := es_ ct ab
 obtain ⟨b0,T,bp⟩ := be3 ab bY aV bn
 have bZ := RdO.evo rfl ab bX
 have X := re_ ab bj
 have Y := re_ ab bk
 have Z := re_ ab bl
 have bo := re_ ab bm
 refine fl_cond ch F (fun fn F=>?_) (fun fn F=>?_)
 ·obtain ⟨cJ,e3,F⟩ := obind F
  refine rq_seq 63 dV (bz 2) [dv [] [] 38 (.bool cJ),dv [0] [] 4 (.bool cJ)] d3 dN ?_ ?_
  ·exact sO (or_call cf9 (args0) (law27_known_w _   cJ e3) post_val)<|sA<|steps_nil
  intro fP gB gM fx gS gg eA ee
  have dB := gv (eA [1] rfl) rfl
  have ep := es_ cu ee
  refine fl_ret ?_
  refine eU _ _ _ rfl ?_
  obtain rfl := (osome F).symm
  exact aA _ _ _ _ (.inl rfl) fx (results1_ rfl (RVal.tmp_ dB)) ⟨fP,rfl,ep⟩
 refine fl_skip ?_
 refine eQ _ _ ?_
 obtain ⟨cK,e4,F⟩ := obind F
 obtain ⟨cL,e5,F⟩ := obind F
 obtain ⟨q,e6,F⟩ := obind F
 refine rq_seq 63 dV [0,1,0,7,15,31,63,63,127,511] [dv [] [5] 40 (pt d 0),⟨[0],[],[],Fct.row 163 [] 41 5 R5 cK⟩,dv [] [5] 42 (pt d 0),⟨[2],[],[],Fct.row 166 [167] 43 30 R30 cL⟩,⟨[1,3],[],[],Fct.mems [170] 44 (fun (x : Option Addr × Nat)=>.tuple #[.slice x.1 q.1.length x.2,Zi q.2]) (fun (x : Option Addr × Nat) own w=>RwO own 170 [] w 5 R5 x.1 x.2 q.1) (fun hk he h=>RwO.evo (hits_sub hk (by decide)) he h)⟩,⟨[4],[],[],Fct.rel [39,44] (fun l=>∀ (z : Option Addr) (o : Nat),l.getD 1 undef = .tuple #[sl z q.1 o,Zi q.2] → l.getD 0 undef = .tuple #[sl z q.1 o,Zi q.2])⟩,⟨[5,4],[],[],Fct.rel [45,44] (fun l=>∀ (z : Option Addr) (o : Nat),l.getD 1 undef = .tuple #[sl z q.1 o,Zi q.2] → l.getD 0 undef = sl z q.1 o)⟩,dv [5,4] [] 46 (Zi q.2),⟨[6,4],[],[],Fct.rel [9,44] (fun l=>∀ (z : Option Addr) (o : Nat),l.getD 1 undef = .tuple #[sl z q.1 o,Zi q.2] → l.getD 0 undef = sl z q.1 o)⟩,dv [7] [] 10 (Zi q.2)] d3 dN ?_ ?_
 ·refine sM aN<|sFE (fun f G=>or_call cf20 (args1 f.1) (pack_Pack_Head_w _ t.1 d 64 ae N af O ag P (BlkO.zero_ (be_ G T)) (RdO.zero (RwO.rd (re_ G X))) (RdO.zero (RwO.rd (re_ G Y))) (RdO.zero (RwO.rd (re_ G Z))) cK e4) (post_row (m' := (look0 [(1,163)])) (.inl (Rep.fl_flat _)) rfl rfl (fun _=>rfl)))<|sM aN<|sFE (fun f G=>or_call cf21 (args1 f.1) (pack_Pack_Entries_w _ t.1 d 64 ae N af O ag P (BlkO.zero_ (be_ G T)) (RdO.zero (RwO.rd (re_ G X))) (RdO.zero (RwO.rd (re_ G Y))) (RdO.zero (RwO.rd (re_ G Z))) cL e5) (post_row (m' := (look0 [(1,166),(2,167)])) (.inr (by decide)) rfl rfl (fun _=>rfl))) ?_
  refine sc (fun own a wx I J G=>?_) ?_
  ·obtain ⟨⟨⟨fi,d7⟩,cn,cP⟩,⟨⟨fj,d8⟩,co,cQ⟩,-⟩ := I
   exact px (or_call cf10 (args2 cn co) (pack_Write_w _ cK fi d7 cL fj d8 (RdO.zero (RwO.rd cP)) (RdO.zero (RwO.rd cQ)) q e6) (post_mems (m := (fun _=>0)) (m' := (look0 [(1,170)])) (fun _ _=>.inl rfl) (fun E w' a' x h1 h=>⟨x,h1,RwO.back_ h (by decide) (.inl (Rep.fl_flat _))⟩)))
  refine sc (fun own a wx I J G=>?_) ?_
  ·obtain ⟨⟨⟨z,o⟩,(B : a.eval (.tmp 44) = .tuple #[sl z q.1 o,Zi q.2]),aJ⟩,-⟩ := I
   exact px (or_mono (f := Fct.val 39 (.tuple #[sl z q.1 o,Zi q.2])) (or_move B) (fun E a' w' v' hp h=>fun _ _ D=>by cases (B.symm.trans ((hp.2 44 (by decide)).symm.trans D)); exact h))
  refine sc (fun own a wx I J G=>?_) ?_
  ·obtain ⟨(ao : ∀ (z : Option Addr) (o : Nat),a.eval (.tmp 44) = .tuple #[sl z q.1 o,Zi q.2] → a.eval (.tmp 39) = .tuple #[sl z q.1 o,Zi q.2]),⟨⟨z,o⟩,(B : a.eval (.tmp 44) = .tuple #[sl z q.1 o,Zi q.2]),aJ⟩,-⟩ := I
   have am := ao _ _ B
   exact px (or_mono (f := Fct.val 45 (sl z q.1 o)) (ok1 am) (fun E a' w' v' hp h=>fun _ _ D=>by cases (B.symm.trans ((hp.2 44 (by decide)).symm.trans D)); exact h))
  refine sc (fun own a wx I J G=>?_) ?_
  ·obtain ⟨(ao : ∀ (z : Option Addr) (o : Nat),a.eval (.tmp 44) = .tuple #[sl z q.1 o,Zi q.2] → a.eval (.tmp 39) = .tuple #[sl z q.1 o,Zi q.2]),⟨⟨z,o⟩,B,aJ⟩,-⟩ := I
   have am := ao _ _ B
   exact px (ok1 am)
  refine sc (fun own a wx I J G=>?_) ?_
  ·obtain ⟨(cH : ∀ (z : Option Addr) (o : Nat),a.eval (.tmp 44) = .tuple #[sl z q.1 o,Zi q.2] → a.eval (.tmp 45) = sl z q.1 o),⟨⟨z,o⟩,(B : a.eval (.tmp 44) = .tuple #[sl z q.1 o,Zi q.2]),aJ⟩,-⟩ := I
   have cp := cH _ _ B
   exact px (or_mono (f := Fct.val 9 (sl z q.1 o)) (or_assign cp) (fun E a' w' v' hp h=>fun _ _ D=>by cases (B.symm.trans ((hp.2 44 (by decide)).symm.trans D)); exact h))
  exact sA<|steps_nil
 intro dW b9 fU fy f2 eL cB ad
 obtain ⟨dC,dD,dE,dF⟩ := kt4 eL dy dz aN dA
 have ci := gv (cB [9] rfl) rfl
 obtain ⟨⟨⟨z,o⟩,(B : b9.eval (.tmp 44) = .tuple #[sl z q.1 o,Zi q.2]),(bu : RwO dW 170 [] fU 5 R5 z o q.1)⟩,(ff : ∀ (z : Option Addr) (o : Nat),b9.eval (.tmp 44) = .tuple #[sl z q.1 o,Zi q.2] → b9.eval (.tmp 9) = sl z q.1 o),-⟩ := cB [4,8] rfl
 have dG := ff _ _ B
 have eq := es_ cu ad
 obtain ⟨b3,aW,bv⟩ := be3 ad b0 T bp
 have b2 := RdO.evo rfl ad bZ
 have bq := re_ ad X
 have br := re_ ad Y
 have bs := re_ ad Z
 have bt := re_ ad bo
 obtain ⟨W,e7,F⟩ := obind F
 obtain ⟨aC,e8,F⟩ := obind F
 obtain ⟨aq,fd,F⟩ := obind F
 obtain ⟨bJ,e9,F⟩ := obind F
 refine rq_seq 63 dW [0,1,3,3,3,31,63,127,255,511,1023,2047,4095,4095,16383,32767,65535] [dv [] [] 47 (.bool W),dv [0] [] 48 (.bool W),dc [1] [5] W 49 (pt d 0),dc [1] [7] W 50 (.agg #[.string c.1.1,sl y c.1.2 k]),dc [1] [3] W 51 (.agg #[Zi t2.1,Zi t2.2.1,Zi t2.2.2]),dc [1,2,3,4] [] W 52 (.bool aC),dv [1,5] [] 53 (.bool (W && aC)),dv [6] [] 54 (.bool (W && aC)),dc [7] [10] (W && aC) 55 (Zi q.2),dc [7,8] [] (W && aC) 56 (.bool (decide (q.2 = 0))),dv [7,9] [] 57 (.bool aq),dv [10] [] 58 (.bool aq),dc [11] [9] aq 59 (sl z q.1 o),dc [11] [0] aq 60 (sl H K C),dc [11,12,13] [] aq 61 (.bool bJ),dv [11,14] [] 62 (.bool (aq && bJ)),dv [15] [] 4 (.bool (aq && bJ))] f2 fy ?_ ?_
 ·exact sO (or_call cf9 (args0) (law27_known_w _   W e7) post_val)<|sV<|cT (fun _ s _ _=>or_move (s.1.trans dE))<|cTL ta43 dF bv<|cTL ta28 dD b3<|cT (fun f _ G U=>or_call cf18 (args3 (f.2.1.1 U) (f.2.2.1.1 U) (f.2.2.2.1.1 U)) (law27_alike_w _ t.1 d 64 ae N af O ag P c.1 y k t2 (BlkO.zero_ (be_ G aW)) (RdO.zero (RwO.rd (re_ G bq))) (RdO.zero (RwO.rd (re_ G br))) (RdO.zero (RwO.rd (re_ G bs))) (RdO.zero (RwO.rd (re_ G bt))) aC (gd_t e8 U)) post_val)<|sF (fun f=>or_and f.1 (fun hx=>f.2.1.1 hx) rfl rfl)<|sV<|cT (fun _ s _ _=>or_move (s.1.trans ci))<|cT (fun f _ _ U=>or_eql (f.2.1.1 U) rfl rfl)<|sF (fun f=>or_and f.1 (fun hx=>f.2.1.1 hx) rfl (osome fd).symm)<|sV<|cT (fun _ s _ _=>or_move (s.1.trans dG))<|cT (fun _ s _ _=>or_move (s.1.trans dC))<|cT (fun f _ G U=>or_call cf11 (args2 (f.2.1.1 U) (f.2.2.1.1 U)) (ref07_Same_w _ q.1 z o K H C (RdO.zero (RwO.rd (re_ G bu))) (RdO.zero (RdO.evo rfl G b2)) bJ (gd_t e9 U)) post_val)<|sF (fun f=>or_and f.1 (fun hx=>f.2.1.1 hx) rfl rfl)<|sA<|steps_nil
 intro fQ gC gN fz gT gh eB ef
 have dH := gv (eB [16] rfl) rfl
 have er := es_ eq ef
 refine fl_ret ?_
 obtain rfl := osome F
 exact aA _ _ _ _ (.inl rfl) fz (results1_ rfl (RVal.tmp_ dH)) ⟨fQ,rfl,er⟩
end Go.Proofs.Ytnmkonlfnpcoiaa
