import Derived.Test.YtnmkonlfnpcoiaaBase
import Derived.Test.YtnmkonlfnpcoiaaTy
import Derived.Test.YtnmkonlfnpcoiaaSrt
import Derived.Test.YtnmkonlfnpcoiaaSp1
namespace Go.Proofs.Ytnmkonlfnpcoiaa
open Go.RowKit
set_option linter.unusedVariables false
set_option maxRecDepth 10000
theorem snap_level_w (w : World) (b : Int) (r : Bool) (y : snap_level b = some r) :
  Calls Try.prog 82 #[Zi b] w fun e I=>∃ p : Own,e = .returned (.bool r) ∧ Evo [] (fun _=>0) p w I := by
 refine fl_enter (n := 9) rfl rfl rfl (Nat.le_of_ble_eq_true rfl) ?_
 intro N Q d0 L c m
 have x := c 0 _ rfl
 clear c
 have v : Evo [] (fun _=>0) (fun _=>0) w w := Evo.refl _ _ _
 refine rq_seq 9 (fun _=>0) (bz 1) [dv [] [] 2 (.bool false)] L d0 ?_ ?_
 ·exact sO (or_assign rfl)<|steps_nil
 intro z E J t B l C g
 have a := kt l x
 have i := es_ v g
 obtain ⟨q,o,y⟩ := obind y
 refine rq_seq 9 z (bz 7) [dv [] [0] 3 (Zi b),dv [0] [] 4 (.bool (decide (0 ≤ b))),dv [1] [] 5 (.bool (decide (0 ≤ b))),dc [2] [0] (decide (0 ≤ b)) 6 (Zi b),dc [2,3] [] (decide (0 ≤ b)) 7 (.bool (decide (b ≤ 4))),dv [2,4] [] 8 (.bool q),dv [5] [] 2 (.bool q)] B t ?_ ?_
 ·exact sM a<|sF (fun f=>or_geq f.1 rfl rfl)<|sV<|cT (fun _ s _ _=>or_move (s.1.trans a))<|cT (fun f _ _ G=>or_leq (f.2.1.1 G) rfl rfl)<|sF (fun f=>or_and f.1 (fun H=>f.2.1.1 H) rfl (osome o).symm)<|sA<|steps_nil
 intro A F K u M D k h
 have d := gv (k [6] rfl) rfl
 have j := es_ i h
 refine fl_ret ?_
 obtain rfl := (osome y).symm
 exact m _ _ _ _ (.inl rfl) u (results1_ rfl (RVal.tmp_ d)) ⟨A,rfl,j⟩
theorem snap_Side_w (w : World) (L : Int) (r : Int × Bool) (b : snap_Side L = some r) :
  Calls Try.prog 62 #[Zi L] w fun e w'=>∃ J : Own,e = .returned (.tuple #[Zi r.1,.bool r.2]) ∧ Evo [] (fun _=>0) J w w' := by
 refine fl_enter (n := 9) rfl rfl rfl (Nat.le_of_ble_eq_true rfl) ?_
 intro a0 Q d0 z0 d i
 have T := d 0 _ rfl
 clear d
 have S : Evo [] (fun _=>0) (fun _=>0) w w := Evo.refl _ _ _
 refine rq_seq 9 (fun _=>0) (bz 2) [dv [] [] 2 (Zi 0),dv [] [] 3 (.bool false)] z0 d0 ?_ ?_
 ·exact sO (or_assign rfl)<|sO (or_assign rfl)<|steps_nil
 intro U ad ai O X C Y t
 have a := kt C T
 have y := es_ S t
 refine fl_seq (fun ab E F=>?_)
 obtain ⟨q,G,b⟩ := obind b
 refine rq_seq 9 U (bz 3) [dv [] [0] 4 (Zi L),dv [0] [] 5 (.bool q),dv [1] [] 6 (.bool (!q))] X O ?_ ?_
 ·exact sM a<|sF (fun f=>or_call cf82 (args1 f.1) (snap_level_w _ L  q G) post_val)<|sF (fun f=>or_not f.1 rfl)<|steps_nil
 intro I ae aj s M D B u
 have j := kt D a
 have k := gv (B [2] rfl) rfl
 have c := es_ y u
 refine fl_cond k b (fun N b=>?_) (fun N b=>?_)
 ·refine rq_seq 9 I (bz 2) [dv [] [] 2 (Zi 0),dv [] [] 3 (.bool false)] M s ?_ ?_
  ·exact sO (or_assign rfl)<|sO (or_assign rfl)<|steps_nil
  intro V af ak P an Z g v
  have l := gv (g [0] rfl) rfl
  have m := gv (g [1] rfl) rfl
  have z := es_ c v
  refine fl_ret ?_
  refine F _ _ _ rfl ?_
  obtain rfl := osome b
  exact i _ _ _ _ (.inl rfl) P (results2_ rfl (RVal.tmp_ l) (RVal.tmp_ m)) ⟨V,rfl,z⟩
 refine fl_skip ?_
 refine E _ _ ?_
 obtain ⟨K,H,b⟩ := obind b
 refine rq_seq 9 I (bz 4) [dv [] [0] 7 (Zi L),dv [0] [] 8 (Zi K),dv [1] [] 2 (Zi K),dv [] [] 3 (.bool true)] M s ?_ ?_
 ·exact sM j<|sF (fun f=>or_shl rfl f.1 H)<|sA<|sO (or_assign rfl)<|steps_nil
 intro W ag al R ao aa h x
 have o := gv (h [2] rfl) rfl
 have p := gv (h [3] rfl) rfl
 have A := es_ c x
 refine fl_ret ?_
 obtain rfl := osome b
 exact i _ _ _ _ (.inl rfl) R (results2_ rfl (RVal.tmp_ o) (RVal.tmp_ p)) ⟨W,rfl,A⟩
theorem window_count_w (w : World) (z : Int) (r : Int) (u : window_count z = some r) :
  Calls Try.prog 55 #[Zi z] w fun e R=>∃ x : Own,e = .returned (Zi r) ∧ Evo [] (fun _=>0) x w R := by
 refine fl_enter (n := 12) rfl rfl rfl (Nat.le_of_ble_eq_true rfl) ?_
 intro X Q d0 V b t
 have E := b 0 _ rfl
 clear b
 have D : Evo [] (fun _=>0) (fun _=>0) w w := Evo.refl _ _ _
 refine rq_seq 12 (fun _=>0) (bz 1) [dv [] [] 2 (Zi 0)] V d0 ?_ ?_
 ·exact sO (or_assign rfl)<|steps_nil
 intro F N S A I q K h
 have c := kt q E
 have k := es_ D h
 obtain ⟨a,s,u⟩ := obind u
 refine rq_seq 12 F [0,1,3,7,7,15,63] [dv [] [0] 6 (Zi z),dv [0] [] 7 (.tuple #[Zi a.1,.bool a.2]),dv [1] [] 5 (.tuple #[Zi a.1,.bool a.2]),dv [2] [] 8 (Zi a.1),dv [2] [] 9 (.bool a.2),dv [3] [] 3 (Zi a.1),dv [4] [] 4 (.bool a.2)] I A ?_ ?_
 ·exact sM c<|sF (fun f=>or_call cf62 (args1 f.1) (snap_Side_w _ z  a s) post_val)<|sV<|sF (fun f=>ok1 f.1)<|sF (fun f=>ok1 f.1)<|sA<|sA<|steps_nil
 intro G O T B J L o i
 have d := gv (o [5] rfl) rfl
 have l := es_ k i
 obtain ⟨y,v,u⟩ := obind u
 refine rq_seq 12 G (bz 3) [dv [] [3] 10 (Zi a.1),dv [0] [] 11 (Zi y),dv [1] [] 2 (Zi y)] J B ?_ ?_
 ·exact sM d<|sF (fun f=>or_quo f.1 rfl v)<|sA<|steps_nil
 intro H P U C W M p j
 have g := gv (p [2] rfl) rfl
 have m := es_ l j
 refine fl_ret ?_
 obtain rfl := (osome u).symm
 exact t _ _ _ _ (.inl rfl) C (results1_ rfl (RVal.tmp_ g)) ⟨H,rfl,m⟩
theorem window_Right_w (w : World) (a : Int × Int × Int) (r : Bool) (t : window_Right a = some r) :
  Calls Try.prog 45 #[.agg #[Zi a.1,Zi a.2.1,Zi a.2.2]] w fun e w'=>∃ L : Own,e = .returned (.bool r) ∧ Evo [] (fun _=>0) L w w' := by
 refine fl_enter (n := 27) rfl rfl rfl (Nat.le_of_ble_eq_true rfl) ?_
 intro a0 Q d0 z0 p G
 have T := p 0 _ rfl
 clear p
 have S : Evo [] (fun _=>0) (fun _=>0) w w := Evo.refl _ _ _
 refine rq_seq 27 (fun _=>0) [0,0] [⟨[],[0],[],Fct.blk 20 1 (fun g=>pt g 0) 28 #[Zi a.1,Zi a.2.1,Zi a.2.2]⟩,dv [] [] 2 (.bool false)] z0 d0 ?_ ?_
 ·exact sS (fun s=>nw1 (s.1.trans T))<|sO (or_assign rfl)<|steps_nil
 intro K N W O X Z B v
 obtain ⟨⟨i,(l : N.eval (.tmp 1) = pt i 0),(h : BlkO K 20 W i 28 #[Zi a.1,Zi a.2.1,Zi a.2.2])⟩,-⟩ := B [0] rfl
 have y := es_ S v
 obtain ⟨j,F,t⟩ := obind t
 refine rq_seq 27 K (bz 4) [dv [] [1] 4 (pt i 0),dv [0] [] 5 (Zi a.1),dv [1] [] 6 (Zi j),dv [2] [] 3 (Zi j)] X O ?_ ?_
 ·exact sS (fun s=>or_field fo28_0 (s.1.trans l) (by rfl))<|sG to3 h<|sF (fun f=>or_call cf55 (args1 f.1) (window_count_w _ a.1  j F) post_val)<|sA<|steps_nil
 intro U ab af P Y E C o
 have d := kt E l
 have m := gv (C [3] rfl) rfl
 have z := es_ y o
 have b := be_ o h
 obtain ⟨c,I,t⟩ := obind t
 obtain ⟨M,J,t⟩ := obind t
 refine rq_seq 27 U [0,1,3,7,15,31,15,127,255,511,1023,2047,4095,8191,16383,32767,65535,32767,262143,524287,1048575] [dv [] [1] 7 (pt i 1),dv [0] [] 8 (Zi a.2.1),dv [1] [] 9 (.bool (decide (0 ≤ a.2.1))),dv [2] [] 10 (.bool (decide (0 ≤ a.2.1))),dc [3] [1] (decide (0 ≤ a.2.1)) 11 (pt i 1),dc [3,4] [] (decide (0 ≤ a.2.1)) 12 (Zi a.2.1),dc [3] [3] (decide (0 ≤ a.2.1)) 13 (Zi j),dc [3,5,6] [] (decide (0 ≤ a.2.1)) 14 (.bool (decide (a.2.1 < j))),dv [3,7] [] 15 (.bool c),dv [8] [] 16 (.bool c),dc [9] [1] c 17 (pt i 2),dc [9,10] [] c 18 (Zi a.2.2),dc [9,11] [] c 19 (.bool (decide (0 ≤ a.2.2))),dv [9,12] [] 20 (.bool (c && (decide (0 ≤ a.2.2)))),dv [13] [] 21 (.bool (c && (decide (0 ≤ a.2.2)))),dc [14] [1] (c && (decide (0 ≤ a.2.2))) 22 (pt i 2),dc [14,15] [] (c && (decide (0 ≤ a.2.2))) 23 (Zi a.2.2),dc [14] [3] (c && (decide (0 ≤ a.2.2))) 24 (Zi j),dc [14,16,17] [] (c && (decide (0 ≤ a.2.2))) 25 (.bool (decide (a.2.2 < j))),dv [14,18] [] 26 (.bool M),dv [19] [] 2 (.bool M)] Y P ?_ ?_
 ·exact sS (fun s=>or_field fo28_1 (s.1.trans d) (by rfl))<|sG to3 b<|sF (fun f=>or_geq f.1 rfl rfl)<|sV<|cT (fun _ s _ _=>or_field fo28_1 (s.1.trans d) (by rfl))<|cT (fun f _ u k=>ld1 to3 (f.2.1.1 k) (be_ u b))<|cT (fun _ s _ _=>or_move (s.1.trans m))<|cT (fun f _ _ k=>or_lss (f.2.1.1 k) (f.2.2.1.1 k) rfl)<|sF (fun f=>or_and f.1 (fun H=>f.2.1.1 H) rfl (osome I).symm)<|sV<|cT (fun _ s _ _=>or_field fo28_2 (s.1.trans d) (by rfl))<|cT (fun f _ u k=>ld1 to3 (f.2.1.1 k) (be_ u b))<|cT (fun f _ _ k=>or_geq (f.2.1.1 k) rfl rfl)<|sF (fun f=>or_and f.1 (fun H=>f.2.1.1 H) rfl rfl)<|sV<|cT (fun _ s _ _=>or_field fo28_2 (s.1.trans d) (by rfl))<|cT (fun f _ u k=>ld1 to3 (f.2.1.1 k) (be_ u b))<|cT (fun _ s _ _=>or_move (s.1.trans m))<|cT (fun f _ _ k=>or_lss (f.2.1.1 k) (f.2.2.1.1 k) rfl)<|sF (fun f=>or_and f.1 (fun H=>f.2.1.1 H) rfl (osome J).symm)<|sA<|steps_nil
 intro V ad ag R ai aa D x
 have q := gv (D [20] rfl) rfl
 have A := es_ z x
 refine fl_ret ?_
 obtain rfl := (osome t).symm
 exact G _ _ _ _ (.inl rfl) R (results1_ rfl (RVal.tmp_ q)) ⟨V,rfl,A⟩
theorem slices_Clone_pack_Entry_pack_Entry_w (w : World) (own : Own) (E : List ((Int × Int × Int) × (List Int))) (k : Option Addr) (q : Nat) (i : ∀ b,own b ≤ 1) (Z : RdO own [1] w R30 k q E) (r : List ((Int × Int × Int) × (List Int))) (F : slices_Clone_pack_Entry_pack_Entry E = some r) :
  Calls Try.prog 46 #[sl k E q] w fun e w'=>∃ (p : Own) (x : Option Addr × Nat),e = .returned (.slice x.1 r.length x.2) ∧ Evo [] own p w w' ∧ RwO p 2 [1,3] w' 30 R30 x.1 x.2 r := by
 refine fl_enter (n := 8) rfl rfl rfl (Nat.le_of_ble_eq_true rfl) ?_
 intro a0 Q d0 z0 u v
 have an := u 0 _ rfl
 clear u
 have am : Evo [] own own w w := Evo.refl _ _ _
 refine rq_seq 8 own (bz 1) [dv [] [] 2 (.slice none 0 0)] z0 d0 ?_ ?_
 ·exact sO (or_assign rfl)<|steps_nil
 intro ar aG aK ag ay U aB H
 have o := kt U an
 have M := Evo.step am i H rfl
 refine fl_seq (fun aF X Y=>?_)
 refine rq_seq 8 ar (bz 2) [dv [] [0] 3 (sl k E q),dv [0] [] 4 (.bool k.isNone)] ay ag ?_ ?_
 ·exact sM o<|sF (fun f=>or_eqlNil tu23 f.1 rfl)<|steps_nil
 intro ab aH aL G ae V P I
 have A := kt V o
 have B := gv (P [1] rfl) rfl
 have j := Evo.step M i I rfl
 refine wpIn_cond_split B (fun t=>?_) (fun t=>?_)
 ·have W : E = [] := RdO.nil_of (RdO.evo rfl j Z) t
  have ap : ((app ([] : List ((Int × Int × Int) × (List Int))) E).bind fun g=>some g) = some r := F
  have F : (some ([] : List ((Int × Int × Int) × (List Int)))) = some r := by simpa [W,app,cut,capB] using ap
  refine rq_seq 8 ab (bz 1) [dv [] [] 2 (.slice none 0 0)] ae G ?_ ?_
  ·exact sO (or_assign rfl)<|steps_nil
  intro au aI aM ai aQ aD T K
  have D := gv (T [0] rfl) rfl
  have O := Evo.step j i K rfl
  refine fl_ret ?_
  refine Y _ _ _ rfl ?_
  obtain rfl := osome F
  exact v _ _ _ _ (.inl rfl) ai (results1_ rfl (RVal.tmp_ D)) ⟨au,(none,0),rfl,O,RwO.nil_⟩
 refine fl_skip ?_
 refine X _ _ ?_
 obtain ⟨g,aa,F⟩ := obind F
 refine rp_seq 8 ab [28] [0,0,3,7] [⟨[],[],[],Fct.row 28 [] 5 30 R30 ([] : List ((Int × Int × Int) × (List Int)))⟩,dv [] [0] 6 (sl k E q),⟨[0,1],[],[28],Fct.row 30 [1] 7 30 R30 g⟩,⟨[2],[],[],Fct.rel [2,7] (fun l=>∀ (d : Option Addr) (c : Nat),l.getD 1 undef = sl d g c → l.getD 0 undef = sl d g c)⟩] ae G ?_ ?_
 ·refine sO (or_litN (R := R30) (lab := 28) (L := []) (e := 30) (cs := #[]) (l := ([] : List ((Int × Int × Int) × (List Int)))) (n := 0) [] rfl rfl trivial (by kernel_rfl) rfl (by decide) rfl rfl)<|sM A ?_
  refine sc (fun own a wx hf aq hE=>?_) ?_
  ·obtain ⟨⟨⟨aE,az⟩,aj,z⟩,ak,-⟩ := hf
   exact px (or_append (R := R30) (lab := 28) (lab2 := 30) (L := []) (L3 := [1]) tp23 aj z (by decide) ak (RdO.evo rfl hE (RdO.evo rfl j Z)) aa (by decide) (by decide) (mem_of rfl) (.inr ⟨rfl,rfl,by decide,by decide⟩))
  refine sc (fun own a wx hf aq hE=>?_) ?_
  ·obtain ⟨⟨⟨d,c⟩,(s : a.eval (.tmp 7) = sl d g c),af⟩,-⟩ := hf
   exact px (or_mono (f := Fct.val 2 (sl d g c)) (or_assign s) (fun p a' w' v' hp h=>fun _ _ al=>by cases (s.symm.trans ((hp.2 7 (by decide)).symm.trans al)); exact h))
  exact steps_nil
 intro ad y ax ah aP aC S J
 obtain ⟨⟨⟨d,c⟩,(s : y.eval (.tmp 7) = sl d g c),(m : RwO ad 30 [1] ax 30 R30 d c g)⟩,(av : ∀ (d : Option Addr) (c : Nat),y.eval (.tmp 7) = sl d g c → y.eval (.tmp 2) = sl d g c),-⟩ := S [2,3] rfl
 have C := av _ _ s
 have N := Evo.step j i J rfl
 refine fl_ret ?_
 obtain rfl := (osome F).symm
 exact v _ _ _ _ (.inl rfl) ah (results1_ rfl (RVal.tmp_ C)) ⟨(rl [(30,2)] ad),(d,c),rfl,(Evo.rl_ N i rfl),(RwO.more (RwO.rl_ m) (by decide))⟩
theorem math_bits_Len64_w (w : World) (x1 : Int) (r : Int) (a : math_bits_Len64 x1 = some r) :
  Calls Try.prog 73 #[.int .u64 x1] w fun e w'=>∃ br : Own,e = .returned (Zi r) ∧ Evo [] (fun _=>0) br w w' := by
 refine fl_enter (n := 25) rfl rfl rfl (Nat.le_of_ble_eq_true rfl) ?_
 intro a0 Q d0 z0 M bh
 have bQ := M 0 _ rfl
 clear M
 have bP : Evo [] (fun _=>0) (fun _=>0) w w := Evo.refl _ _ _
 refine rq_seq 25 (fun _=>0) (bz 1) [dv [] [] 2 (Zi 0)] z0 d0 ?_ ?_
 ·exact sO (or_assign rfl)<|steps_nil
 intro bS cg cn bI bW a9 a3 aP
 have m := kt a9 bQ
 have R := gv (a3 [0] rfl) rfl
 have aY := es_ bP aP
 refine fl_seq (fun bD be b8=>?_)
 have aF : ∀ (c : Act) (aC : World) (az : Own) (k : Int) (h : Int),c.defers = [] → c.tmps.size = 25 → c.eval (.tmp 0) = .int .u64 k → c.eval (.tmp 2) = Zi h → Evo [] (fun _=>0) az w aC → math_bits_Len64_k1 k h = some r → bD .normal c aC := by
  intro c aC az k h bJ bX o S aQ a
  refine be _ _ ?_
  refine fl_seq (fun bE bf b9=>?_)
  have aG : ∀ (d : Act) (aD : World) (aA : Own) (l : Int) (i : Int),d.defers = [] → d.tmps.size = 25 → d.eval (.tmp 0) = .int .u64 l → d.eval (.tmp 2) = Zi i → Evo [] (fun _=>0) aA w aD → math_bits_Len64_k2 l i = some r → bE .normal d aD := by
   intro d aD aA l i bK bY p T aR a
   refine bf _ _ ?_
   refine fl_seq (fun bF bg ca=>?_)
   have aH : ∀ (g : Act) (aE : World) (aB : Own) (x : Int) (j : Int),g.defers = [] → g.tmps.size = 25 → g.eval (.tmp 0) = .int .u64 x → g.eval (.tmp 2) = Zi j → Evo [] (fun _=>0) aB w aE → math_bits_Len64_k3 x j = some r → bF .normal g aE := by
    intro g aE aB x j bL bZ U V aS a
    refine bg _ _ ?_
    obtain ⟨I,bi,a⟩ := obind a
    refine rq_seq 25 aB [0,0,2,6,14,31,63] [dv [] [2] 19 (Zi j),dv [] [0] 20 (.int .u64 x),dv [1] [] 21 (.int .u8 (IntKind.u8.wrap x)),dv [2] [] 22 (.int .u8 I),dv [3] [] 23 (Zi (IntKind.i64.wrap I)),dv [0,4] [] 24 (Zi (ad j (IntKind.i64.wrap I))),dv [5] [] 2 (Zi (ad j (IntKind.i64.wrap I)))] bZ bL ?_ ?_
    ·exact sM V<|sM U<|sF (fun f=>or_conv f.1 tn26 tn5 rfl)<|sF (fun f=>or_indexS tS9 rfl f.1 bi)<|sF (fun f=>or_conv f.1 tn5 tn3 rfl)<|sF (fun f=>or_add f.1 f.2.1 rfl)<|sA<|steps_nil
    intro bT ch co bM cu b7 a4 aT
    have W := gv (a4 [6] rfl) rfl
    have aZ := es_ aS aT
    refine fl_ret ?_
    obtain rfl := osome a
    exact bh _ _ _ _ (.inl rfl) bM (results1_ rfl (RVal.tmp_ W)) ⟨bT,rfl,aZ⟩
   refine rq_seq 25 aA (bz 2) [dv [] [0] 13 (.int .u64 l),dv [0] [] 14 (.bool (decide (256 ≤ l)))] bY bK ?_ ?_
   ·exact sM p<|sF (fun f=>or_geq f.1 rfl rfl)<|steps_nil
   intro bp ci cp aN bB ba a5 aU
   obtain ⟨q,s⟩ := kt2 ba p T
   have H := gv (a5 [1] rfl) rfl
   have K := es_ aR aU
   refine fl_cond H a (fun bG a=>?_) (fun bG a=>?_)
   ·obtain ⟨bt,bj,a⟩ := obind a
    refine rq_seq 25 bp (bz 3) [dv [] [0] 15 (.int .u64 l),dv [0] [] 16 (.int .u64 bt),dv [1] [] 0 (.int .u64 bt)] bB aN ?_ ?_
    ·exact sM q<|sF (fun f=>or_shr f.1 rfl bj)<|sA<|steps_nil
    intro bU cj cq bN b0 bb a6 aV
    have Y := kt bb s
    have X := gv (a6 [2] rfl) rfl
    have a1 := es_ K aV
    refine rq 25 bU (bz 3) [dv [] [2] 17 (Zi i),dv [0] [] 18 (Zi (ad i 8)),dv [1] [] 2 (Zi (ad i 8))] b0 bN ?_ ?_
    ·exact sM Y<|sF (fun f=>or_add f.1 rfl rfl)<|sA<|steps_nil
    intro bV ck cr bO b1 bc a7 aW
    have Z := kt bc X
    have aa := gv (a7 [2] rfl) rfl
    have a2 := es_ a1 aW
    exact (aH _ _ bV _ _ bO b1 Z aa a2 a)
   refine fl_skip ?_
   exact (aH _ _ bp _ _ aN bB q s K a)
  refine rq_seq 25 az (bz 2) [dv [] [0] 7 (.int .u64 k),dv [0] [] 8 (.bool (decide (65536 ≤ k)))] bX bJ ?_ ?_
  ·exact sM o<|sF (fun f=>or_geq f.1 rfl rfl)<|steps_nil
  intro bq cl cs aO bC bd a8 aX
  obtain ⟨t,u⟩ := kt2 bd o S
  have ab := gv (a8 [1] rfl) rfl
  have L := es_ aQ aX
  refine fl_cond ab a (fun bH a=>?_) (fun bH a=>?_)
  ·obtain ⟨bu,bk,a⟩ := obind a
   refine rq_seq 25 bq (bz 3) [dv [] [0] 9 (.int .u64 k),dv [0] [] 10 (.int .u64 bu),dv [1] [] 0 (.int .u64 bu)] bC aO ?_ ?_
   ·exact sM t<|sF (fun f=>or_shr f.1 rfl bk)<|sA<|steps_nil
   intro bl b2 cb aJ bv au an ae
   have z := kt au u
   have y := gv (an [2] rfl) rfl
   have aj := es_ L ae
   refine rq 25 bl (bz 3) [dv [] [2] 11 (Zi h),dv [0] [] 12 (Zi (ad h 16)),dv [1] [] 2 (Zi (ad h 16))] bv aJ ?_ ?_
   ·exact sM z<|sF (fun f=>or_add f.1 rfl rfl)<|sA<|steps_nil
   intro bm b3 cc aK bw av ao af
   have A := kt av y
   have B := gv (ao [2] rfl) rfl
   have ak := es_ aj af
   exact (aG _ _ bm _ _ aK bw A B ak a)
  refine fl_skip ?_
  exact (aG _ _ bq _ _ aO bC t u L a)
 refine rq_seq 25 bS (bz 2) [dv [] [0] 3 (.int .u64 x1),dv [0] [] 4 (.bool (decide (4294967296 ≤ x1)))] bW bI ?_ ?_
 ·exact sM m<|sF (fun f=>or_geq f.1 rfl rfl)<|steps_nil
 intro N b4 cd J P aw ap ag
 obtain ⟨b,C⟩ := kt2 aw m R
 have D := gv (ap [1] rfl) rfl
 have v := es_ aY ag
 refine fl_cond D a (fun aI a=>?_) (fun aI a=>?_)
 ·obtain ⟨O,ay,a⟩ := obind a
  refine rq_seq 25 N (bz 3) [dv [] [0] 5 (.int .u64 x1),dv [0] [] 6 (.int .u64 O),dv [1] [] 0 (.int .u64 O)] P J ?_ ?_
  ·exact sM b<|sF (fun f=>or_shr f.1 rfl ay)<|sA<|steps_nil
  intro bn b5 ce aL bx bR aq ah
  have E := gv (aq [2] rfl) rfl
  have al := es_ v ah
  refine rq 25 bn (bz 1) [dv [] [] 2 (Zi 32)] bx aL ?_ ?_
  ·exact sO (or_assign rfl)<|steps_nil
  intro bo b6 cf aM bA ax ar ai
  have F := kt ax E
  have G := gv (ar [0] rfl) rfl
  have am := es_ al ai
  exact (aF _ _ bo _ _ aM bA F G am a)
 refine fl_skip ?_
 exact (aF _ _ N _ _ J P b C v a)
theorem math_bits_Len_w (w : World) (s : Int) (r : Int) (y : math_bits_Len s = some r) :
  Calls Try.prog 59 #[.int .u64 s] w fun e I=>∃ q : Own,e = .returned (Zi r) ∧ Evo [] (fun _=>0) q w I := by
 refine fl_enter (n := 8) rfl rfl rfl (Nat.le_of_ble_eq_true rfl) ?_
 intro N Q d0 L a p
 have x := a 0 _ rfl
 clear a
 have v : Evo [] (fun _=>0) (fun _=>0) w w := Evo.refl _ _ _
 refine rq_seq 8 (fun _=>0) (bz 1) [dv [] [] 2 (Zi 0)] L d0 ?_ ?_
 ·exact sO (or_assign rfl)<|steps_nil
 intro z G J t B l C g
 have b := kt l x
 have i := es_ v g
 refine fl_seq (fun F m E=>?_)
 refine fl_f rfl ?_
 refine fl_skip ?_
 refine m _ _ ?_
 obtain ⟨d,o,y⟩ := obind y
 refine rq_seq 8 z (bz 3) [dv [] [0] 6 (.int .u64 s),dv [0] [] 7 (Zi d),dv [1] [] 2 (Zi d)] B t ?_ ?_
 ·exact sM b<|sF (fun f=>or_call cf73 (args1 f.1) (math_bits_Len64_w _ s  d o) post_val)<|sA<|steps_nil
 intro A H K u M D k h
 have c := gv (k [2] rfl) rfl
 have j := es_ i h
 refine fl_ret ?_
 obtain rfl := (osome y).symm
 exact p _ _ _ _ (.inl rfl) u (results1_ rfl (RVal.tmp_ c)) ⟨A,rfl,j⟩
theorem sort_insertionSort_func_w (w : World) (own : Own) (Tx : Type) (lf : List Tx → Int → Int → Option Bool) (ca : Value) (sv : Value) (th : Value) (l0 : List Tx) (Jx : Sj (List Tx)) (o : Int) (b2 : Int) (d : ∀ b,own b ≤ 1) (hL : LessS Try.prog 48 ca lf Jx) (hS : SwapS Try.prog 71 sv th Jx) (hJx : SoO Jx own 1 w l0) (r : List Tx) (k : sort_insertionSort_func Tx lf l0 o b2 = some r) :
  Calls Try.prog 74 #[.agg #[.func (.func 48) #[] #[ca],.func (.func 71) #[] #[sv,th]],Zi o,Zi b2] w fun e w'=>∃ (a8 : Own),e = .returned (.tuple #[]) ∧ Evo [1] own a8 w w' ∧ SoO Jx a8 1 w' r := by
 refine fl_enter (n := 35) rfl rfl rfl (Nat.le_of_ble_eq_true rfl) ?_
 intro a0 Q d0 z0 W b8
 have cv := W 0 _ rfl
 have cw := W 1 _ rfl
 have cx := W 2 _ rfl
 clear W
 have cu : Evo [1] own own w w := Evo.refl _ _ _
 refine rq_seq 35 own (bz 1) [⟨[],[0],[],Fct.blk 160 3 (fun g=>pt g 0) 122 #[.func (.func 48) #[] #[ca],.func (.func 71) #[] #[sv,th]]⟩] z0 d0 ?_ ?_
 ·exact sS (fun s=>nw1 (s.1.trans cv))<|steps_nil
 intro a4 bS cg bW ci bs bk aj
 obtain ⟨M,ap⟩ := kt2 bs cw cx
 obtain ⟨⟨j,(aq : bS.eval (.tmp 3) = pt j 0),(x : BlkO a4 160 cg j 122 #[.func (.func 48) #[] #[ca],.func (.func 71) #[] #[sv,th]])⟩,-⟩ := bk [0] rfl
 have bd := Evo.step cu d aj rfl
 have Y := SoO.evo (by decide) aj hJx
 refine rq_seq 35 a4 (bz 3) [dv [] [1] 8 (Zi o),dv [0] [] 9 (Zi (ad o 1)),dv [1] [] 6 (Zi (ad o 1))] ci bW ?_ ?_
 ·exact sM M<|sF (fun f=>or_add f.1 rfl rfl)<|sA<|steps_nil
 intro b9 cS c4 bX cj bt bl G
 obtain ⟨ar,au,av⟩ := kt3 bt M ap aq
 have aw := gv (bl [2] rfl) rfl
 have be := Evo.step bd d G rfl
 have Z := SoO.evo (by decide) G Y
 have y := be_ G x
 refine fl_block (fun cI cy bP cA=>?_)
 refine fl_loop (body := (fun s=>sort_insertionSort_func_b1 Tx lf o b2 s.1 s.2)) (z := r) (show loopO _ _ = _ from k) (fun (s : Int × (List Tx)) a wx=>match s with | (h,an)=>∃ (ox : Own),a.defers = [] ∧ a.tmps.size = 35 ∧ a.eval (.tmp 1) = Zi o ∧ a.eval (.tmp 2) = Zi b2 ∧ a.eval (.tmp 3) = pt j 0 ∧ a.eval (.tmp 6) = Zi h ∧ Evo [1] own ox w wx ∧ BlkO ox 160 wx j 122 #[.func (.func 48) #[] #[ca],.func (.func 71) #[] #[sv,th]] ∧ SoO Jx ox 212 wx an) ?_ ?_
 ·exact ⟨(rl [(1,212)] b9),bX,cj,ar,au,av,aw,(Evo.rl_ be d rfl),(BlkO.rl_ y),(SoO.rl_ Z)⟩
 ·rintro ⟨h,an⟩ ao cU c5 ⟨cb,bY,cl,ax,N,ay,O,bb,A,aa⟩ k cJ bD bL ck
  have k : sort_insertionSort_func_b1 Tx lf o b2 h an = some ao := k
  refine fl_seq (fun cK bE bM=>?_)
  refine rq_seq 35 cb [0,0,3] [dv [] [6] 10 (Zi h),dv [] [2] 11 (Zi b2),dv [0,1] [] 12 (.bool (decide (h < b2)))] cl bY ?_ ?_
  ·exact sM O<|sM N<|sF (fun f=>or_lss f.1 f.2.1 rfl)<|steps_nil
  intro a5 cV c6 aZ cm bu bm H
  obtain ⟨az,aA,aB,P⟩ := kt4 bu ax N ay O
  have ah := gv (bm [2] rfl) rfl
  have al := Evo.step bb d H rfl
  have B := be_ H A
  have t := SoO.evo (by decide) H aa
  refine fl_cond ah k (fun bU k=>?_) (fun bU k=>?_)
  ·refine fl_skip ?_
   refine bE _ _ ?_
   refine fl_seq (fun cL bF cB=>?_)
   refine fl_block (fun cM bG cG cC=>?_)
   refine rq_seq 35 a5 (bz 2) [dv [] [6] 15 (Zi h),dv [0] [] 7 (Zi h)] cm aZ ?_ ?_
   ·exact sM P<|sA<|steps_nil
   intro cc cW c7 bZ cn bv bn I
   obtain ⟨aC,aD,aE,aF⟩ := kt4 bv az aA aB P
   have aG := gv (bn [1] rfl) rfl
   have bf := Evo.step al d I rfl
   have C := be_ I B
   have ab := SoO.evo (by decide) I t
   refine fl_block (fun cN cz bQ cD=>?_)
   refine fl_loop (body := (fun s=>sort_insertionSort_func_b2 Tx lf o h s.1 s.2)) (z := ao) (show loopO _ _ = _ from k) (fun (s : Int × (List Tx)) a wx=>match s with | (c,X)=>∃ (ox : Own),a.defers = [] ∧ a.tmps.size = 35 ∧ a.eval (.tmp 1) = Zi o ∧ a.eval (.tmp 2) = Zi b2 ∧ a.eval (.tmp 3) = pt j 0 ∧ a.eval (.tmp 6) = Zi h ∧ a.eval (.tmp 7) = Zi c ∧ Evo [1] own ox w wx ∧ BlkO ox 160 wx j 122 #[.func (.func 48) #[] #[ca],.func (.func 71) #[] #[sv,th]] ∧ SoO Jx ox 281 wx X) ?_ ?_
   ·exact ⟨(rl [(212,281)] cc),bZ,cn,aC,aD,aE,aF,aG,(Evo.rl_ bf d rfl),(BlkO.rl_ C),(SoO.rl_ ab)⟩
   ·rintro ⟨c,X⟩ bR cX c8 ⟨cd,b0,cp,R,aH,S,aI,l,bc,m,u⟩ k cO bH bN co
    have k : sort_insertionSort_func_b2 Tx lf o h c X = some bR := k
    refine fl_seq (fun cP bI bO=>?_)
    obtain ⟨aY,bj,k⟩ := obind k
    refine rq_seq 35 cd [0,0,3,7,15,31,15,15,143,511,1023] [dv [] [7] 16 (Zi c),dv [] [1] 17 (Zi o),dv [0,1] [] 18 (.bool (decide (o < c))),dv [2] [] 19 (.bool (decide (o < c))),dc [3] [3] (decide (o < c)) 20 (pt j 0),dc [3,4] [] (decide (o < c)) 21 (.func (.func 48) #[] #[ca]),dc [3] [7] (decide (o < c)) 22 (Zi c),dc [3] [7] (decide (o < c)) 23 (Zi c),dc [3,7] [] (decide (o < c)) 24 (Zi (sb c 1)),dc [3,5,6,8] [] (decide (o < c)) 25 (.bool aY),dv [3,9] [] 26 (.bool ((decide (o < c)) && aY))] cp b0 ?_ ?_
    ·exact sM l<|sM R<|sF (fun f=>or_gtr f.1 f.2.1 rfl)<|sV<|cT (fun _ s _ _=>or_field fo122_0 (s.1.trans S) (by rfl))<|cT (fun f _ hE hg=>ld1 to100 (f.2.1.1 hg) (be_ hE m))<|cT (fun _ s _ _=>or_move (s.1.trans l))<|cT (fun _ s _ _=>or_move (s.1.trans l))<|cT (fun f _ _ hg=>or_sub (f.2.1.1 hg) rfl rfl)<|cT (fun f _ hE hg=>or_callf cf48 (f.2.1.1 hg) (args2 (f.2.2.1.1 hg) (f.2.2.2.1.1 hg)) rfl (hL _ _ _ _ _ _ _ (SoO.evo (by decide) hE u) (gd_t bj hg)) post_val)<|sF (fun f=>or_and f.1 (fun hx=>f.2.1.1 hx) rfl rfl)<|steps_nil
    intro a6 cY c9 a1 ba bw bo J
    obtain ⟨T,U,p,V,q⟩ := kt5 bw R aH S aI l
    have ai := gv (bo [10] rfl) rfl
    have am := Evo.step bc d J rfl
    have i := be_ J m
    have v := SoO.evo (by decide) J u
    refine fl_cond ai k (fun bV k=>?_) (fun bV k=>?_)
    ·refine fl_skip ?_
     refine bI _ _ ?_
     refine fl_seq (fun cQ bJ cE=>?_)
     refine fl_block (fun cR bK cH cF=>?_)
     obtain ⟨a3,bC,k⟩ := obind k
     refine rr 35 [Fct.soAt Jx 281 X] a6 [281] [0,1,0,0,8,31] [dv [] [3] 29 (pt j 1),dv [0] [] 30 (.func (.func 71) #[] #[sv,th]),dv [] [7] 31 (Zi c),dv [] [7] 32 (Zi c),dv [3] [] 33 (Zi (sb c 1)),⟨[1,2,4,6],[],[281],Fct.so Jx 302 34 a3⟩] ba a1 (fm1 v) ?_ ?_
     ·refine sS (fun s=>or_field fo122_1 (s.1.trans p) (by rfl))<|sG to117 i<|sM q<|sM q<|sF (fun f=>or_sub f.1 rfl rfl) ?_
      refine sc (fun own a wx hf de hE=>?_) ?_
      ·obtain ⟨b5,b6,b7,b_Jx,-⟩ := hf
       exact px (or_sswap (lab := 281) (lab2 := 302) b5 (args2 b6 b7) hS b_Jx (by decide) bC (mem_of rfl))
      exact steps_nil
     intro a7 bT ch b1 cq bx bp ak
     obtain ⟨aJ,aK,aL,aM,aN⟩ := kt5 bx T U p V q
     obtain ⟨⟨(c1 : bT.eval (.tmp 34) = .tuple #[]),(ae : SoO Jx a7 302 ch a3)⟩,-⟩ := bp [5] rfl
     have bg := Evo.step am d ak rfl
     have D := be_ ak i
     refine bK _ _ ?_
     refine bJ _ _ ?_
     refine rq 35 a7 (bz 3) [dv [] [7] 27 (Zi c),dv [0] [] 28 (Zi (sb c 1)),dv [1] [] 7 (Zi (sb c 1))] cq b1 ?_ ?_
     ·exact sM aN<|sF (fun f=>or_sub f.1 rfl rfl)<|sA<|steps_nil
     intro ce cZ da b3 cr bA bq K
     obtain ⟨aO,aP,aQ,aR⟩ := kt4 bA aJ aK aL aM
     have aS := gv (bq [2] rfl) rfl
     have bh := Evo.step bg d K rfl
     have E := be_ K D
     have af := SoO.evo (by decide) K ae
     exact bH _ _ _ k ⟨(rl [(302,281)] ce),b3,cr,aO,aP,aQ,aR,aS,(Evo.rl_ bh d rfl),(BlkO.rl_ E),(SoO.rl_ af)⟩
    refine fl_exit ?_
    refine bO _ _ _ rfl ?_
    replace k := co _ k
    refine bN _ _ _ rfl ?_
    refine bQ _ _ ?_
    refine bG _ _ ?_
    refine bF _ _ ?_
    refine rq 35 a6 (bz 3) [dv [] [6] 13 (Zi h),dv [0] [] 14 (Zi (ad h 1)),dv [1] [] 6 (Zi (ad h 1))] ba a1 ?_ ?_
    ·exact sM V<|sF (fun f=>or_add f.1 rfl rfl)<|sA<|steps_nil
    intro cf c0 db b4 cs bB br L
    obtain ⟨aT,aU,aV⟩ := kt3 bB T U p
    have aW := gv (br [2] rfl) rfl
    have bi := Evo.step am d L rfl
    have F := be_ L i
    have ag := SoO.evo (by decide) L v
    exact bD _ _ _ k ⟨(rl [(281,212)] cf),b4,cs,aT,aU,aV,aW,(Evo.rl_ bi d rfl),(BlkO.rl_ F),(SoO.rl_ ag)⟩
  refine fl_exit ?_
  refine bM _ _ _ rfl ?_
  replace k := ck _ k
  refine bL _ _ _ rfl ?_
  refine bP _ _ ?_
  obtain rfl := (osome k).symm
  exact b8 _ _ _ _ (.inr rfl) aZ (results0_ rfl ) ⟨(rl [(212,1)] a5),rfl,(Evo.rl_ al d rfl),(SoO.rl_ t)⟩
theorem sort_siftDown_func_w (w : World) (own : Own) (Tx : Type) (lf : List Tx → Int → Int → Option Bool) (ca : Value) (sv : Value) (th : Value) (l0 : List Tx) (Jx : Sj (List Tx)) (bf : Int) (i : Int) (d : Int) (j : ∀ b,own b ≤ 1) (hL : LessS Try.prog 48 ca lf Jx) (hS : SwapS Try.prog 71 sv th Jx) (hJx : SoO Jx own 1 w l0) (r : List Tx) (k : sort_siftDown_func Tx lf l0 bf i d = some r) :
  Calls Try.prog 83 #[.agg #[.func (.func 48) #[] #[ca],.func (.func 71) #[] #[sv,th]],Zi bf,Zi i,Zi d] w fun e w'=>∃ (bs : Own),e = .returned (.tuple #[]) ∧ Evo [1] own bs w w' ∧ SoO Jx bs 1 w' r := by
 refine fl_enter (n := 55) rfl rfl rfl (Nat.le_of_ble_eq_true rfl) ?_
 intro a0 Q d0 z0 F bl
 have cQ := F 0 _ rfl
 have cR := F 1 _ rfl
 have cS := F 2 _ rfl
 have cU := F 3 _ rfl
 clear F
 have cP : Evo [1] own own w w := Evo.refl _ _ _
 refine rq_seq 55 own (bz 1) [⟨[],[0],[],Fct.blk 110 4 (fun g=>pt g 0) 122 #[.func (.func 48) #[] #[ca],.func (.func 71) #[] #[sv,th]]⟩] z0 d0 ?_ ?_
 ·exact sS (fun s=>nw1 (s.1.trans cQ))<|steps_nil
 intro bn ce cA ck cE bQ bH aB
 obtain ⟨aJ,aK,aL⟩ := kt3 bQ cR cS cU
 obtain ⟨⟨m,(aM : ce.eval (.tmp 4) = pt m 0),(I : BlkO bn 110 cA m 122 #[.func (.func 48) #[] #[ca],.func (.func 71) #[] #[sv,th]])⟩,-⟩ := bH [0] rfl
 have bx := Evo.step cP j aB rfl
 have ap := SoO.evo (by decide) aB hJx
 refine rq_seq 55 bn (bz 2) [dv [] [1] 10 (Zi bf),dv [0] [] 8 (Zi bf)] cE ck ?_ ?_
 ·exact sM aJ<|sA<|steps_nil
 intro cv c3 df cl cF bR bI P
 obtain ⟨aN,aO,aP⟩ := kt3 bR aK aL aM
 have aQ := gv (bI [1] rfl) rfl
 have bA := Evo.step bx j P rfl
 have aq := SoO.evo (by decide) P ap
 have J := be_ P I
 refine fl_block (fun cY cV b8 b5=>?_)
 refine fl_loop (body := (fun s=>sort_siftDown_func_b1 Tx lf i d s.1 s.2)) (z := r) (show loopO _ _ = _ from k) (fun (s : Int × (List Tx)) a wx=>match s with | (c,x)=>∃ (ox : Own),a.defers = [] ∧ a.tmps.size = 55 ∧ a.eval (.tmp 2) = Zi i ∧ a.eval (.tmp 3) = Zi d ∧ a.eval (.tmp 4) = pt m 0 ∧ a.eval (.tmp 8) = Zi c ∧ Evo [1] own ox w wx ∧ BlkO ox 110 wx m 122 #[.func (.func 48) #[] #[ca],.func (.func 71) #[] #[sv,th]] ∧ SoO Jx ox 144 wx x) ?_ ?_
 ·exact ⟨(rl [(1,144)] cv),cl,cF,aN,aO,aP,aQ,(Evo.rl_ bA j rfl),(BlkO.rl_ J),(SoO.rl_ aq)⟩
 ·rintro ⟨c,x⟩ aI c4 dg ⟨cw,cm,cG,aR,aS,aT,X,bv,K,ar⟩ k cZ b0 aG bt
  have k : sort_siftDown_func_b1 Tx lf i d c x = some aI := k
  refine fl_block (fun c0 b1 cX aH=>?_)
  refine rq_seq 55 cw (bz 4) [dv [] [8] 11 (Zi c),dv [0] [] 12 (Zi (ml 2 c)),dv [1] [] 13 (Zi (ad (ml 2 c) 1)),dv [2] [] 9 (Zi (ad (ml 2 c) 1))] cG cm ?_ ?_
  ·exact sM X<|sF (fun f=>or_mul rfl f.1 rfl)<|sF (fun f=>or_add f.1 rfl rfl)<|sA<|steps_nil
  intro cx c5 dh cn cH bS bJ R
  obtain ⟨Y,aU,aV,aW⟩ := kt4 bS aR aS aT X
  have Z := gv (bJ [3] rfl) rfl
  have bB := Evo.step bv j R rfl
  have L := be_ R K
  have au := SoO.evo (by decide) R ar
  refine fl_seq (fun c1 b2 b6=>?_)
  refine rq_seq 55 cx [0,0,3] [dv [] [9] 14 (Zi (ad (ml 2 c) 1)),dv [] [2] 15 (Zi i),dv [0,1] [] 16 (.bool (decide (i ≤ (ad (ml 2 c) 1))))] cH cn ?_ ?_
  ·exact sM Z<|sM Y<|sF (fun f=>or_geq f.1 f.2.1 rfl)<|steps_nil
  intro bo c6 di bi cI bT bK S
  obtain ⟨aa,y,ab,aX,o⟩ := kt5 bT Y aU aV aW Z
  have ay := gv (bK [2] rfl) rfl
  have aD := Evo.step bB j S rfl
  have q := be_ S L
  have p := SoO.evo (by decide) S au
  refine fl_cond ay k (fun ch k=>?_) (fun ch k=>?_)
  ·refine fl_exit ?_
   refine b6 _ _ _ rfl ?_
   refine aH _ _ _ rfl ?_
   replace k := bt _ k
   refine aG _ _ _ rfl ?_
   refine b8 _ _ ?_
   obtain rfl := (osome k).symm
   exact bl _ _ _ _ (.inr rfl) bi (results0_ rfl ) ⟨(rl [(144,1)] bo),rfl,(Evo.rl_ aD j rfl),(SoO.rl_ p)⟩
  refine fl_skip ?_
  refine b2 _ _ ?_
  refine fl_seq (fun cd b3 cW=>?_)
  have bg : ∀ (l : Act) (H : World) (G : Own) (h : Int),l.defers = [] → l.tmps.size = 55 → l.eval (.tmp 2) = Zi i → l.eval (.tmp 3) = Zi d → l.eval (.tmp 4) = pt m 0 → l.eval (.tmp 8) = Zi c → l.eval (.tmp 9) = Zi h → Evo [1] own G w H → BlkO G 110 H m 122 #[.func (.func 48) #[] #[ca],.func (.func 71) #[] #[sv,th]] → SoO Jx G 144 H x → sort_siftDown_func_k2 Tx lf d c x h = some aI → cd .normal l H := by
   intro l H G h co cJ aY A ae af ag bw t C k
   refine b3 _ _ ?_
   refine fl_seq (fun c2 b4 b7=>?_)
   obtain ⟨bh,bF,k⟩ := obind k
   refine rq_seq 55 G [0,1,0,0,12,0,0,96,255,511] [dv [] [4] 35 (pt m 0),dv [0] [] 36 (.func (.func 48) #[] #[ca]),dv [] [3] 37 (Zi d),dv [] [8] 38 (Zi c),dv [2,3] [] 39 (Zi (ad d c)),dv [] [3] 40 (Zi d),dv [] [9] 41 (Zi h),dv [5,6] [] 42 (Zi (ad d h)),dv [1,4,7] [] 43 (.bool bh),dv [8] [] 44 (.bool (!bh))] cJ co ?_ ?_
   ·exact sS (fun s=>or_field fo122_0 (s.1.trans ae) (by rfl))<|sG to100 t<|sM A<|sM af<|sF (fun f=>or_add f.1 f.2.1 rfl)<|sM A<|sM ag<|sF (fun f=>or_add f.1 f.2.1 rfl)<|sFE (fun f hE=>or_callf cf48 f.1 (args2 f.2.1 f.2.2.1) rfl (hL _ _ _ _ _ _ _ (SoO.evo (by decide) hE C) bF) post_val)<|sF (fun f=>or_not f.1 rfl)<|steps_nil
   intro bp c7 dj bj cK bU bL T
   obtain ⟨aZ,B,ah,a1,ai⟩ := kt5 bU aY A ae af ag
   have az := gv (bL [9] rfl) rfl
   have aE := Evo.step bw j T rfl
   have u := be_ T t
   have D := SoO.evo (by decide) T C
   refine fl_cond az k (fun ci k=>?_) (fun ci k=>?_)
   ·refine fl_ret ?_
    refine b7 _ _ _ rfl ?_
    refine aH _ _ _ rfl ?_
    replace k := bt _ k
    refine aG _ _ _ rfl ?_
    refine b5 _ _ _ rfl ?_
    obtain rfl := (osome k).symm
    exact bl _ _ _ _ (.inl rfl) bj (results0_ rfl ) ⟨(rl [(144,1)] bp),rfl,(Evo.rl_ aE j rfl),(SoO.rl_ D)⟩
   refine fl_skip ?_
   refine b4 _ _ ?_
   obtain ⟨bm,bZ,k⟩ := obind k
   refine rr_seq 55 [Fct.soAt Jx 144 x] bp [144] [0,1,0,0,12,0,0,96,255] [dv [] [4] 45 (pt m 1),dv [0] [] 46 (.func (.func 71) #[] #[sv,th]),dv [] [3] 47 (Zi d),dv [] [8] 48 (Zi c),dv [2,3] [] 49 (Zi (ad d c)),dv [] [3] 50 (Zi d),dv [] [9] 51 (Zi h),dv [5,6] [] 52 (Zi (ad d h)),⟨[1,4,7,9],[],[144],Fct.so Jx 197 53 bm⟩] cK bj (fm1 D) ?_ ?_
   ·refine sS (fun s=>or_field fo122_1 (s.1.trans ah) (by rfl))<|sG to117 u<|sM B<|sM a1<|sF (fun f=>or_add f.1 f.2.1 rfl)<|sM B<|sM ai<|sF (fun f=>or_add f.1 f.2.1 rfl) ?_
    refine sc (fun own a wx hf dp hE=>?_) ?_
    ·obtain ⟨cs,ct,cu,b_Jx,-⟩ := hf
     exact px (or_sswap (lab := 144) (lab2 := 197) cs (args2 ct cu) hS b_Jx (by decide) bZ (mem_of rfl))
    exact steps_nil
   intro bq cf cB cp cL bV bM aC
   obtain ⟨a2,a3,a4,a5⟩ := kt4 bV aZ B ah ai
   obtain ⟨⟨(db : cf.eval (.tmp 53) = .tuple #[]),(av : SoO Jx bq 197 cB bm)⟩,-⟩ := bM [8] rfl
   have bC := Evo.step aE j aC rfl
   have M := be_ aC u
   refine rq 55 bq (bz 2) [dv [] [9] 54 (Zi h),dv [0] [] 8 (Zi h)] cL cp ?_ ?_
   ·exact sM a5<|sA<|steps_nil
   intro cy c8 dk cq cM bW bN U
   obtain ⟨a6,a7,a8⟩ := kt3 bW a2 a3 a4
   have a9 := gv (bN [1] rfl) rfl
   have bD := Evo.step bC j U rfl
   have N := be_ U M
   have aw := SoO.evo (by decide) U av
   refine b1 _ _ ?_
   exact b0 _ _ _ k ⟨(rl [(197,144)] cy),cq,cM,a6,a7,a8,a9,(Evo.rl_ bD j rfl),(BlkO.rl_ N),(SoO.rl_ aw)⟩
  obtain ⟨cC,b9,k⟩ := obind k
  obtain ⟨cg,bG,k⟩ := obind k
  obtain ⟨cD,cb,k⟩ := obind k
  refine rq_seq 55 bo [0,1,0,7,15,31,63,31,31,415,31,31,3103,7199,16383,32767] [dv [] [9] 17 (Zi (ad (ml 2 c) 1)),dv [0] [] 18 (Zi (ad (ad (ml 2 c) 1) 1)),dv [] [2] 19 (Zi i),dv [1,2] [] 20 (.bool (decide ((ad (ad (ml 2 c) 1) 1) < i))),dv [3] [] 21 (.bool (decide ((ad (ad (ml 2 c) 1) 1) < i))),dc [4] [4] (decide ((ad (ad (ml 2 c) 1) 1) < i)) 22 (pt m 0),dc [4,5] [] (decide ((ad (ad (ml 2 c) 1) 1) < i)) 23 (.func (.func 48) #[] #[ca]),dc [4] [3] (decide ((ad (ad (ml 2 c) 1) 1) < i)) 24 (Zi d),dc [4] [9] (decide ((ad (ad (ml 2 c) 1) 1) < i)) 25 (Zi (ad (ml 2 c) 1)),dc [4,7,8] [] (decide ((ad (ad (ml 2 c) 1) 1) < i)) 26 (Zi (ad d (ad (ml 2 c) 1))),dc [4] [3] (decide ((ad (ad (ml 2 c) 1) 1) < i)) 27 (Zi d),dc [4] [9] (decide ((ad (ad (ml 2 c) 1) 1) < i)) 28 (Zi (ad (ml 2 c) 1)),dc [4,10,11] [] (decide ((ad (ad (ml 2 c) 1) 1) < i)) 29 (Zi (ad d (ad (ml 2 c) 1))),dc [4,12] [] (decide ((ad (ad (ml 2 c) 1) 1) < i)) 30 (Zi cC),dc [4,6,9,13] [] (decide ((ad (ad (ml 2 c) 1) 1) < i)) 31 (.bool cg),dv [4,14] [] 32 (.bool cD)] cI bi ?_ ?_
  ·exact sM o<|sF (fun f=>or_add f.1 rfl rfl)<|sM aa<|sF (fun f=>or_lss f.1 f.2.1 rfl)<|sV<|cT (fun _ s _ _=>or_field fo122_0 (s.1.trans ab) (by rfl))<|cT (fun f _ hE hg=>ld1 to100 (f.2.1.1 hg) (be_ hE q))<|cT (fun _ s _ _=>or_move (s.1.trans y))<|cT (fun _ s _ _=>or_move (s.1.trans o))<|cT (fun f _ _ hg=>or_add (f.2.1.1 hg) (f.2.2.1.1 hg) rfl)<|cT (fun _ s _ _=>or_move (s.1.trans y))<|cT (fun _ s _ _=>or_move (s.1.trans o))<|cT (fun f _ _ hg=>or_add (f.2.1.1 hg) (f.2.2.1.1 hg) rfl)<|cT (fun f _ _ hg=>or_add (f.2.1.1 hg) rfl (osome b9).symm)<|cT (fun f _ hE hg=>or_callf cf48 (f.2.1.1 hg) (args2 (f.2.2.1.1 hg) (f.2.2.2.1.1 hg)) rfl (hL _ _ _ _ _ _ _ (SoO.evo (by decide) hE p) (gd_t bG hg)) post_val)<|sF (fun f=>or_and f.1 (fun hx=>f.2.1.1 hx) rfl (osome cb).symm)<|steps_nil
  intro br c9 dl bk bu bX bO V
  obtain ⟨aj,ak,al,am,an⟩ := kt5 bX aa y ab aX o
  have aA := gv (bO [15] rfl) rfl
  have aF := Evo.step aD j V rfl
  have v := be_ V q
  have E := SoO.evo (by decide) V p
  refine fl_cond aA k (fun cj k=>?_) (fun cj k=>?_)
  ·refine rq 55 br (bz 3) [dv [] [9] 33 (Zi (ad (ml 2 c) 1)),dv [0] [] 34 (Zi (ad (ad (ml 2 c) 1) 1)),dv [1] [] 9 (Zi (ad (ad (ml 2 c) 1) 1))] bu bk ?_ ?_
   ·exact sM an<|sF (fun f=>or_add f.1 rfl rfl)<|sA<|steps_nil
   intro cz da dm cr cN bY bP W
   obtain ⟨ba,bb,bc,bd⟩ := kt4 bY aj ak al am
   have be := gv (bP [2] rfl) rfl
   have bE := Evo.step aF j W rfl
   have O := be_ W v
   have ax := SoO.evo (by decide) W E
   exact (bg _ _ cz _ cr cN ba bb bc bd be bE O ax k)
  refine fl_skip ?_
  exact (bg _ _ br _ bk bu aj ak al am an aF v E k)
theorem sort_heapSort_func_w (w : World) (own : Own) (Tx : Type) (lf : List Tx → Int → Int → Option Bool) (ca : Value) (sv : Value) (th : Value) (l0 : List Tx) (Jx : Sj (List Tx)) (l : Int) (S : Int) (c : ∀ b,own b ≤ 1) (hL : LessS Try.prog 48 ca lf Jx) (hS : SwapS Try.prog 71 sv th Jx) (hJx : SoO Jx own 1 w l0) (r : List Tx) (k : sort_heapSort_func Tx lf l0 l S = some r) :
  Calls Try.prog 75 #[.agg #[.func (.func 48) #[] #[ca],.func (.func 71) #[] #[sv,th]],Zi l,Zi S] w fun e w'=>∃ (aq : Own),e = .returned (.tuple #[]) ∧ Evo [1] own aq w w' ∧ SoO Jx aq 1 w' r := by
 refine fl_enter (n := 45) rfl rfl rfl (Nat.le_of_ble_eq_true rfl) ?_
 intro a0 Q d0 z0 an dm
 have dW := an 0 _ rfl
 have dX := an 1 _ rfl
 have dY := an 2 _ rfl
 clear an
 have dV : Evo [1] own own w w := Evo.refl _ _ _
 refine rq_seq 45 own (bz 1) [⟨[],[0],[],Fct.blk 102 3 (fun g=>pt g 0) 122 #[.func (.func 48) #[] #[ca],.func (.func 71) #[] #[sv,th]]⟩] z0 d0 ?_ ?_
 ·exact sS (fun s=>nw1 (s.1.trans dW))<|steps_nil
 intro bJ cR dz cX dD cj b5 aL
 obtain ⟨ae,aU⟩ := kt2 cj dX dY
 obtain ⟨⟨q,(aV : cR.eval (.tmp 3) = pt q 0),(F : BlkO bJ 102 dz q 122 #[.func (.func 48) #[] #[ca],.func (.func 71) #[] #[sv,th]])⟩,-⟩ := b5 [0] rfl
 have bT := Evo.step dV c aL rfl
 have ar := SoO.evo (by decide) aL hJx
 refine rq_seq 45 bJ (bz 2) [dv [] [1] 11 (Zi l),dv [0] [] 6 (Zi l)] dD cX ?_ ?_
 ·exact sM ae<|sA<|steps_nil
 intro dp eo eE cY dE ck b6 T
 obtain ⟨aW,aX,aY⟩ := kt3 ck ae aU aV
 have aZ := gv (b6 [1] rfl) rfl
 have bU := Evo.step bT c T rfl
 have au := SoO.evo (by decide) T ar
 have G := be_ T F
 refine rq_seq 45 dp (bz 1) [dv [] [] 7 (Zi 0)] dE cY ?_ ?_
 ·exact sO (or_assign rfl)<|steps_nil
 intro dq ep eF cZ dF cl b7 U
 obtain ⟨a1,a2,a3,a4⟩ := kt4 cl aW aX aY aZ
 have a5 := gv (b7 [0] rfl) rfl
 have bV := Evo.step bU c U rfl
 have av := SoO.evo (by decide) U au
 have H := be_ U G
 refine rq_seq 45 dq [0,0,3,7] [dv [] [2] 12 (Zi S),dv [] [1] 13 (Zi l),dv [0,1] [] 14 (Zi (sb S l)),dv [2] [] 8 (Zi (sb S l))] dF cZ ?_ ?_
 ·exact sM a2<|sM a1<|sF (fun f=>or_sub f.1 f.2.1 rfl)<|sA<|steps_nil
 intro dr eq eG c0 dG cm b8 V
 obtain ⟨a6,a7,a8⟩ := kt3 cm a3 a4 a5
 have af := gv (b8 [3] rfl) rfl
 have bW := Evo.step bV c V rfl
 have aw := SoO.evo (by decide) V av
 have I := be_ V H
 refine fl_seq (fun ed cx d4=>?_)
 obtain ⟨bP,cM,k⟩ := obind k
 refine rq_seq 45 dr (bz 4) [dv [] [8] 15 (Zi (sb S l)),dv [0] [] 16 (Zi (sb (sb S l) 1)),dv [1] [] 17 (Zi bP),dv [2] [] 9 (Zi bP)] dG c0 ?_ ?_
 ·exact sM af<|sF (fun f=>or_sub f.1 rfl rfl)<|sF (fun f=>or_quo f.1 rfl cM)<|sA<|steps_nil
 intro ds er eH c1 dH cn b9 W
 obtain ⟨a9,ba,bb,bc⟩ := kt4 cn a6 a7 a8 af
 have bd := gv (b9 [3] rfl) rfl
 have bX := Evo.step bW c W rfl
 have ax := SoO.evo (by decide) W aw
 have J := be_ W I
 refine fl_block (fun ee d2 cN d5=>?_)
 refine fl_loop (body := (fun s=>sort_heapSort_func_b1 Tx lf l S s.1 s.2)) (z := r) (show loopO _ _ = _ from k) (fun (s : Int × (List Tx)) a wx=>match s with | (i,E)=>∃ (ox : Own),a.defers = [] ∧ a.tmps.size = 45 ∧ a.eval (.tmp 3) = pt q 0 ∧ a.eval (.tmp 6) = Zi l ∧ a.eval (.tmp 7) = Zi 0 ∧ a.eval (.tmp 8) = Zi (sb S l) ∧ a.eval (.tmp 9) = Zi i ∧ Evo [1] own ox w wx ∧ BlkO ox 102 wx q 122 #[.func (.func 48) #[] #[ca],.func (.func 71) #[] #[sv,th]] ∧ SoO Jx ox 123 wx E) ?_ ?_
 ·exact ⟨(rl [(1,123)] ds),c1,dH,a9,ba,bb,bc,bd,(Evo.rl_ bX c rfl),(BlkO.rl_ J),(SoO.rl_ ax)⟩
 ·rintro ⟨i,E⟩ cP es eI ⟨dt,c2,dJ,be,bf,bg,bh,ag,bR,K,ay⟩ k ef cy cG dI
  have k : sort_heapSort_func_b1 Tx lf l S i E = some cP := k
  refine fl_seq (fun eg cz cH=>?_)
  refine rq_seq 45 dt (bz 2) [dv [] [9] 18 (Zi i),dv [0] [] 19 (.bool (decide (0 ≤ i)))] dJ c2 ?_ ?_
  ·exact sM ag<|sF (fun f=>or_geq f.1 rfl rfl)<|steps_nil
  intro bK et eJ bH bQ co cb X
  obtain ⟨t,u,ah,v,ai⟩ := kt5 co be bf bg bh ag
  have aG := gv (cb [1] rfl) rfl
  have aP := Evo.step bR c X rfl
  have j := be_ X K
  have y := SoO.evo (by decide) X ay
  refine fl_cond aG k (fun cV k=>?_) (fun cV k=>?_)
  ·refine fl_skip ?_
   refine cz _ _ ?_
   refine fl_seq (fun eh cA d6=>?_)
   refine fl_block (fun ei cB eb d7=>?_)
   obtain ⟨aR,cK,k⟩ := obind k
   refine rr 45 [Fct.soAt Jx 123 E] bK [123] [0,0,0,0,15] [dv [] [3] 22 (.agg #[.func (.func 48) #[] #[ca],.func (.func 71) #[] #[sv,th]]),dv [] [9] 23 (Zi i),dv [] [8] 24 (Zi (sb S l)),dv [] [6] 25 (Zi l),⟨[0,1,2,3,5],[],[123],Fct.mems [142] 26 (fun (_ : Unit)=>.tuple #[]) (fun (_ : Unit) own w=>SoO Jx own 142 w aR) (fun hk he h=>SoO.evo (not_hit hk (by decide)) he h)⟩] bQ bH (fm1 y) ?_ ?_
   ·refine sL ta122 t j<|sM ai<|sM v<|sM u ?_
    refine sc (fun own a wx hf dn hE=>?_) ?_
    ·obtain ⟨da,db,dc,dd,b_Jx,-⟩ := hf
     exact px (or_call cf83 (args4 da db dc dd) (sort_siftDown_func_w _ (forth own (look0 [(123,1)])) Tx lf ca sv th E Jx i (sb S l) l (look0_le rfl) hL hS (SoO.forth_ (m := (look0 [(123,1)])) b_Jx) aR cK) (post_mems0 (m := (look0 [(123,1)])) (m' := (look0 [(1,142)])) (hm_of rfl) (fun aq w' a' h1 h=>⟨(),h1,SoO.back_ h (by decide)⟩)))
    exact steps_nil
   intro bL cS dA c3 dK cp cc aM
   obtain ⟨bi,bj,bk,bl,bm⟩ := kt5 cp t u ah v ai
   obtain ⟨⟨_,(ez : cS.eval (.tmp 26) = .tuple #[]),(az : SoO Jx bL 142 dA aR)⟩,-⟩ := cc [4] rfl
   have bY := Evo.step aP c aM rfl
   have L := be_ aM j
   refine cB _ _ ?_
   refine cA _ _ ?_
   refine rq 45 bL (bz 3) [dv [] [9] 20 (Zi i),dv [0] [] 21 (Zi (sb i 1)),dv [1] [] 9 (Zi (sb i 1))] dK c3 ?_ ?_
   ·exact sM bm<|sF (fun f=>or_sub f.1 rfl rfl)<|sA<|steps_nil
   intro du eu eK c4 dL cq cd Y
   obtain ⟨bn,bo,bp,bq⟩ := kt4 cq bi bj bk bl
   have br := gv (cd [2] rfl) rfl
   have bZ := Evo.step bY c Y rfl
   have M := be_ Y L
   have aA := SoO.evo (by decide) Y az
   exact cy _ _ _ k ⟨(rl [(142,123)] du),c4,dL,bn,bo,bp,bq,br,(Evo.rl_ bZ c rfl),(BlkO.rl_ M),(SoO.rl_ aA)⟩
  refine fl_exit ?_
  refine cH _ _ _ rfl ?_
  replace k := dI _ k
  refine cG _ _ _ rfl ?_
  refine cN _ _ ?_
  refine cx _ _ ?_
  refine rq_seq 45 bK (bz 3) [dv [] [8] 27 (Zi (sb S l)),dv [0] [] 28 (Zi (sb (sb S l) 1)),dv [1] [] 10 (Zi (sb (sb S l) 1))] bQ bH ?_ ?_
  ·exact sM v<|sF (fun f=>or_sub f.1 rfl rfl)<|sA<|steps_nil
  intro dw ev eL c5 dM cr ce Z
  obtain ⟨bs,bt,bu⟩ := kt3 cr t u ah
  have aH := gv (ce [2] rfl) rfl
  have b0 := Evo.step aP c Z rfl
  have N := be_ Z j
  have aB := SoO.evo (by decide) Z y
  refine fl_block (fun ej d3 cO d8=>?_)
  refine fl_loop (body := (fun s=>sort_heapSort_func_b2 Tx lf l s.1 s.2)) (z := r) (show loopO _ _ = _ from k) (fun (s : Int × (List Tx)) a wx=>match s with | (d,ao)=>∃ (ox : Own),a.defers = [] ∧ a.tmps.size = 45 ∧ a.eval (.tmp 3) = pt q 0 ∧ a.eval (.tmp 6) = Zi l ∧ a.eval (.tmp 7) = Zi 0 ∧ a.eval (.tmp 10) = Zi d ∧ Evo [1] own ox w wx ∧ BlkO ox 102 wx q 122 #[.func (.func 48) #[] #[ca],.func (.func 71) #[] #[sv,th]] ∧ SoO Jx ox 162 wx ao) ?_ ?_
  ·exact ⟨(rl [(123,162)] dw),c5,dM,bs,bt,bu,aH,(Evo.rl_ b0 c rfl),(BlkO.rl_ N),(SoO.rl_ aB)⟩
  ·rintro ⟨d,ao⟩ cQ ew eM ⟨dx,c6,dO,bv,bw,bx,B,bS,O,aC⟩ k ek cC cI dN
   have k : sort_heapSort_func_b2 Tx lf l d ao = some cQ := k
   refine fl_seq (fun el cD cJ=>?_)
   refine rq_seq 45 dx (bz 2) [dv [] [10] 29 (Zi d),dv [0] [] 30 (.bool (decide (0 ≤ d)))] dO c6 ?_ ?_
   ·exact sM B<|sF (fun f=>or_geq f.1 rfl rfl)<|steps_nil
   intro bM ex eN bI dP cs cf aa
   obtain ⟨aj,x,bA,C⟩ := kt4 cs bv bw bx B
   have aI := gv (cf [1] rfl) rfl
   have aQ := Evo.step bS c aa rfl
   have o := be_ aa O
   have A := SoO.evo (by decide) aa aC
   refine fl_cond aI k (fun cW k=>?_) (fun cW k=>?_)
   ·refine fl_skip ?_
    refine cD _ _ ?_
    refine fl_seq (fun em cE d9=>?_)
    refine fl_block (fun en cF ec ea=>?_)
    obtain ⟨ap,cw,k⟩ := obind k
    refine rr_seq 45 [Fct.soAt Jx 162 ao] bM [162] [0,1,0,0,0,24,63] [dv [] [3] 33 (pt q 1),dv [0] [] 34 (.func (.func 71) #[] #[sv,th]),dv [] [6] 35 (Zi l),dv [] [6] 36 (Zi l),dv [] [10] 37 (Zi d),dv [3,4] [] 38 (Zi (ad l d)),⟨[1,2,5,7],[],[162],Fct.so Jx 184 39 ap⟩] dP bI (fm1 A) ?_ ?_
    ·refine sS (fun s=>or_field fo122_1 (s.1.trans aj) (by rfl))<|sG to117 o<|sM x<|sM x<|sM C<|sF (fun f=>or_add f.1 f.2.1 rfl) ?_
     refine sc (fun own a wx hf dn hE=>?_) ?_
     ·obtain ⟨de,df,dg,b_Jx,-⟩ := hf
      exact px (or_sswap (lab := 162) (lab2 := 184) de (args2 df dg) hS b_Jx (by decide) cw (mem_of rfl))
     exact steps_nil
    intro bN cT dB c7 dQ ct cg aN
    obtain ⟨ak,al,am,D⟩ := kt4 ct aj x bA C
    obtain ⟨⟨(eA : cT.eval (.tmp 39) = .tuple #[]),(aD : SoO Jx bN 184 dB ap)⟩,-⟩ := cg [6] rfl
    have b1 := Evo.step aQ c aN rfl
    have p := be_ aN o
    obtain ⟨aS,cL,k⟩ := obind k
    refine rr 45 [Fct.soAt Jx 184 ap] bN [184] [0,0,0,0,15] [dv [] [3] 40 (.agg #[.func (.func 48) #[] #[ca],.func (.func 71) #[] #[sv,th]]),dv [] [7] 41 (Zi 0),dv [] [10] 42 (Zi d),dv [] [6] 43 (Zi l),⟨[0,1,2,3,5],[],[184],Fct.mems [187] 44 (fun (_ : Unit)=>.tuple #[]) (fun (_ : Unit) own w=>SoO Jx own 187 w aS) (fun hk he h=>SoO.evo (not_hit hk (by decide)) he h)⟩] dQ c7 (fm1 aD) ?_ ?_
    ·refine sL ta122 ak p<|sM am<|sM D<|sM al ?_
     refine sc (fun own a wx hf dn hE=>?_) ?_
     ·obtain ⟨dh,di,dj,dk,b_Jx,-⟩ := hf
      exact px (or_call cf83 (args4 dh di dj dk) (sort_siftDown_func_w _ (forth own (look0 [(184,1)])) Tx lf ca sv th ap Jx 0 d l (look0_le rfl) hL hS (SoO.forth_ (m := (look0 [(184,1)])) b_Jx) aS cL) (post_mems0 (m := (look0 [(184,1)])) (m' := (look0 [(1,187)])) (hm_of rfl) (fun aq w' a' h1 h=>⟨(),h1,SoO.back_ h (by decide)⟩)))
     exact steps_nil
    intro bO cU dC c8 dR cu ch aO
    obtain ⟨bB,bC,bD,aJ⟩ := kt4 cu ak al am D
    obtain ⟨⟨_,(eB : cU.eval (.tmp 44) = .tuple #[]),(aE : SoO Jx bO 187 dC aS)⟩,-⟩ := ch [4] rfl
    have b3 := Evo.step b1 c aO rfl
    have P := be_ aO p
    refine cF _ _ ?_
    refine cE _ _ ?_
    refine rq 45 bO (bz 3) [dv [] [10] 31 (Zi d),dv [0] [] 32 (Zi (sb d 1)),dv [1] [] 10 (Zi (sb d 1))] dR c8 ?_ ?_
    ·exact sM aJ<|sF (fun f=>or_sub f.1 rfl rfl)<|sA<|steps_nil
    intro dy ey eO c9 dS cv ci ab
    obtain ⟨bE,bF,bG⟩ := kt3 cv bB bC bD
    have aK := gv (ci [2] rfl) rfl
    have b4 := Evo.step b3 c ab rfl
    have R := be_ ab P
    have aF := SoO.evo (by decide) ab aE
    exact cC _ _ _ k ⟨(rl [(187,162)] dy),c9,dS,bE,bF,bG,aK,(Evo.rl_ b4 c rfl),(BlkO.rl_ R),(SoO.rl_ aF)⟩
   refine fl_exit ?_
   refine cJ _ _ _ rfl ?_
   replace k := dN _ k
   refine cI _ _ _ rfl ?_
   refine cO _ _ ?_
   obtain rfl := (osome k).symm
   exact dm _ _ _ _ (.inr rfl) bI (results0_ rfl ) ⟨(rl [(162,1)] bM),rfl,(Evo.rl_ aQ c rfl),(SoO.rl_ A)⟩
theorem sort_nextPowerOfTwo_w (w : World) (a : Int) (r : Int) (v : sort_nextPowerOfTwo a = some r) :
  Calls Try.prog 84 #[Zi a] w fun e R=>∃ y : Own,e = .returned (.int .u64 r) ∧ Evo [] (fun _=>0) y w R := by
 refine fl_enter (n := 10) rfl rfl rfl (Nat.le_of_ble_eq_true rfl) ?_
 intro X Q d0 V c u
 have E := c 0 _ rfl
 clear c
 have D : Evo [] (fun _=>0) (fun _=>0) w w := Evo.refl _ _ _
 refine rq_seq 10 (fun _=>0) (bz 1) [dv [] [] 2 (.int .u64 0)] V d0 ?_ ?_
 ·exact sO (or_assign rfl)<|steps_nil
 intro F N S A I s K i
 have d := kt s E
 have l := es_ D i
 obtain ⟨b,t,v⟩ := obind v
 refine rq_seq 10 F (bz 5) [dv [] [0] 4 (Zi a),dv [0] [] 5 (.int .u64 (IntKind.u64.wrap a)),dv [1] [] 6 (Zi b),dv [2] [] 7 (.int .u64 (IntKind.u64.wrap b)),dv [3] [] 3 (.int .u64 (IntKind.u64.wrap b))] I A ?_ ?_
 ·exact sM d<|sF (fun f=>or_conv f.1 tn3 tn104 rfl)<|sF (fun f=>or_call cf59 (args1 f.1) (math_bits_Len_w _ (IntKind.u64.wrap a)  b t) post_val)<|sF (fun f=>or_conv f.1 tn3 tn104 rfl)<|sA<|steps_nil
 intro G O T B J L p j
 have g := gv (p [4] rfl) rfl
 have m := es_ l j
 obtain ⟨z,x,v⟩ := obind v
 refine rq_seq 10 G (bz 3) [dv [] [3] 8 (.int .u64 (IntKind.u64.wrap b)),dv [0] [] 9 (.int .u64 z),dv [1] [] 2 (.int .u64 z)] J B ?_ ?_
 ·exact sM g<|sF (fun f=>or_shl rfl f.1 x)<|sA<|steps_nil
 intro H P U C W M q k
 have h := gv (q [2] rfl) rfl
 have o := es_ m k
 refine fl_ret ?_
 obtain rfl := (osome v).symm
 exact u _ _ _ _ (.inl rfl) C (results1_ rfl (RVal.tmp_ h)) ⟨H,rfl,o⟩
theorem sort_xorshift_Next_w (w : World) (own : Own) (i : Int) (d : Nat) (g : TypeId) (j : ∀ b,own b ≤ 1) (ah : BlkO own 1 w d g #[.int .u64 i]) (r : Int × Int) (C : sort_xorshift_Next i = some r) :
  Calls Try.prog 85 #[pt d 0] w fun e w'=>∃ (p : Own),e = .returned (.int .u64 r.1) ∧ Evo [1] own p w w' ∧ BlkO p 1 w' d g #[.int .u64 r.2] := by
 refine fl_enter (n := 33) rfl rfl rfl (Nat.le_of_ble_eq_true rfl) ?_
 intro a0 Q d0 z0 G an
 have aH := G 0 _ rfl
 clear G
 have aG : Evo [1] own own w w := Evo.refl _ _ _
 refine rq_seq 33 own (bz 1) [dv [] [] 2 (.int .u64 0)] z0 d0 ?_ ?_
 ·exact sO (or_assign rfl)<|steps_nil
 intro aI aV a1 ay aO ai aU E
 have q := kt ai aH
 have W := Evo.step aG j E rfl
 have v := be_ E ah
 obtain ⟨h,ao,C⟩ := obind C
 refine rd_seq g_mixed 33 [Fct.at_ 1 d g #[.int .u64 i]] aI [1] [0,1,3,0,8,24,56,127,255,511] [dv [] [0] 3 (pt d 0),dv [0] [] 4 (pt d 0),dv [1,10] [] 5 (.int .u64 i),dv [] [0] 6 (pt d 0),dv [3] [] 7 (pt d 0),dv [4,10] [] 8 (.int .u64 i),dv [5] [] 9 (.int .u64 h),dv [2,6] [] 10 (.int .u64 (xoK .u64 i h)),dv [0] [] 11 (pt d 0),⟨[8,7,10],[],[1],Fct.at_ 31 d g #[.int .u64 (xoK .u64 i h)]⟩] aO ay (fm1 v) ?_ ?_
 ·refine sM q<|sF (fun f=>ok1 f.1) ?_
  refine sc (fun own a u m o D=>?_) ?_
  ·obtain ⟨aE,(c : BlkO own 1 u d g #[.int .u64 i]),-⟩ := m
   exact px (ld1 to139 aE c)
  refine sM q<|sF (fun f=>ok1 f.1) ?_
  refine sc (fun own a u m o D=>?_) ?_
  ·obtain ⟨aF,(c : BlkO own 1 u d g #[.int .u64 i]),-⟩ := m
   exact px (ld1 to139 aF c)
  refine sF (fun f=>or_shl f.1 rfl ao)<|sF (fun f=>or_bxor f.1 f.2.1 rfl)<|sF (fun f=>ok1 f.1) ?_
  refine sc (fun own a u m o D=>?_) ?_
  ·obtain ⟨J,I,c,-⟩ := m
   exact px (or_store1 (lab := 1) (lab2 := 31) ts139 J I c (by simp) rfl (mem_of rfl) (by decide) rfl (fun p a' w' ha hb=>hb))
  exact steps_nil
 intro au aW aK az aP aj ad T
 have s := kt aj q
 obtain ⟨(x : BlkO au 31 aK d g #[.int .u64 (xoK .u64 i h)]),-⟩ := ad [9] rfl
 have X := Evo.step W j T rfl
 obtain ⟨k,ap,C⟩ := obind C
 refine rd_seq g_mixed 33 [Fct.at_ 31 d g #[.int .u64 (xoK .u64 i h)]] au [31] [0,1,3,0,8,24,56,127,255,511] [dv [] [0] 12 (pt d 0),dv [0] [] 13 (pt d 0),dv [1,10] [] 14 (.int .u64 (xoK .u64 i h)),dv [] [0] 15 (pt d 0),dv [3] [] 16 (pt d 0),dv [4,10] [] 17 (.int .u64 (xoK .u64 i h)),dv [5] [] 18 (.int .u64 k),dv [2,6] [] 19 (.int .u64 (xoK .u64 (xoK .u64 i h) k)),dv [0] [] 20 (pt d 0),⟨[8,7,10],[],[31],Fct.at_ 35 d g #[.int .u64 (xoK .u64 (xoK .u64 i h) k)]⟩] aP az (fm1 x) ?_ ?_
 ·refine sM s<|sF (fun f=>ok1 f.1) ?_
  refine sc (fun own a u m o D=>?_) ?_
  ·obtain ⟨K,(c : BlkO own 31 u d g #[.int .u64 (xoK .u64 i h)]),-⟩ := m
   exact px (ld1 to139 K c)
  refine sM s<|sF (fun f=>ok1 f.1) ?_
  refine sc (fun own a u m o D=>?_) ?_
  ·obtain ⟨L,(c : BlkO own 31 u d g #[.int .u64 (xoK .u64 i h)]),-⟩ := m
   exact px (ld1 to139 L c)
  refine sF (fun f=>or_shr f.1 rfl ap)<|sF (fun f=>or_bxor f.1 f.2.1 rfl)<|sF (fun f=>ok1 f.1) ?_
  refine sc (fun own a u m o D=>?_) ?_
  ·obtain ⟨N,M,c,-⟩ := m
   exact px (or_store1 (lab := 31) (lab2 := 35) ts139 N M c (by simp) rfl (mem_of rfl) (by decide) rfl (fun p a' w' ha hb=>hb))
  exact steps_nil
 intro av aX aL aA aQ ak ae U
 have t := kt ak s
 obtain ⟨(y : BlkO av 35 aL d g #[.int .u64 (xoK .u64 (xoK .u64 i h) k)]),-⟩ := ae [9] rfl
 have Y := Evo.step X j U rfl
 obtain ⟨aN,aq,C⟩ := obind C
 obtain ⟨B,ar,C⟩ := obind C
 refine rd_seq g_mixed 33 [Fct.at_ 35 d g #[.int .u64 (xoK .u64 (xoK .u64 i h) k)]] av [35] [0,1,3,0,8,24,56,127,255,511] [dv [] [0] 21 (pt d 0),dv [0] [] 22 (pt d 0),dv [1,10] [] 23 (.int .u64 (xoK .u64 (xoK .u64 i h) k)),dv [] [0] 24 (pt d 0),dv [3] [] 25 (pt d 0),dv [4,10] [] 26 (.int .u64 (xoK .u64 (xoK .u64 i h) k)),dv [5] [] 27 (.int .u64 aN),dv [2,6] [] 28 (.int .u64 B),dv [0] [] 29 (pt d 0),⟨[8,7,10],[],[35],Fct.at_ 41 d g #[.int .u64 B]⟩] aQ aA (fm1 y) ?_ ?_
 ·refine sM t<|sF (fun f=>ok1 f.1) ?_
  refine sc (fun own a u m o D=>?_) ?_
  ·obtain ⟨O,(c : BlkO own 35 u d g #[.int .u64 (xoK .u64 (xoK .u64 i h) k)]),-⟩ := m
   exact px (ld1 to139 O c)
  refine sM t<|sF (fun f=>ok1 f.1) ?_
  refine sc (fun own a u m o D=>?_) ?_
  ·obtain ⟨P,(c : BlkO own 35 u d g #[.int .u64 (xoK .u64 (xoK .u64 i h) k)]),-⟩ := m
   exact px (ld1 to139 P c)
  refine sF (fun f=>or_shl f.1 rfl aq)<|sF (fun f=>or_bxor f.1 f.2.1 (osome ar).symm)<|sF (fun f=>ok1 f.1) ?_
  refine sc (fun own a u m o D=>?_) ?_
  ·obtain ⟨S,R,c,-⟩ := m
   exact px (or_store1 (lab := 35) (lab2 := 41) ts139 S R c (by simp) rfl (mem_of rfl) (by decide) rfl (fun p a' w' ha hb=>hb))
  exact steps_nil
 intro aw aY aM aB aR al af V
 have A := kt al t
 obtain ⟨(l : BlkO aw 41 aM d g #[.int .u64 B]),-⟩ := af [9] rfl
 have Z := Evo.step Y j V rfl
 refine rq_seq 33 aw (bz 4) [dv [] [0] 30 (pt d 0),dv [0] [] 31 (pt d 0),dv [1] [] 32 (.int .u64 B),dv [2] [] 2 (.int .u64 B)] aR aB ?_ ?_
 ·exact sM A<|sF (fun f=>ok1 f.1)<|sG to139 l<|sA<|steps_nil
 intro aJ aZ a2 aC a4 am ag F
 have aD := kt am A
 have H := gv (ag [3] rfl) rfl
 have aa := Evo.step Z j F rfl
 have z := be_ F l
 refine fl_ret ?_
 obtain rfl := osome C
 exact an _ _ _ _ (.inl rfl) aC (results1_ rfl (RVal.tmp_ H)) ⟨(rl [(41,1)] aJ),rfl,(Evo.rl_ aa j rfl),(BlkO.rl_ z)⟩
theorem sort_breakPatterns_func_w (w : World) (own : Own) (Tx : Type) (lf : List Tx → Int → Int → Option Bool) (ca : Value) (sv : Value) (th : Value) (l0 : List Tx) (Jx : Sj (List Tx)) (k : Int) (u : Int) (d : ∀ b,own b ≤ 1) (hL : LessS Try.prog 48 ca lf Jx) (hS : SwapS Try.prog 71 sv th Jx) (hJx : SoO Jx own 1 w l0) (r : List Tx) (p : sort_breakPatterns_func Tx lf l0 k u = some r) :
  Calls Try.prog 76 #[.agg #[.func (.func 48) #[] #[ca],.func (.func 71) #[] #[sv,th]],Zi k,Zi u] w fun e w'=>∃ (aU : Own),e = .returned (.tuple #[]) ∧ Evo [1] own aU w w' ∧ SoO Jx aU 1 w' r := by
 refine fl_enter (n := 54) rfl rfl rfl (Nat.le_of_ble_eq_true rfl) ?_
 intro a0 Q d0 z0 aT ci
 have d9 := aT 0 _ rfl
 have ea := aT 1 _ rfl
 have eb := aT 2 _ rfl
 clear aT
 have d8 : Evo [1] own own w w := Evo.refl _ _ _
 refine rq_seq 54 own (bz 1) [⟨[],[0],[],Fct.blk 109 3 (fun g=>pt g 0) 122 #[.func (.func 48) #[] #[ca],.func (.func 71) #[] #[sv,th]]⟩] z0 d0 ?_ ?_
 ·exact sS (fun s=>nw1 (s.1.trans d9))<|steps_nil
 intro ck dh dN dp dR cQ cF bc
 obtain ⟨az,bj⟩ := kt2 cQ ea eb
 obtain ⟨⟨B,(bk : dh.eval (.tmp 3) = pt B 0),(R : BlkO ck 109 dN B 122 #[.func (.func 48) #[] #[ca],.func (.func 71) #[] #[sv,th]])⟩,-⟩ := cF [0] rfl
 have cv := Evo.step d8 d bc rfl
 have aV := SoO.evo (by decide) bc hJx
 refine rq_seq 54 ck [0,0,3,7] [dv [] [2] 11 (Zi u),dv [] [1] 12 (Zi k),dv [0,1] [] 13 (Zi (sb u k)),dv [2] [] 6 (Zi (sb u k))] dR dp ?_ ?_
 ·exact sM bj<|sM az<|sF (fun f=>or_sub f.1 f.2.1 rfl)<|sA<|steps_nil
 intro dH eo ez dq dS cR cG ap
 obtain ⟨bl,bm⟩ := kt2 cR az bk
 have aA := gv (cG [3] rfl) rfl
 have cw := Evo.step cv d ap rfl
 have aW := SoO.evo (by decide) ap aV
 have S := be_ ap R
 refine rq_seq 54 dH (bz 2) [dv [] [6] 14 (Zi (sb u k)),dv [0] [] 15 (.bool (decide (8 ≤ (sb u k))))] dS dq ?_ ?_
 ·exact sM aA<|sF (fun f=>or_geq f.1 rfl rfl)<|steps_nil
 intro cl ep eA ce dT cS cH aq
 obtain ⟨bn,bo,aB⟩ := kt3 cS bl bm aA
 have a7 := gv (cH [1] rfl) rfl
 have be := Evo.step cw d aq rfl
 have J := SoO.evo (by decide) aq aW
 have T := be_ aq S
 refine fl_cond a7 p (fun dl p=>?_) (fun dl p=>?_)
 ·refine rp_seq 54 cl [115] [0,1,0,7] [dv [] [6] 16 (Zi (sb u k)),dv [0] [] 17 (.int .u64 (IntKind.u64.wrap (sb u k))),⟨[],[],[],Fct.blk 115 7 (fun g=>pt g 0) 139 #[.int .u64 0]⟩,⟨[2,1],[],[115],Fct.blk 116 7 (fun g=>pt g 0) 139 #[.int .u64 (IntKind.u64.wrap (sb u k))]⟩] dT ce ?_ ?_
  ·refine sM aB<|sF (fun f=>or_conv f.1 tn3 tn139 rfl)<|sO (nw0) ?_
   refine sc (fun own a wx hf cc hE=>?_) ?_
   ·obtain ⟨⟨o,dG,v⟩,dB,-⟩ := hf
    exact px (or_store1 (lab := 115) (lab2 := 116) ts139 dG dB v (by simp) rfl (mem_of rfl) (by decide) rfl (fun aU a' w' ha hb=>⟨_,(ha 7).trans dG,hb⟩))
   exact steps_nil
  intro cm di dO dr dU cT cI ar
  obtain ⟨bp,bq,aC⟩ := kt3 cT bn bo aB
  obtain ⟨⟨o,(br : di.eval (.tmp 7) = pt o 0),(V : BlkO cm 116 dO o 139 #[.int .u64 (IntKind.u64.wrap (sb u k))])⟩,-⟩ := cI [3] rfl
  have cx := Evo.step be d ar rfl
  have aX := SoO.evo (by decide) ar J
  have U := be_ ar T
  obtain ⟨q,da,p⟩ := obind p
  refine rq_seq 54 cm (bz 3) [dv [] [6] 18 (Zi (sb u k)),dv [0] [] 19 (.int .u64 q),dv [1] [] 8 (.int .u64 q)] dU dr ?_ ?_
  ·exact sM aC<|sF (fun f=>or_call cf84 (args1 f.1) (sort_nextPowerOfTwo_w _ (sb u k)  q da) post_val)<|sA<|steps_nil
  intro dI eq eB ds dV cU cJ au
  obtain ⟨aD,bs,aE,bt⟩ := kt4 cU bp bq aC br
  have bu := gv (cJ [2] rfl) rfl
  have cy := Evo.step cx d au rfl
  have aY := SoO.evo (by decide) au aX
  obtain ⟨W,X⟩ := be2 au U V
  obtain ⟨O,dc,p⟩ := obind p
  refine rq_seq 54 dI [0,0,2,6,15,31,63] [dv [] [1] 20 (Zi k),dv [] [6] 21 (Zi (sb u k)),dv [1] [] 22 (Zi O),dv [2] [] 23 (Zi (ml O 2)),dv [0,3] [] 24 (Zi (ad k (ml O 2))),dv [4] [] 25 (Zi (sb (ad k (ml O 2)) 1)),dv [5] [] 9 (Zi (sb (ad k (ml O 2)) 1))] dV ds ?_ ?_
  ·exact sM aD<|sM aE<|sF (fun f=>or_quo f.1 rfl dc)<|sF (fun f=>or_mul f.1 rfl rfl)<|sF (fun f=>or_add f.1 f.2.1 rfl)<|sF (fun f=>or_sub f.1 rfl rfl)<|sA<|steps_nil
  intro dJ er eC dt dW cV cK av
  obtain ⟨bv,bw,bx,bA,bB⟩ := kt5 cV aD bs aE bt bu
  have bC := gv (cK [6] rfl) rfl
  have cz := Evo.step cy d av rfl
  have aZ := SoO.evo (by decide) av aY
  obtain ⟨Y,Z⟩ := be2 av W X
  refine fl_block (fun ej ec dd ed=>?_)
  refine fl_loop (body := (fun s=>sort_breakPatterns_func_b1 Tx k u q s.1 s.2.1 s.2.2)) (z := r) (show loopO _ _ = _ from p) (fun (s : Int × Int × (List Tx)) a wx=>match s with | (i,c,D)=>∃ (ox : Own),a.defers = [] ∧ a.tmps.size = 54 ∧ a.eval (.tmp 1) = Zi k ∧ a.eval (.tmp 3) = pt B 0 ∧ a.eval (.tmp 6) = Zi (sb u k) ∧ a.eval (.tmp 7) = pt o 0 ∧ a.eval (.tmp 8) = .int .u64 q ∧ a.eval (.tmp 9) = Zi c ∧ Evo [1] own ox w wx ∧ BlkO ox 109 wx B 122 #[.func (.func 48) #[] #[ca],.func (.func 71) #[] #[sv,th]] ∧ BlkO ox 148 wx o 139 #[.int .u64 i] ∧ SoO Jx ox 152 wx D) ?_ ?_
  ·exact ⟨(rl [(1,152),(116,148)] dJ),dt,dW,bv,bw,bx,bA,bB,bC,(Evo.rl_ cz d rfl),(BlkO.rl_ Y),(BlkO.rl_ Z),(SoO.rl_ aZ)⟩
  ·rintro ⟨i,c,D⟩ bi es eD ⟨dK,du,dY,aF,bD,aG,bE,bF,aH,ct,aa,ab,a1⟩ p ek c3 c8 dX
   have p : sort_breakPatterns_func_b1 Tx k u q i c D = some bi := p
   refine fl_seq (fun el c4 c9=>?_)
   obtain ⟨P,de,p⟩ := obind p
   refine rq_seq 54 dK [0,0,0,4,12,30,62,127] [dv [] [9] 26 (Zi c),dv [] [1] 27 (Zi k),dv [] [6] 28 (Zi (sb u k)),dv [2] [] 29 (Zi P),dv [3] [] 30 (Zi (ml P 2)),dv [1,4] [] 31 (Zi (ad k (ml P 2))),dv [5] [] 32 (Zi (ad (ad k (ml P 2)) 1)),dv [0,6] [] 33 (.bool (decide (c ≤ (ad (ad k (ml P 2)) 1))))] dY du ?_ ?_
   ·exact sM aH<|sM aF<|sM aG<|sF (fun f=>or_quo f.1 rfl de)<|sF (fun f=>or_mul f.1 rfl rfl)<|sF (fun f=>or_add f.1 f.2.1 rfl)<|sF (fun f=>or_add f.1 rfl rfl)<|sF (fun f=>or_leq f.1 f.2.1 rfl)<|steps_nil
   intro cn et eE cf dZ cW cL aw
   obtain ⟨bG,bH,bI,aI,aJ,bJ⟩ := kt6 cW aF bD aG bE bF aH
   have a8 := gv (cL [7] rfl) rfl
   have bf := Evo.step ct d aw rfl
   obtain ⟨ae,af⟩ := be2 aw aa ab
   have K := SoO.evo (by decide) aw a1
   refine fl_cond a8 p (fun dm p=>?_) (fun dm p=>?_)
   ·refine fl_skip ?_
    refine c4 _ _ ?_
    refine fl_seq (fun em c5 ee=>?_)
    refine fl_block (fun en c6 eh ef=>?_)
    obtain ⟨t,db,p⟩ := obind p
    obtain ⟨C,df,p⟩ := obind p
    refine rr_seq 54 [Fct.at_ 148 o 139 #[.int .u64 i]] cn [148] [0,0,2,7,15,31] [⟨[6],[7],[148],Fct.mems [187] 36 (fun (_ : Unit)=>.int .u64 t.1) (fun (_ : Unit) own w=>BlkO own 187 w o 139 #[.int .u64 t.2]) (fun hk he h=>BlkO.evo (not_hit hk (by decide)) he h)⟩,dv [] [8] 37 (.int .u64 q),dv [1] [] 38 (.int .u64 (sbK .u64 q 1)),dv [0,2] [] 39 (.int .u64 (anK .u64 t.1 (sbK .u64 q 1))),dv [3] [] 40 (Zi C),dv [4] [] 10 (Zi C)] dZ cf (fm1 af) ?_ ?_
    ·refine sc (fun own a wx hf cc hE=>?_) ?_
     ·obtain ⟨v,-⟩ := hf
      obtain ⟨ei,-⟩ := cc
      exact px (or_call cf85 (args1 (ei.trans aI)) (sort_xorshift_Next_w _ (forth own (look0 [(148,1)])) i o 139 (look0_le rfl) (BlkO.forth_ (m := (look0 [(148,1)])) v) t db) (post_mems0 (m := (look0 [(148,1)])) (m' := (look0 [(1,187)])) (hm_of rfl) (fun aU w' a' h1 h=>⟨(),h1,BlkO.back_ h (by decide)⟩)))
     refine sM aJ<|sF (fun f=>or_sub f.1 rfl rfl) ?_
     refine sc (fun own a wx hf cc hE=>?_) ?_
     ·obtain ⟨⟨_,ch,v⟩,dC,-⟩ := hf
      exact px (or_band ch dC rfl)
     exact sF (fun f=>or_conv f.1 tn104 tn3 (osome df).symm)<|sA<|steps_nil
    intro co dj dP dw d1 cX bh ax
    obtain ⟨bK,bL,aK,bM,bN,bO⟩ := kt6 cX bG bH bI aI aJ bJ
    have M := gv (bh [5] rfl) rfl
    obtain ⟨⟨_,(ch : dj.eval (.tmp 36) = .int .u64 t.1),(ah : BlkO co 187 dP o 139 #[.int .u64 t.2])⟩,-⟩ := bh [0] rfl
    have cA := Evo.step bf d ax rfl
    have ag := be_ ax ae
    have a2 := SoO.evo (by decide) ax K
    refine fl_seq (fun dg c7 eg=>?_)
    have cd : ∀ (l : Act) (F : World) (E : Own) (j : Int),l.defers = [] → l.tmps.size = 54 → l.eval (.tmp 1) = Zi k → l.eval (.tmp 3) = pt B 0 → l.eval (.tmp 6) = Zi (sb u k) → l.eval (.tmp 7) = pt o 0 → l.eval (.tmp 8) = .int .u64 q → l.eval (.tmp 9) = Zi c → l.eval (.tmp 10) = Zi j → Evo [1] own E w F → BlkO E 109 F B 122 #[.func (.func 48) #[] #[ca],.func (.func 71) #[] #[sv,th]] → BlkO E 187 F o 139 #[.int .u64 t.2] → SoO Jx E 152 F D → sort_breakPatterns_func_k2 Tx k c D t j = some bi → dg .normal l F := by
     intro l F E j dx d2 aL aM bP bQ bR aN a9 cu x ai a3 p
     refine c7 _ _ ?_
     obtain ⟨cj,c2,p⟩ := obind p
     refine rr 54 [Fct.soAt Jx 152 D] E [152] [0,1,0,0,0,24,63] [dv [] [3] 47 (pt B 1),dv [0] [] 48 (.func (.func 71) #[] #[sv,th]),dv [] [9] 49 (Zi c),dv [] [1] 50 (Zi k),dv [] [10] 51 (Zi j),dv [3,4] [] 52 (Zi (ad k j)),⟨[1,2,5,7],[],[152],Fct.so Jx 198 53 cj⟩] d2 dx (fm1 a3) ?_ ?_
     ·refine sS (fun s=>or_field fo122_1 (s.1.trans aM) (by rfl))<|sG to117 x<|sM aN<|sM aL<|sM a9<|sF (fun f=>or_add f.1 f.2.1 rfl) ?_
      refine sc (fun own a wx hf cc hE=>?_) ?_
      ·obtain ⟨dD,dE,dF,b_Jx,-⟩ := hf
       exact px (or_sswap (lab := 152) (lab2 := 198) dD (args2 dE dF) hS b_Jx (by decide) c2 (mem_of rfl))
      exact steps_nil
     intro cp dk dQ dy d3 cY cM bd
     obtain ⟨bS,bT,bU,bV,bW,bX⟩ := kt6 cY aL aM bP bQ bR aN
     obtain ⟨⟨(ex : dk.eval (.tmp 53) = .tuple #[]),(a4 : SoO Jx cp 198 dQ cj)⟩,-⟩ := cM [6] rfl
     have cB := Evo.step cu d bd rfl
     obtain ⟨aj,ak⟩ := be2 bd x ai
     refine c6 _ _ ?_
     refine c5 _ _ ?_
     refine rq 54 cp (bz 3) [dv [] [9] 34 (Zi c),dv [0] [] 35 (Zi (ad c 1)),dv [1] [] 9 (Zi (ad c 1))] d3 dy ?_ ?_
     ·exact sM bX<|sF (fun f=>or_add f.1 rfl rfl)<|sA<|steps_nil
     intro dL eu eF dz d4 cZ cN ay
     obtain ⟨bY,bZ,b0,b1,b3⟩ := kt5 cZ bS bT bU bV bW
     have b4 := gv (cN [2] rfl) rfl
     have cC := Evo.step cB d ay rfl
     obtain ⟨al,am⟩ := be2 ay aj ak
     have a5 := SoO.evo (by decide) ay a4
     exact c3 _ _ _ p ⟨(rl [(187,148),(198,152)] dL),dz,d4,bY,bZ,b0,b1,b3,b4,(Evo.rl_ cC d rfl),(BlkO.rl_ al),(BlkO.rl_ am),(SoO.rl_ a5)⟩
    refine rq_seq 54 co [0,0,3] [dv [] [10] 41 (Zi C),dv [] [6] 42 (Zi (sb u k)),dv [0,1] [] 43 (.bool (decide ((sb u k) ≤ C)))] d1 dw ?_ ?_
    ·exact sM M<|sM aK<|sF (fun f=>or_geq f.1 f.2.1 rfl)<|steps_nil
    intro cq ev eG cg cs c0 cO H
    obtain ⟨aO,aP,G,aQ,aR,aS,N⟩ := kt7 c0 bK bL aK bM bN bO M
    have ba := gv (cO [2] rfl) rfl
    have bg := Evo.step cA d H rfl
    have y := be_ H ag
    have L := SoO.evo (by decide) H a2
    have A := be_ H ah
    refine fl_cond ba p (fun dn p=>?_) (fun dn p=>?_)
    ·refine rq 54 cq [0,0,3,7] [dv [] [10] 44 (Zi C),dv [] [6] 45 (Zi (sb u k)),dv [0,1] [] 46 (Zi (sb C (sb u k))),dv [2] [] 10 (Zi (sb C (sb u k)))] cs cg ?_ ?_
     ·exact sM N<|sM G<|sF (fun f=>or_sub f.1 f.2.1 rfl)<|sA<|steps_nil
     intro dM ew eH dA d5 c1 cP I
     obtain ⟨b5,b6,b7,b8,b9,cb⟩ := kt6 c1 aO aP G aQ aR aS
     have bb := gv (cP [3] rfl) rfl
     have cD := Evo.step bg d I rfl
     have an := be_ I y
     have a6 := SoO.evo (by decide) I L
     have ao := be_ I A
     exact (cd _ _ dM _ dA d5 b5 b6 b7 b8 b9 cb bb cD an ao a6 p)
    refine fl_skip ?_
    exact (cd _ _ cq _ cg cs aO aP G aQ aR aS N bg y A L p)
   refine fl_exit ?_
   refine c9 _ _ _ rfl ?_
   replace p := dX _ p
   refine c8 _ _ _ rfl ?_
   refine dd _ _ ?_
   obtain rfl := (osome p).symm
   exact ci _ _ _ _ (.inr rfl) cf (results0_ rfl ) ⟨(rl [(152,1)] cn),rfl,(Evo.rl_ bf d rfl),(SoO.rl_ K)⟩
 refine fl_skip ?_
 obtain rfl := (osome p).symm
 exact ci _ _ _ _ (.inr rfl) ce (results0_ rfl ) ⟨cl,rfl,be,J⟩
end Go.Proofs.Ytnmkonlfnpcoiaa
