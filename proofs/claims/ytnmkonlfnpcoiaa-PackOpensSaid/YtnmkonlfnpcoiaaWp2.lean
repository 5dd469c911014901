import Derived.Test.YtnmkonlfnpcoiaaWp1
import Derived.Test.YtnmkonlfnpcoiaaSp2
namespace Go.Proofs.Ytnmkonlfnpcoiaa
open Go.RowKit
set_option linter.unusedVariables false
set_option maxRecDepth 10000
theorem sort_order2_func_w (w : World) (own : Own) (Tx : Type) (lf : List Tx → Int → Int → Option Bool) (ca : Value) (sv : Value) (th : Value) (l0 : List Tx) (Jx : Sj (List Tx)) (x1 : Int) (S : Int) (d : Int) (c : Nat) (h : TypeId) (k : ∀ b,own b ≤ 2) (hL : LessS Try.prog 48 ca lf Jx) (hS : SwapS Try.prog 71 sv th Jx) (hJx : SoO Jx own 1 w l0) (y : BlkO own 2 w c h #[Zi d]) (r : Int × Int × Int × (List Tx)) (hs : sort_order2_func Tx lf l0 x1 S d = some r) :
  Calls Try.prog 88 #[.agg #[.func (.func 48) #[] #[ca],.func (.func 71) #[] #[sv,th]],Zi x1,Zi S,pt c 0] w fun e w'=>∃ (x : Own),e = .returned (.tuple #[Zi r.1,Zi r.2.1]) ∧ Evo [1,2] own x w w' ∧ BlkO x 2 w' c h #[Zi r.2.2.1] ∧ SoO Jx x 1 w' r.2.2.2 := by
 refine fl_enter (n := 24) rfl rfl rfl (Nat.le_of_ble_eq_true rfl) ?_
 intro a0 Q d0 z0 q R
 have aS := q 0 _ rfl
 have aT := q 1 _ rfl
 have aU := q 2 _ rfl
 have aV := q 3 _ rfl
 clear q
 have aR : Evo [1,2] own own w w := Evo.refl _ _ _
 refine rq_seq 24 own [0,0,2] [⟨[],[0],[],Fct.blk 25 4 (fun g=>pt g 0) 122 #[.func (.func 48) #[] #[ca],.func (.func 71) #[] #[sv,th]]⟩,dv [] [] 8 (Zi 0),dv [] [] 9 (Zi 0)] z0 d0 ?_ ?_
 ·exact sS (fun s=>nw1 (s.1.trans aS))<|sO (or_assign rfl)<|sO (or_assign rfl)<|steps_nil
 intro aC aH a1 aK a3 av aq E
 obtain ⟨A,B,T⟩ := kt3 av aT aU aV
 obtain ⟨⟨ae,(U : aH.eval (.tmp 4) = pt ae 0),(z : BlkO aC 25 a1 ae 122 #[.func (.func 48) #[] #[ca],.func (.func 71) #[] #[sv,th]])⟩,-⟩ := aq [0] rfl
 have al := Evo.step aR k E rfl
 have u := SoO.evo (by decide) E hJx
 have l := be_ E y
 refine fl_seq (fun a7 aA aB=>?_)
 obtain ⟨aI,ap,hs⟩ := obind hs
 refine rq_seq 24 aC [0,1,0,0,15] [dv [] [4] 10 (pt ae 0),dv [0] [] 11 (.func (.func 48) #[] #[ca]),dv [] [2] 12 (Zi S),dv [] [1] 13 (Zi x1),dv [1,2,3] [] 14 (.bool aI)] a3 aK ?_ ?_
 ·exact sS (fun s=>or_field fo122_0 (s.1.trans U) (by rfl))<|sG to100 z<|sM B<|sM A<|sFE (fun f hE=>or_callf cf48 f.1 (args2 f.2.1 f.2.2.1) rfl (hL _ _ _ _ _ _ _ (SoO.evo (by decide) hE u) ap) post_val)<|steps_nil
 intro aD a8 bd ah aF aw ar F
 obtain ⟨C,D,t⟩ := kt3 aw A B T
 have L := gv (ar [4] rfl) rfl
 have N := Evo.step al k F rfl
 have v := SoO.evo (by decide) F u
 have j := be_ F l
 refine fl_cond L hs (fun aJ hs=>?_) (fun aJ hs=>?_)
 ·refine rr_seq 24 [Fct.at_ 2 c h #[Zi d]] aD [2] (bz 6) [dv [] [3] 15 (pt c 0),dv [0] [] 16 (pt c 0),dv [1,6] [] 17 (Zi d),dv [2] [] 18 (Zi (ad d 1)),dv [0] [] 19 (pt c 0),⟨[4,3,6],[],[2],Fct.at_ 31 c h #[Zi (ad d 1)]⟩] aF ah (fm1 j) ?_ ?_
  ·refine sM t<|sF (fun f=>ok1 f.1) ?_
   refine sc (fun own a wx hf aX hE=>?_) ?_
   ·obtain ⟨ai,(i : BlkO own 2 wx c h #[Zi d]),-⟩ := hf
    exact px (ld1 to3 ai i)
   refine sF (fun f=>or_add f.1 rfl rfl)<|sF (fun f=>ok1 f.1) ?_
   refine sc (fun own a wx hf aX hE=>?_) ?_
   ·obtain ⟨ak,aj,i,-⟩ := hf
    exact px (or_store1 (lab := 2) (lab2 := 31) ts3 ak aj i (by simp) rfl (mem_of rfl) (by decide) rfl (fun x a' w' ha hb=>hb))
   exact steps_nil
  intro aE a9 a2 aL a4 ax au M
  obtain ⟨V,W,X⟩ := kt3 ax C D t
  obtain ⟨(m : BlkO aE 31 a2 c h #[Zi (ad d 1)]),-⟩ := au [5] rfl
  have am := Evo.step N k M rfl
  have I := SoO.evo (by decide) M v
  refine rq_seq 24 aE [0,0,1,7] [dv [] [2] 20 (Zi S),dv [] [1] 21 (Zi x1),dv [0] [] 8 (Zi S),dv [1] [] 9 (Zi x1)] a4 aL ?_ ?_
  ·exact sM W<|sM V<|sA<|sA<|steps_nil
  intro aY ba be aM bh ay O G
  have aO := kt ay X
  have Y := gv (O [2] rfl) rfl
  have Z := gv (O [3] rfl) rfl
  have an := Evo.step am k G rfl
  have J := SoO.evo (by decide) G I
  have o := be_ G m
  refine fl_ret ?_
  refine aB _ _ _ rfl ?_
  obtain rfl := osome hs
  exact R _ _ _ _ (.inl rfl) aM (results2_ rfl (RVal.tmp_ Y) (RVal.tmp_ Z)) ⟨(rl [(31,2)] aY),rfl,(Evo.rl_ an k rfl),(BlkO.rl_ o),(SoO.rl_ J)⟩
 refine fl_skip ?_
 refine aA _ _ ?_
 refine rq_seq 24 aD [0,0,1,7] [dv [] [1] 22 (Zi x1),dv [] [2] 23 (Zi S),dv [0] [] 8 (Zi x1),dv [1] [] 9 (Zi S)] aF ah ?_ ?_
 ·exact sM C<|sM D<|sA<|sA<|steps_nil
 intro aZ bb bf aN bi az P H
 have aP := kt az t
 have aa := gv (P [2] rfl) rfl
 have ab := gv (P [3] rfl) rfl
 have ao := Evo.step N k H rfl
 have K := SoO.evo (by decide) H v
 have p := be_ H j
 refine fl_ret ?_
 obtain rfl := osome hs
 exact R _ _ _ _ (.inl rfl) aN (results2_ rfl (RVal.tmp_ aa) (RVal.tmp_ ab)) ⟨aZ,rfl,ao,p,K⟩
theorem sort_median_func_w (w : World) (own : Own) (Tx : Type) (lf : List Tx → Int → Int → Option Bool) (ca : Value) (sv : Value) (th : Value) (l0 : List Tx) (Jx : Sj (List Tx)) (x1 : Int) (b2 : Int) (c3 : Int) (o : Int) (c : Nat) (d : TypeId) (q : ∀ b,own b ≤ 2) (hL : LessS Try.prog 48 ca lf Jx) (hS : SwapS Try.prog 71 sv th Jx) (hJx : SoO Jx own 1 w l0) (C : BlkO own 2 w c d #[Zi o]) (r : Int × Int × (List Tx)) (hs : sort_median_func Tx lf l0 x1 b2 c3 o = some r) :
  Calls Try.prog 87 #[.agg #[.func (.func 48) #[] #[ca],.func (.func 71) #[] #[sv,th]],Zi x1,Zi b2,Zi c3,pt c 0] w fun e w'=>∃ (t : Own),e = .returned (Zi r.1) ∧ Evo [1,2] own t w w' ∧ BlkO t 2 w' c d #[Zi r.2.1] ∧ SoO Jx t 1 w' r.2.2 := by
 refine fl_enter (n := 36) rfl rfl rfl (Nat.le_of_ble_eq_true rfl) ?_
 intro a0 Q d0 z0 p a3
 have bo := p 0 _ rfl
 have bp := p 1 _ rfl
 have bq := p 2 _ rfl
 have br := p 3 _ rfl
 have bs := p 4 _ rfl
 clear p
 have bn : Evo [1,2] own own w w := Evo.refl _ _ _
 refine rq_seq 36 own [0,0] [⟨[],[0],[],Fct.blk 30 5 (fun g=>pt g 0) 122 #[.func (.func 48) #[] #[ca],.func (.func 71) #[] #[sv,th]]⟩,dv [] [] 10 (Zi 0)] z0 d0 ?_ ?_
 ·exact sS (fun s=>nw1 (s.1.trans bo))<|sO (or_assign rfl)<|steps_nil
 intro a4 bd bu bh bv aU aS J
 obtain ⟨af,ag,ah,E⟩ := kt4 aU bp bq br bs
 obtain ⟨⟨aJ,(F : bd.eval (.tmp 5) = pt aJ 0),(A : BlkO a4 30 bu aJ 122 #[.func (.func 48) #[] #[ca],.func (.func 71) #[] #[sv,th]])⟩,-⟩ := aS [0] rfl
 have aN := Evo.step bn q J rfl
 have O := SoO.evo (by decide) J hJx
 have u := be_ J C
 obtain ⟨j,aZ,hs⟩ := obind hs
 refine rr_seq 36 [Fct.soAt Jx 1 l0,Fct.at_ 2 c d #[Zi o]] a4 [1,2] [0,0,0,0,15,31,63,63,127,511] [dv [] [5] 12 (.agg #[.func (.func 48) #[] #[ca],.func (.func 71) #[] #[sv,th]]),dv [] [1] 13 (Zi x1),dv [] [2] 14 (Zi b2),dv [] [4] 15 (pt c 0),⟨[0,1,2,3,10,11],[],[1,2],Fct.mems [33,34] 16 (fun (_ : Unit)=>.tuple #[Zi j.1,Zi j.2.1]) (fun (_ : Unit) own w=>BlkO own 33 w c d #[Zi j.2.2.1] ∧ SoO Jx own 34 w j.2.2.2) (fun hk he h=>⟨BlkO.evo (not_hit hk (by decide)) he h.1,SoO.evo (not_hit hk (by decide)) he h.2⟩)⟩,dv [4] [] 11 (.tuple #[Zi j.1,Zi j.2.1]),dv [5] [] 17 (Zi j.1),dv [5] [] 18 (Zi j.2.1),dv [6] [] 1 (Zi j.1),dv [7] [] 2 (Zi j.2.1)] bv bh (fm2 O u) ?_ ?_
 ·refine sL ta122 F A<|sM af<|sM ag<|sM E ?_
  refine sc (fun own a wx L N hE=>?_) ?_
  ·obtain ⟨ax,ay,az,aA,b_Jx,i,-⟩ := L
   exact px (or_call cf88 (args4 ax ay az aA) (sort_order2_func_w _ (forth own (look0 [(1,1),(2,2)])) Tx lf ca sv th l0 Jx x1 b2 o c d (look0_le rfl) hL hS (SoO.forth_ (m := (look0 [(1,1),(2,2)])) b_Jx) (BlkO.forth_ (m := (look0 [(1,1),(2,2)])) i) j aZ) (post_mems0 (m := (look0 [(1,1),(2,2)])) (m' := (look0 [(1,34),(2,33)])) (hm_of rfl) (fun t w' a' h1 h=>⟨(),h1,⟨BlkO.back_ h.1 (by decide),SoO.back_ h.2 (by decide)⟩⟩)))
  refine sc (fun own a wx L N hE=>?_) ?_
  ·obtain ⟨⟨_,V,i,b_Jx⟩,-⟩ := L
   exact px (or_move V)
  exact sF (fun f=>ok1 f.1)<|sF (fun f=>ok1 f.1)<|sA<|sA<|steps_nil
 intro ar be a5 bi bw aV M Y
 obtain ⟨ak,G,H⟩ := kt3 aV ah E F
 have ai := gv (M [8] rfl) rfl
 have aj := gv (M [9] rfl) rfl
 obtain ⟨⟨_,(V : be.eval (.tmp 16) = .tuple #[Zi j.1,Zi j.2.1]),(v : BlkO ar 33 a5 c d #[Zi j.2.2.1]),(P : SoO Jx ar 34 a5 j.2.2.2)⟩,-⟩ := M [4] rfl
 have aO := Evo.step aN q Y rfl
 have B := be_ Y A
 obtain ⟨k,a1,hs⟩ := obind hs
 refine rr_seq 36 [Fct.soAt Jx 34 j.2.2.2,Fct.at_ 33 c d #[Zi j.2.2.1]] ar [34,33] [0,0,0,0,15,31,63,63,127,511] [dv [] [5] 20 (.agg #[.func (.func 48) #[] #[ca],.func (.func 71) #[] #[sv,th]]),dv [] [2] 21 (Zi j.2.1),dv [] [3] 22 (Zi c3),dv [] [4] 23 (pt c 0),⟨[0,1,2,3,10,11],[],[34,33],Fct.mems [37,38] 24 (fun (_ : Unit)=>.tuple #[Zi k.1,Zi k.2.1]) (fun (_ : Unit) own w=>BlkO own 37 w c d #[Zi k.2.2.1] ∧ SoO Jx own 38 w k.2.2.2) (fun hk he h=>⟨BlkO.evo (not_hit hk (by decide)) he h.1,SoO.evo (not_hit hk (by decide)) he h.2⟩)⟩,dv [4] [] 19 (.tuple #[Zi k.1,Zi k.2.1]),dv [5] [] 25 (Zi k.1),dv [5] [] 26 (Zi k.2.1),dv [6] [] 2 (Zi k.1),dv [7] [] 3 (Zi k.2.1)] bw bi (fm2 P v) ?_ ?_
 ·refine sL ta122 H B<|sM aj<|sM ak<|sM G ?_
  refine sc (fun own a wx L N hE=>?_) ?_
  ·obtain ⟨aB,aC,aD,aE,b_Jx,i,-⟩ := L
   exact px (or_call cf88 (args4 aB aC aD aE) (sort_order2_func_w _ (forth own (look0 [(33,2),(34,1)])) Tx lf ca sv th j.2.2.2 Jx j.2.1 c3 j.2.2.1 c d (look0_le rfl) hL hS (SoO.forth_ (m := (look0 [(33,2),(34,1)])) b_Jx) (BlkO.forth_ (m := (look0 [(33,2),(34,1)])) i) k a1) (post_mems0 (m := (look0 [(33,2),(34,1)])) (m' := (look0 [(1,38),(2,37)])) (hm_of rfl) (fun t w' a' h1 h=>⟨(),h1,⟨BlkO.back_ h.1 (by decide),SoO.back_ h.2 (by decide)⟩⟩)))
  refine sc (fun own a wx L N hE=>?_) ?_
  ·obtain ⟨⟨_,W,i,b_Jx⟩,-⟩ := L
   exact px (or_move W)
  exact sF (fun f=>ok1 f.1)<|sF (fun f=>ok1 f.1)<|sA<|sA<|steps_nil
 intro au bf a6 bj bx aW ab Z
 obtain ⟨al,I,an⟩ := kt3 aW ai G H
 have am := gv (ab [8] rfl) rfl
 obtain ⟨⟨_,(W : bf.eval (.tmp 24) = .tuple #[Zi k.1,Zi k.2.1]),(x : BlkO au 37 a6 c d #[Zi k.2.2.1]),(R : SoO Jx au 38 a6 k.2.2.2)⟩,-⟩ := ab [4] rfl
 have aP := Evo.step aO q Z rfl
 have D := be_ Z B
 obtain ⟨l,a2,hs⟩ := obind hs
 refine rr_seq 36 [Fct.soAt Jx 38 k.2.2.2,Fct.at_ 37 c d #[Zi k.2.2.1]] au [38,37] [0,0,0,0,15,31,63,63,127,511] [dv [] [5] 28 (.agg #[.func (.func 48) #[] #[ca],.func (.func 71) #[] #[sv,th]]),dv [] [1] 29 (Zi j.1),dv [] [2] 30 (Zi k.1),dv [] [4] 31 (pt c 0),⟨[0,1,2,3,10,11],[],[38,37],Fct.mems [41,42] 32 (fun (_ : Unit)=>.tuple #[Zi l.1,Zi l.2.1]) (fun (_ : Unit) own w=>BlkO own 41 w c d #[Zi l.2.2.1] ∧ SoO Jx own 42 w l.2.2.2) (fun hk he h=>⟨BlkO.evo (not_hit hk (by decide)) he h.1,SoO.evo (not_hit hk (by decide)) he h.2⟩)⟩,dv [4] [] 27 (.tuple #[Zi l.1,Zi l.2.1]),dv [5] [] 33 (Zi l.1),dv [5] [] 34 (Zi l.2.1),dv [6] [] 1 (Zi l.1),dv [7] [] 2 (Zi l.2.1)] bx bj (fm2 R x) ?_ ?_
 ·refine sL ta122 an D<|sM al<|sM am<|sM I ?_
  refine sc (fun own a wx L N hE=>?_) ?_
  ·obtain ⟨aF,aG,aH,aI,b_Jx,i,-⟩ := L
   exact px (or_call cf88 (args4 aF aG aH aI) (sort_order2_func_w _ (forth own (look0 [(37,2),(38,1)])) Tx lf ca sv th k.2.2.2 Jx j.1 k.1 k.2.2.1 c d (look0_le rfl) hL hS (SoO.forth_ (m := (look0 [(37,2),(38,1)])) b_Jx) (BlkO.forth_ (m := (look0 [(37,2),(38,1)])) i) l a2) (post_mems0 (m := (look0 [(37,2),(38,1)])) (m' := (look0 [(1,42),(2,41)])) (hm_of rfl) (fun t w' a' h1 h=>⟨(),h1,⟨BlkO.back_ h.1 (by decide),SoO.back_ h.2 (by decide)⟩⟩)))
  refine sc (fun own a wx L N hE=>?_) ?_
  ·obtain ⟨⟨_,X,i,b_Jx⟩,-⟩ := L
   exact px (or_move X)
  exact sF (fun f=>ok1 f.1)<|sF (fun f=>ok1 f.1)<|sA<|sA<|steps_nil
 intro av bg a7 bk bA aX ad aM
 have ap := kt aX I
 have ao := gv (ad [9] rfl) rfl
 obtain ⟨⟨_,(X : bg.eval (.tmp 32) = .tuple #[Zi l.1,Zi l.2.1]),(y : BlkO av 41 a7 c d #[Zi l.2.2.1]),(S : SoO Jx av 42 a7 l.2.2.2)⟩,-⟩ := ad [4] rfl
 have aQ := Evo.step aP q aM rfl
 refine rq_seq 36 av (bz 2) [dv [] [2] 35 (Zi l.2.1),dv [0] [] 10 (Zi l.2.1)] bA bk ?_ ?_
 ·exact sM ao<|sA<|steps_nil
 intro bt bC bD bl bF aY aT K
 have bm := kt aY ap
 have U := gv (aT [1] rfl) rfl
 have aR := Evo.step aQ q K rfl
 have T := SoO.evo (by decide) K S
 have z := be_ K y
 refine fl_ret ?_
 obtain rfl := osome hs
 exact a3 _ _ _ _ (.inl rfl) bl (results1_ rfl (RVal.tmp_ U)) ⟨(rl [(41,2),(42,1)] bt),rfl,(Evo.rl_ aR q rfl),(BlkO.rl_ z),(SoO.rl_ T)⟩
theorem sort_medianAdjacent_func_w (w : World) (own : Own) (Tx : Type) (lf : List Tx → Int → Int → Option Bool) (ca : Value) (sv : Value) (th : Value) (X : List Tx) (Jx : Sj (List Tx)) (A : Int) (i : Int) (c : Nat) (d : TypeId) (z : ∀ b,own b ≤ 2) (hL : LessS Try.prog 48 ca lf Jx) (hS : SwapS Try.prog 71 sv th Jx) (hJx : SoO Jx own 1 w X) (u : BlkO own 2 w c d #[Zi i]) (r : Int × Int × (List Tx)) (hs : sort_medianAdjacent_func Tx lf X A i = some r) :
  Calls Try.prog 86 #[.agg #[.func (.func 48) #[] #[ca],.func (.func 71) #[] #[sv,th]],Zi A,pt c 0] w fun e Y=>∃ (t : Own),e = .returned (Zi r.1) ∧ Evo [1,2] own t w Y ∧ BlkO t 2 Y c d #[Zi r.2.1] ∧ SoO Jx t 1 Y r.2.2 := by
 refine fl_enter (n := 15) rfl rfl rfl (Nat.le_of_ble_eq_true rfl) ?_
 intro a0 Q d0 z0 q U
 have aj := q 0 _ rfl
 have ak := q 1 _ rfl
 have al := q 2 _ rfl
 clear q
 have ai : Evo [1,2] own own w w := Evo.refl _ _ _
 refine rq_seq 15 own [0,0] [⟨[],[0],[],Fct.blk 21 3 (fun g=>pt g 0) 122 #[.func (.func 48) #[] #[ca],.func (.func 71) #[] #[sv,th]]⟩,dv [] [] 6 (Zi 0)] z0 d0 ?_ ?_
 ·exact sS (fun s=>nw1 (s.1.trans aj))<|sO (or_assign rfl)<|steps_nil
 intro V Z ap ab aq R P y
 obtain ⟨p,x⟩ := kt2 R ak al
 obtain ⟨⟨L,(F : Z.eval (.tmp 3) = pt L 0),(v : BlkO V 21 ap L 122 #[.func (.func 48) #[] #[ca],.func (.func 71) #[] #[sv,th]])⟩,-⟩ := P [0] rfl
 have N := Evo.step ai z y rfl
 have B := SoO.evo (by decide) y hJx
 have k := be_ y u
 obtain ⟨o,T,hs⟩ := obind hs
 refine rr_seq 15 [Fct.soAt Jx 1 X,Fct.at_ 2 c d #[Zi i]] V [1,2] [0,0,2,0,0,16,0,127,255] [dv [] [3] 7 (.agg #[.func (.func 48) #[] #[ca],.func (.func 71) #[] #[sv,th]]),dv [] [1] 8 (Zi A),dv [1] [] 9 (Zi (sb A 1)),dv [] [1] 10 (Zi A),dv [] [1] 11 (Zi A),dv [4] [] 12 (Zi (ad A 1)),dv [] [2] 13 (pt c 0),⟨[0,2,3,5,6,9,10],[],[1,2],Fct.mems [24,25] 14 (fun (_ : Unit)=>Zi o.1) (fun (_ : Unit) own w=>BlkO own 24 w c d #[Zi o.2.1] ∧ SoO Jx own 25 w o.2.2) (fun hk he h=>⟨BlkO.evo (not_hit hk (by decide)) he h.1,SoO.evo (not_hit hk (by decide)) he h.2⟩)⟩,dv [7] [] 6 (Zi o.1)] aq ab (fm2 B k) ?_ ?_
 ·refine sL ta122 F v<|sM p<|sF (fun f=>or_sub f.1 rfl rfl)<|sM p<|sM p<|sF (fun f=>or_add f.1 rfl rfl)<|sM x ?_
  refine sc (fun own a wx hf ao hE=>?_) ?_
  ·obtain ⟨ag,ah,I,J,K,b_Jx,j,-⟩ := hf
   exact px (or_call cf87 (args5 ag ah I J K) (sort_median_func_w _ (forth own (look0 [(1,1),(2,2)])) Tx lf ca sv th X Jx (sb A 1) A (ad A 1) i c d (look0_le rfl) hL hS (SoO.forth_ (m := (look0 [(1,1),(2,2)])) b_Jx) (BlkO.forth_ (m := (look0 [(1,1),(2,2)])) j) o T) (post_mems0 (m := (look0 [(1,1),(2,2)])) (m' := (look0 [(1,25),(2,24)])) (hm_of rfl) (fun t Y a' h1 h=>⟨(),h1,⟨BlkO.back_ h.1 (by decide),SoO.back_ h.2 (by decide)⟩⟩)))
  refine sc (fun own a wx hf ao hE=>?_) ?_
  ·obtain ⟨⟨_,D,j,b_Jx⟩,-⟩ := hf
   exact px (or_assign D)
  exact steps_nil
 intro H aa W ae az S E M
 have af := kt S x
 have G := gv (E [8] rfl) rfl
 obtain ⟨⟨_,(D : aa.eval (.tmp 14) = Zi o.1),(l : BlkO H 24 W c d #[Zi o.2.1]),(C : SoO Jx H 25 W o.2.2)⟩,-⟩ := E [7] rfl
 have O := Evo.step N z M rfl
 refine fl_ret ?_
 obtain rfl := osome hs
 exact U _ _ _ _ (.inl rfl) ae (results1_ rfl (RVal.tmp_ G)) ⟨(rl [(24,2),(25,1)] H),rfl,(Evo.rl_ O z rfl),(BlkO.rl_ l),(SoO.rl_ C)⟩
theorem sort_choosePivot_func_w (w : World) (own : Own) (Tx : Type) (lf : List Tx → Int → Int → Option Bool) (ca : Value) (sv : Value) (th : Value) (l0 : List Tx) (Jx : Sj (List Tx)) (v : Int) (b2 : Int) (c : ∀ b,own b ≤ 1) (hL : LessS Try.prog 48 ca lf Jx) (hS : SwapS Try.prog 71 sv th Jx) (hJx : SoO Jx own 1 w l0) (r : Int × Int × (List Tx)) (p : sort_choosePivot_func Tx lf l0 v b2 = some r) :
  Calls Try.prog 77 #[.agg #[.func (.func 48) #[] #[ca],.func (.func 71) #[] #[sv,th]],Zi v,Zi b2] w fun e w'=>∃ (G : Own),e = .returned (.tuple #[Zi r.1,Zi r.2.1]) ∧ Evo [1] own G w w' ∧ SoO Jx G 1 w' r.2.2 := by
 refine fl_enter (n := 57) rfl rfl rfl (Nat.le_of_ble_eq_true rfl) ?_
 intro a0 Q d0 z0 a1 cc
 have e6 := a1 0 _ rfl
 have e7 := a1 1 _ rfl
 have e8 := a1 2 _ rfl
 clear a1
 have e5 : Evo [1] own own w w := Evo.refl _ _ _
 refine rq_seq 57 own [0,0,2] [⟨[],[0],[],Fct.blk 131 3 (fun g=>pt g 0) 122 #[.func (.func 48) #[] #[ca],.func (.func 71) #[] #[sv,th]]⟩,dv [] [] 6 (Zi 0),dv [] [] 7 (Zi 0)] z0 d0 ?_ ?_
 ·exact sS (fun s=>nw1 (s.1.trans e6))<|sO (or_assign rfl)<|sO (or_assign rfl)<|steps_nil
 intro cT d6 eO eg eQ dD dr bN
 obtain ⟨aM,ci⟩ := kt2 dD e7 e8
 obtain ⟨⟨aZ,(cj : d6.eval (.tmp 3) = pt aZ 0),(ah : BlkO cT 131 eO aZ 122 #[.func (.func 48) #[] #[ca],.func (.func 71) #[] #[sv,th]])⟩,-⟩ := dr [0] rfl
 have dc := Evo.step e5 c bN rfl
 have a3 := SoO.evo (by decide) bN hJx
 refine rq_seq 57 cT [0,0,3,7] [dv [] [2] 13 (Zi b2),dv [] [1] 14 (Zi v),dv [0,1] [] 15 (Zi (sb b2 v)),dv [2] [] 8 (Zi (sb b2 v))] eQ eg ?_ ?_
 ·exact sM ci<|sM aM<|sF (fun f=>or_sub f.1 f.2.1 rfl)<|sA<|steps_nil
 intro eG fh ft eh eR dE ds aC
 obtain ⟨ck,cl⟩ := kt2 dE aM cj
 have cm := gv (ds [3] rfl) rfl
 have dd := Evo.step dc c aC rfl
 have a4 := SoO.evo (by decide) aC a3
 have ai := be_ aC ah
 refine rq_seq 57 eG (bz 1) [⟨[],[],[],Fct.blk 135 9 (fun g=>pt g 0) 3 #[Zi 0]⟩] eR eh ?_ ?_
 ·exact sO (nw0)<|steps_nil
 intro cU d7 eP ei eS dF dt aD
 obtain ⟨aN,cn,aO⟩ := kt3 dF ck cl cm
 obtain ⟨⟨d,(co : d7.eval (.tmp 9) = pt d 0),(ak : BlkO cU 135 eP d 3 #[Zi 0])⟩,-⟩ := dt [0] rfl
 have de := Evo.step dd c aD rfl
 have a5 := SoO.evo (by decide) aD a4
 have aj := be_ aD ai
 obtain ⟨I,dY,p⟩ := obind p
 refine rq_seq 57 cU [0,0,2,6,15,31] [dv [] [1] 16 (Zi v),dv [] [8] 17 (Zi (sb b2 v)),dv [1] [] 18 (Zi I),dv [2] [] 19 (Zi (ml I 1)),dv [0,3] [] 20 (Zi (ad v (ml I 1))),dv [4] [] 10 (Zi (ad v (ml I 1)))] eS ei ?_ ?_
 ·exact sM aN<|sM aO<|sF (fun f=>or_quo f.1 rfl dY)<|sF (fun f=>or_mul f.1 rfl rfl)<|sF (fun f=>or_add f.1 f.2.1 rfl)<|sA<|steps_nil
 intro eH fi fu ej eT dG du aE
 obtain ⟨aP,cp,aQ,cq⟩ := kt4 dG aN cn aO co
 have bj := gv (du [5] rfl) rfl
 have df := Evo.step de c aE rfl
 have a6 := SoO.evo (by decide) aE a5
 obtain ⟨al,am⟩ := be2 aE aj ak
 obtain ⟨J,dZ,p⟩ := obind p
 refine rq_seq 57 eH [0,0,2,6,15,31] [dv [] [1] 21 (Zi v),dv [] [8] 22 (Zi (sb b2 v)),dv [1] [] 23 (Zi J),dv [2] [] 24 (Zi (ml J 2)),dv [0,3] [] 25 (Zi (ad v (ml J 2))),dv [4] [] 11 (Zi (ad v (ml J 2)))] eT ej ?_ ?_
 ·exact sM aP<|sM aQ<|sF (fun f=>or_quo f.1 rfl dZ)<|sF (fun f=>or_mul f.1 rfl rfl)<|sF (fun f=>or_add f.1 f.2.1 rfl)<|sA<|steps_nil
 intro eI fj fv ek eU dH dw aF
 obtain ⟨cr,cs,aR,ct,bk⟩ := kt5 dH aP cp aQ cq bj
 have bl := gv (dw [5] rfl) rfl
 have dg := Evo.step df c aF rfl
 have a7 := SoO.evo (by decide) aF a6
 obtain ⟨an,ao⟩ := be2 aF al am
 obtain ⟨K,d1,p⟩ := obind p
 refine rq_seq 57 eI [0,0,2,6,15,31] [dv [] [1] 26 (Zi v),dv [] [8] 27 (Zi (sb b2 v)),dv [1] [] 28 (Zi K),dv [2] [] 29 (Zi (ml K 3)),dv [0,3] [] 30 (Zi (ad v (ml K 3))),dv [4] [] 12 (Zi (ad v (ml K 3)))] eU ek ?_ ?_
 ·exact sM cr<|sM aR<|sF (fun f=>or_quo f.1 rfl d1)<|sF (fun f=>or_mul f.1 rfl rfl)<|sF (fun f=>or_add f.1 f.2.1 rfl)<|sA<|steps_nil
 intro eJ fk fw el eV dI dx aG
 obtain ⟨cu,aS,cv,bm,bn⟩ := kt5 dI cs aR ct bk bl
 have bo := gv (dx [5] rfl) rfl
 have dh := Evo.step dg c aG rfl
 have a8 := SoO.evo (by decide) aG a7
 obtain ⟨ap,aq⟩ := be2 aG an ao
 refine fl_seq (fun d4 dS fd=>?_)
 have cJ : ∀ (E : Act) (ag : World) (af : Own) (i : Int) (u : Int) (cd : List Tx),E.defers = [] → E.tmps.size = 57 → E.eval (.tmp 9) = pt d 0 → E.eval (.tmp 11) = Zi u → Evo [1] own af w ag → BlkO af 188 ag d 3 #[Zi i] → SoO Jx af 192 ag cd → sort_choosePivot_func_k1 Tx i u cd = some r → d4 .normal E ag := by
  intro E ag af i u cd em eW cw bp c9 ar a9 p
  refine dS _ _ ?_
  refine rq_seq 57 af (bz 1) [dv [] [9] 49 (Zi i)] eW em ?_ ?_
  ·exact sL1 to3 cw ar<|steps_nil
  intro eK fl fx en eX dJ dy bO
  have bq := kt dJ bp
  have S := gv (dy [0] rfl) rfl
  have di := Evo.step c9 c bO rfl
  have ba := SoO.evo (by decide) bO a9
  refine fl_block (fun fg fc ff aK=>?_)
  refine rq_seq 57 eK (bz 2) [dv [] [49] 52 (.bool (decide (i = 0))),dv [0] [] 51 (.bool (decide (i = 0)))] eX en ?_ ?_
  ·exact sS (fun s=>or_eql (s.1.trans S) rfl rfl)<|sA<|steps_nil
  intro cV fm fy cL c3 dK dz bP
  obtain ⟨T,br⟩ := kt2 dK bq S
  have bs := gv (dz [1] rfl) rfl
  have bX := Evo.step di c bP rfl
  have N := SoO.evo (by decide) bP ba
  refine fl_cond bs p (fun ec p=>?_) (fun ec p=>?_)
  ·refine rq_seq 57 cV (bz 3) [dv [] [11] 53 (Zi u),dv [0] [] 6 (Zi u),dv [] [] 7 (Zi 1)] c3 cL ?_ ?_
   ·exact sM T<|sA<|sO (or_assign rfl)<|steps_nil
   intro eL fn fz eo fF e9 b3 bQ
   have cx := gv (b3 [1] rfl) rfl
   have cy := gv (b3 [2] rfl) rfl
   have dj := Evo.step bX c bQ rfl
   have bb := SoO.evo (by decide) bQ N
   refine fl_ret ?_
   refine aK _ _ _ rfl ?_
   obtain rfl := osome p
   exact cc _ _ _ _ (.inl rfl) eo (results2_ rfl (RVal.tmp_ cx) (RVal.tmp_ cy)) ⟨(rl [(192,1)] eL),rfl,(Evo.rl_ dj c rfl),(SoO.rl_ bb)⟩
  refine rq_seq 57 cV (bz 2) [dv [] [49] 55 (.bool (decide (i = 12))),dv [0] [] 54 (.bool (decide (i = 12)))] c3 cL ?_ ?_
  ·exact sS (fun s=>or_eql (s.1.trans br) rfl rfl)<|sA<|steps_nil
  intro cW fo fA cM c4 dL dA bR
  have U := kt dL T
  have bt := gv (dA [1] rfl) rfl
  have bY := Evo.step bX c bR rfl
  have O := SoO.evo (by decide) bR N
  refine fl_cond bt p (fun ed p=>?_) (fun ed p=>?_)
  ·refine rq_seq 57 cW (bz 3) [dv [] [11] 56 (Zi u),dv [0] [] 6 (Zi u),dv [] [] 7 (Zi 2)] c4 cM ?_ ?_
   ·exact sM U<|sA<|sO (or_assign rfl)<|steps_nil
   intro eM fp fB ep fG fa b4 bS
   have cz := gv (b4 [1] rfl) rfl
   have cA := gv (b4 [2] rfl) rfl
   have dk := Evo.step bY c bS rfl
   have bc := SoO.evo (by decide) bS O
   refine fl_ret ?_
   refine aK _ _ _ rfl ?_
   obtain rfl := osome p
   exact cc _ _ _ _ (.inl rfl) ep (results2_ rfl (RVal.tmp_ cz) (RVal.tmp_ cA)) ⟨(rl [(192,1)] eM),rfl,(Evo.rl_ dk c rfl),(SoO.rl_ bc)⟩
  refine rq_seq 57 cW (bz 3) [dv [] [11] 50 (Zi u),dv [0] [] 6 (Zi u),dv [] [] 7 (Zi 0)] c4 cM ?_ ?_
  ·exact sM U<|sA<|sO (or_assign rfl)<|steps_nil
  intro eN fq fC eq fH fb b5 bT
  have cB := gv (b5 [1] rfl) rfl
  have cC := gv (b5 [2] rfl) rfl
  have dl := Evo.step bY c bT rfl
  have bd := SoO.evo (by decide) bT O
  refine fl_ret ?_
  refine aK _ _ _ rfl ?_
  obtain rfl := osome p
  exact cc _ _ _ _ (.inl rfl) eq (results2_ rfl (RVal.tmp_ cB) (RVal.tmp_ cC)) ⟨(rl [(192,1)] eN),rfl,(Evo.rl_ dl c rfl),(SoO.rl_ bd)⟩
 refine rq_seq 57 eJ (bz 2) [dv [] [8] 31 (Zi (sb b2 v)),dv [0] [] 32 (.bool (decide (8 ≤ (sb b2 v))))] eV el ?_ ?_
 ·exact sM aS<|sF (fun f=>or_geq f.1 rfl rfl)<|steps_nil
 intro cX fr fD cN c5 dM dB aH
 obtain ⟨cD,cE,aT,bu,V,bv⟩ := kt6 dM cu aS cv bm bn bo
 have bw := gv (dB [1] rfl) rfl
 have bZ := Evo.step dh c aH rfl
 have P := SoO.evo (by decide) aH a8
 obtain ⟨au,z⟩ := be2 aH ap aq
 refine fl_cond bw p (fun ee p=>?_) (fun ee p=>?_)
 ·refine fl_seq (fun d5 dT fe=>?_)
  have cK : ∀ (t : Act) (H : World) (F : Own) (k : Int) (Z : Int) (aa : Int) (ab : Int) (ae : List Tx),t.defers = [] → t.tmps.size = 57 → t.eval (.tmp 3) = pt aZ 0 → t.eval (.tmp 9) = pt d 0 → t.eval (.tmp 10) = Zi Z → t.eval (.tmp 11) = Zi aa → t.eval (.tmp 12) = Zi ab → Evo [1] own F w H → BlkO F 131 H aZ 122 #[.func (.func 48) #[] #[ca],.func (.func 71) #[] #[sv,th]] → BlkO F 221 H d 3 #[Zi k] → SoO Jx F 227 H ae → sort_choosePivot_func_k2 Tx lf k Z aa ab ae = some r → d5 .normal t H := by
   intro t H F k Z aa ab ae er eY cF aU bx bA bB da av aw be p
   refine dT _ _ ?_
   obtain ⟨x,dU,p⟩ := obind p
   refine rr 57 [Fct.soAt Jx 227 ae,Fct.at_ 221 d 3 #[Zi k]] F [227,221] [0,0,0,0,15,31] [dv [] [3] 44 (.agg #[.func (.func 48) #[] #[ca],.func (.func 71) #[] #[sv,th]]),dv [] [10] 45 (Zi Z),dv [] [11] 46 (Zi aa),dv [] [12] 47 (Zi ab),⟨[0,1,2,3,6,7],[9],[227,221],Fct.mems [231,232] 48 (fun (_ : Unit)=>Zi x.1) (fun (_ : Unit) own w=>BlkO own 231 w d 3 #[Zi x.2.1] ∧ SoO Jx own 232 w x.2.2) (fun hk he h=>⟨BlkO.evo (not_hit hk (by decide)) he h.1,SoO.evo (not_hit hk (by decide)) he h.2⟩)⟩,dv [4] [] 11 (Zi x.1)] eY er (fm2 be aw) ?_ ?_
   ·refine sL ta122 cF av<|sM bx<|sM bA<|sM bB ?_
    refine sc (fun own a wx hf D hE=>?_) ?_
    ·obtain ⟨eC,eD,eE,eF,b_Jx,j,-⟩ := hf
     obtain ⟨aL,-⟩ := D
     exact px (or_call cf87 (args5 eC eD eE eF (aL.trans aU)) (sort_median_func_w _ (forth own (look0 [(221,2),(227,1)])) Tx lf ca sv th ae Jx Z aa ab k d 3 (look0_le rfl) hL hS (SoO.forth_ (m := (look0 [(221,2),(227,1)])) b_Jx) (BlkO.forth_ (m := (look0 [(221,2),(227,1)])) j) x dU) (post_mems0 (m := (look0 [(221,2),(227,1)])) (m' := (look0 [(1,232),(2,231)])) (hm_of rfl) (fun G w' a' h1 h=>⟨(),h1,⟨BlkO.back_ h.1 (by decide),SoO.back_ h.2 (by decide)⟩⟩)))
    refine sc (fun own a wx hf D hE=>?_) ?_
    ·obtain ⟨⟨_,cS,j,b_Jx⟩,-⟩ := hf
     exact px (or_assign cS)
    exact steps_nil
   intro ce d8 cZ es eZ dN b6 db
   have cG := kt dN aU
   have bC := gv (b6 [5] rfl) rfl
   obtain ⟨⟨_,(cS : d8.eval (.tmp 48) = Zi x.1),(ax : BlkO ce 231 cZ d 3 #[Zi x.2.1]),(bf : SoO Jx ce 232 cZ x.2.2)⟩,-⟩ := b6 [4] rfl
   have dm := Evo.step da c db rfl
   exact (cJ _ _ (rl [(231,188),(232,192)] ce) _ _ _ es eZ cG bC (Evo.rl_ dm c rfl) (BlkO.rl_ ax) (SoO.rl_ bf) p)
  refine rq_seq 57 cX (bz 2) [dv [] [8] 33 (Zi (sb b2 v)),dv [0] [] 34 (.bool (decide (50 ≤ (sb b2 v))))] c5 cN ?_ ?_
  ·exact sM cE<|sF (fun f=>or_geq f.1 rfl rfl)<|steps_nil
  intro cY fs fE cO c6 dO dC aI
  obtain ⟨L,M,W,X,Y⟩ := kt5 dO cD aT bu V bv
  have bD := gv (dC [1] rfl) rfl
  have b0 := Evo.step bZ c aI rfl
  have R := SoO.evo (by decide) aI P
  obtain ⟨q,A⟩ := be2 aI au z
  refine fl_cond bD p (fun ef p=>?_) (fun ef p=>?_)
  ·obtain ⟨l,dV,p⟩ := obind p
   refine rr_seq 57 [Fct.soAt Jx 1 l0,Fct.at_ 135 d 3 #[Zi 0]] cY [1,135] [0,0,3,7] [dv [] [3] 35 (.agg #[.func (.func 48) #[] #[ca],.func (.func 71) #[] #[sv,th]]),dv [] [10] 36 (Zi (ad v (ml I 1))),⟨[0,1,4,5],[9],[1,135],Fct.mems [237,238] 37 (fun (_ : Unit)=>Zi l.1) (fun (_ : Unit) own w=>BlkO own 237 w d 3 #[Zi l.2.1] ∧ SoO Jx own 238 w l.2.2) (fun hk he h=>⟨BlkO.evo (not_hit hk (by decide)) he h.1,SoO.evo (not_hit hk (by decide)) he h.2⟩)⟩,dv [2] [] 10 (Zi l.1)] c6 cO (fm2 R A) ?_ ?_
   ·refine sL ta122 L q<|sM W ?_
    refine sc (fun own a wx hf D hE=>?_) ?_
    ·obtain ⟨ew,ex,b_Jx,j,-⟩ := hf
     obtain ⟨aL,-⟩ := D
     exact px (or_call cf86 (args3 ew ex (aL.trans M)) (sort_medianAdjacent_func_w _ (forth own (look0 [(1,1),(135,2)])) Tx lf ca sv th l0 Jx (ad v (ml I 1)) 0 d 3 (look0_le rfl) hL hS (SoO.forth_ (m := (look0 [(1,1),(135,2)])) b_Jx) (BlkO.forth_ (m := (look0 [(1,1),(135,2)])) j) l dV) (post_mems0 (m := (look0 [(1,1),(135,2)])) (m' := (look0 [(1,238),(2,237)])) (hm_of rfl) (fun G w' a' h1 h=>⟨(),h1,⟨BlkO.back_ h.1 (by decide),SoO.back_ h.2 (by decide)⟩⟩)))
    refine sc (fun own a wx hf D hE=>?_) ?_
    ·obtain ⟨⟨_,cP,j,b_Jx⟩,-⟩ := hf
     exact px (or_assign cP)
    exact steps_nil
   intro cf d9 c0 et e0 dP b7 bU
   obtain ⟨aV,aW,bF,bG⟩ := kt4 dP L M X Y
   have bE := gv (b7 [3] rfl) rfl
   obtain ⟨⟨_,(cP : d9.eval (.tmp 37) = Zi l.1),(ay : BlkO cf 237 c0 d 3 #[Zi l.2.1]),(bg : SoO Jx cf 238 c0 l.2.2)⟩,-⟩ := b7 [2] rfl
   have dn := Evo.step b0 c bU rfl
   have B := be_ bU q
   obtain ⟨o,dW,p⟩ := obind p
   refine rr_seq 57 [Fct.soAt Jx 238 l.2.2,Fct.at_ 237 d 3 #[Zi l.2.1]] cf [238,237] [0,0,3,7] [dv [] [3] 38 (.agg #[.func (.func 48) #[] #[ca],.func (.func 71) #[] #[sv,th]]),dv [] [11] 39 (Zi (ad v (ml J 2))),⟨[0,1,4,5],[9],[238,237],Fct.mems [241,242] 40 (fun (_ : Unit)=>Zi o.1) (fun (_ : Unit) own w=>BlkO own 241 w d 3 #[Zi o.2.1] ∧ SoO Jx own 242 w o.2.2) (fun hk he h=>⟨BlkO.evo (not_hit hk (by decide)) he h.1,SoO.evo (not_hit hk (by decide)) he h.2⟩)⟩,dv [2] [] 11 (Zi o.1)] e0 et (fm2 bg ay) ?_ ?_
   ·refine sL ta122 aV B<|sM bF ?_
    refine sc (fun own a wx hf D hE=>?_) ?_
    ·obtain ⟨ey,ez,b_Jx,j,-⟩ := hf
     obtain ⟨aL,-⟩ := D
     exact px (or_call cf86 (args3 ey ez (aL.trans aW)) (sort_medianAdjacent_func_w _ (forth own (look0 [(237,2),(238,1)])) Tx lf ca sv th l.2.2 Jx (ad v (ml J 2)) l.2.1 d 3 (look0_le rfl) hL hS (SoO.forth_ (m := (look0 [(237,2),(238,1)])) b_Jx) (BlkO.forth_ (m := (look0 [(237,2),(238,1)])) j) o dW) (post_mems0 (m := (look0 [(237,2),(238,1)])) (m' := (look0 [(1,242),(2,241)])) (hm_of rfl) (fun G w' a' h1 h=>⟨(),h1,⟨BlkO.back_ h.1 (by decide),SoO.back_ h.2 (by decide)⟩⟩)))
    refine sc (fun own a wx hf D hE=>?_) ?_
    ·obtain ⟨⟨_,cQ,j,b_Jx⟩,-⟩ := hf
     exact px (or_assign cQ)
    exact steps_nil
   intro cg ea c1 eu e1 dQ b8 bV
   obtain ⟨aX,aY,bH,bJ⟩ := kt4 dQ aV aW bE bG
   have bI := gv (b8 [3] rfl) rfl
   obtain ⟨⟨_,(cQ : ea.eval (.tmp 40) = Zi o.1),(az : BlkO cg 241 c1 d 3 #[Zi o.2.1]),(bh : SoO Jx cg 242 c1 o.2.2)⟩,-⟩ := b8 [2] rfl
   have dp := Evo.step dn c bV rfl
   have C := be_ bV B
   obtain ⟨y,dX,p⟩ := obind p
   refine rr 57 [Fct.soAt Jx 242 o.2.2,Fct.at_ 241 d 3 #[Zi o.2.1]] cg [242,241] [0,0,3,7] [dv [] [3] 41 (.agg #[.func (.func 48) #[] #[ca],.func (.func 71) #[] #[sv,th]]),dv [] [12] 42 (Zi (ad v (ml K 3))),⟨[0,1,4,5],[9],[242,241],Fct.mems [245,246] 43 (fun (_ : Unit)=>Zi y.1) (fun (_ : Unit) own w=>BlkO own 245 w d 3 #[Zi y.2.1] ∧ SoO Jx own 246 w y.2.2) (fun hk he h=>⟨BlkO.evo (not_hit hk (by decide)) he h.1,SoO.evo (not_hit hk (by decide)) he h.2⟩)⟩,dv [2] [] 12 (Zi y.1)] e1 eu (fm2 bh az) ?_ ?_
   ·refine sL ta122 aX C<|sM bJ ?_
    refine sc (fun own a wx hf D hE=>?_) ?_
    ·obtain ⟨eA,eB,b_Jx,j,-⟩ := hf
     obtain ⟨aL,-⟩ := D
     exact px (or_call cf86 (args3 eA eB (aL.trans aY)) (sort_medianAdjacent_func_w _ (forth own (look0 [(241,2),(242,1)])) Tx lf ca sv th o.2.2 Jx (ad v (ml K 3)) o.2.1 d 3 (look0_le rfl) hL hS (SoO.forth_ (m := (look0 [(241,2),(242,1)])) b_Jx) (BlkO.forth_ (m := (look0 [(241,2),(242,1)])) j) y dX) (post_mems0 (m := (look0 [(241,2),(242,1)])) (m' := (look0 [(1,246),(2,245)])) (hm_of rfl) (fun G w' a' h1 h=>⟨(),h1,⟨BlkO.back_ h.1 (by decide),SoO.back_ h.2 (by decide)⟩⟩)))
    refine sc (fun own a wx hf D hE=>?_) ?_
    ·obtain ⟨⟨_,cR,j,b_Jx⟩,-⟩ := hf
     exact px (or_assign cR)
    exact steps_nil
   intro ch eb c2 ev e2 dR b9 bW
   obtain ⟨cH,cI,bK,bL⟩ := kt4 dR aX aY bH bI
   have bM := gv (b9 [3] rfl) rfl
   obtain ⟨⟨_,(cR : eb.eval (.tmp 43) = Zi y.1),(aB : BlkO ch 245 c2 d 3 #[Zi y.2.1]),(bi : SoO Jx ch 246 c2 y.2.2)⟩,-⟩ := b9 [2] rfl
   have dq := Evo.step dp c bW rfl
   have aA := be_ bW C
   exact (cK _ _ (rl [(245,221),(246,227)] ch) _ _ _ _ _ ev e2 cH cI bK bL bM (Evo.rl_ dq c rfl) (BlkO.rl_ aA) (BlkO.rl_ aB) (SoO.rl_ bi) p)
  refine fl_skip ?_
  exact (cK _ _ (rl [(1,227),(135,221)] cY) _ _ _ _ _ cO c6 L M W X Y (Evo.rl_ b0 c rfl) (BlkO.rl_ q) (BlkO.rl_ A) (SoO.rl_ R) p)
 refine fl_skip ?_
 exact (cJ _ _ (rl [(1,192),(135,188)] cX) _ _ _ cN c5 aT V (Evo.rl_ bZ c rfl) (BlkO.rl_ z) (SoO.rl_ P) p)
theorem sort_reverseRange_func_w (w : World) (own : Own) (Tx : Type) (lf : List Tx → Int → Int → Option Bool) (ca : Value) (sv : Value) (th : Value) (l0 : List Tx) (Jx : Sj (List Tx)) (x1 : Int) (b2 : Int) (c : ∀ b,own b ≤ 1) (hL : LessS Try.prog 48 ca lf Jx) (hS : SwapS Try.prog 71 sv th Jx) (hJx : SoO Jx own 1 w l0) (r : List Tx) (l : sort_reverseRange_func Tx lf l0 x1 b2 = some r) :
  Calls Try.prog 78 #[.agg #[.func (.func 48) #[] #[ca],.func (.func 71) #[] #[sv,th]],Zi x1,Zi b2] w fun e w'=>∃ (W : Own),e = .returned (.tuple #[]) ∧ Evo [1] own W w w' ∧ SoO Jx W 1 w' r := by
 refine fl_enter (n := 23) rfl rfl rfl (Nat.le_of_ble_eq_true rfl) ?_
 intro a0 Q d0 z0 k a1
 have bl := k 0 _ rfl
 have bm := k 1 _ rfl
 have bn := k 2 _ rfl
 clear k
 have bk : Evo [1] own own w w := Evo.refl _ _ _
 refine rq_seq 23 own (bz 1) [⟨[],[0],[],Fct.blk 54 3 (fun g=>pt g 0) 122 #[.func (.func 48) #[] #[ca],.func (.func 71) #[] #[sv,th]]⟩] z0 d0 ?_ ?_
 ·exact sS (fun s=>nw1 (s.1.trans bl))<|steps_nil
 intro a4 ba bt bd bv aN aG T
 obtain ⟨X,Y⟩ := kt2 aN bm bn
 obtain ⟨⟨D,(Z : ba.eval (.tmp 3) = pt D 0),(m : BlkO a4 54 bt D 122 #[.func (.func 48) #[] #[ca],.func (.func 71) #[] #[sv,th]])⟩,-⟩ := aG [0] rfl
 have aA := Evo.step bk c T rfl
 have J := SoO.evo (by decide) T hJx
 refine rq_seq 23 a4 (bz 2) [dv [] [1] 8 (Zi x1),dv [0] [] 6 (Zi x1)] bv bd ?_ ?_
 ·exact sM X<|sA<|steps_nil
 intro bo bR bZ be bw aO aH E
 obtain ⟨aa,ab⟩ := kt2 aO Y Z
 have ae := gv (aH [1] rfl) rfl
 have aB := Evo.step aA c E rfl
 have K := SoO.evo (by decide) E J
 have o := be_ E m
 refine rq_seq 23 bo (bz 3) [dv [] [2] 9 (Zi b2),dv [0] [] 10 (Zi (sb b2 1)),dv [1] [] 7 (Zi (sb b2 1))] bw be ?_ ?_
 ·exact sM aa<|sF (fun f=>or_sub f.1 rfl rfl)<|sA<|steps_nil
 intro bp bS b0 bf bx aP aI F
 obtain ⟨af,ag⟩ := kt2 aP ab ae
 have ah := gv (aI [2] rfl) rfl
 have aC := Evo.step aB c F rfl
 have L := SoO.evo (by decide) F K
 have p := be_ F o
 refine fl_block (fun bN bH a2 bI=>?_)
 refine fl_loop (body := (fun s=>sort_reverseRange_func_b1 Tx s.1 s.2.1 s.2.2)) (z := r) (show loopO _ _ = _ from l) (fun (s : Int × Int × (List Tx)) a wx=>match s with | (d,h,S)=>∃ (ox : Own),a.defers = [] ∧ a.tmps.size = 23 ∧ a.eval (.tmp 3) = pt D 0 ∧ a.eval (.tmp 6) = Zi d ∧ a.eval (.tmp 7) = Zi h ∧ Evo [1] own ox w wx ∧ BlkO ox 54 wx D 122 #[.func (.func 48) #[] #[ca],.func (.func 71) #[] #[sv,th]] ∧ SoO Jx ox 72 wx S) ?_ ?_
 ·exact ⟨(rl [(1,72)] bp),bf,bx,af,ag,ah,(Evo.rl_ aC c rfl),(BlkO.rl_ p),(SoO.rl_ L)⟩
 ·rintro ⟨d,h,S⟩ a7 bT b1 ⟨bq,bg,bB,ai,x,y,az,q,M⟩ l bO aV aY bA
  have l : sort_reverseRange_func_b1 Tx d h S = some a7 := l
  refine fl_seq (fun bP aW aZ=>?_)
  refine rq_seq 23 bq [0,0,3] [dv [] [6] 11 (Zi d),dv [] [7] 12 (Zi h),dv [0,1] [] 13 (.bool (decide (d < h)))] bB bg ?_ ?_
  ·exact sM x<|sM y<|sF (fun f=>or_lss f.1 f.2.1 rfl)<|steps_nil
  intro a5 bU b3 av bC aQ aJ G
  obtain ⟨A,B,C⟩ := kt3 aQ ai x y
  have R := gv (aJ [2] rfl) rfl
  have V := Evo.step az c G rfl
  have i := be_ G q
  have j := SoO.evo (by decide) G M
  refine fl_cond R l (fun bc l=>?_) (fun bc l=>?_)
  ·refine fl_skip ?_
   refine aW _ _ ?_
   refine fl_block (fun bQ aX bK bJ=>?_)
   obtain ⟨a3,aU,l⟩ := obind l
   refine rr_seq 23 [Fct.soAt Jx 72 S] a5 [72] [0,1,0,0,15] [dv [] [3] 14 (pt D 1),dv [0] [] 15 (.func (.func 71) #[] #[sv,th]),dv [] [6] 16 (Zi d),dv [] [7] 17 (Zi h),⟨[1,2,3,5],[],[72],Fct.so Jx 90 18 a3⟩] bC av (fm1 j) ?_ ?_
   ·refine sS (fun s=>or_field fo122_1 (s.1.trans A) (by rfl))<|sG to117 i<|sM B<|sM C ?_
    refine sc (fun own a wx hf bY hE=>?_) ?_
    ·obtain ⟨aw,ax,ay,b_Jx,-⟩ := hf
     exact px (or_sswap (lab := 72) (lab2 := 90) aw (args2 ax ay) hS b_Jx (by decide) aU (mem_of rfl))
    exact steps_nil
   intro a6 bb bu bh bD aR aK U
   obtain ⟨aj,ak,al⟩ := kt3 aR A B C
   obtain ⟨⟨(bG : bb.eval (.tmp 18) = .tuple #[]),(N : SoO Jx a6 90 bu a3)⟩,-⟩ := aK [4] rfl
   have aD := Evo.step V c U rfl
   have t := be_ U i
   refine rq_seq 23 a6 (bz 3) [dv [] [6] 19 (Zi d),dv [0] [] 20 (Zi (ad d 1)),dv [1] [] 6 (Zi (ad d 1))] bD bh ?_ ?_
   ·exact sM ak<|sF (fun f=>or_add f.1 rfl rfl)<|sA<|steps_nil
   intro br bV b4 bi bE aS aL H
   obtain ⟨am,ao⟩ := kt2 aS aj al
   have an := gv (aL [2] rfl) rfl
   have aE := Evo.step aD c H rfl
   have u := be_ H t
   have O := SoO.evo (by decide) H N
   refine rq 23 br (bz 3) [dv [] [7] 21 (Zi h),dv [0] [] 22 (Zi (sb h 1)),dv [1] [] 7 (Zi (sb h 1))] bE bi ?_ ?_
   ·exact sM ao<|sF (fun f=>or_sub f.1 rfl rfl)<|sA<|steps_nil
   intro bs bW b5 bj bF aT aM I
   obtain ⟨ap,aq⟩ := kt2 aT am an
   have ar := gv (aM [2] rfl) rfl
   have aF := Evo.step aE c I rfl
   have v := be_ I u
   have P := SoO.evo (by decide) I O
   refine aX _ _ ?_
   exact aV _ _ _ l ⟨(rl [(90,72)] bs),bj,bF,ap,aq,ar,(Evo.rl_ aF c rfl),(BlkO.rl_ v),(SoO.rl_ P)⟩
  refine fl_exit ?_
  refine aZ _ _ _ rfl ?_
  replace l := bA _ l
  refine aY _ _ _ rfl ?_
  refine a2 _ _ ?_
  obtain rfl := (osome l).symm
  exact a1 _ _ _ _ (.inr rfl) av (results0_ rfl ) ⟨(rl [(72,1)] a5),rfl,(Evo.rl_ V c rfl),(SoO.rl_ j)⟩
set_option maxHeartbeats 2000000 in
theorem sort_partialInsertionSort_func_w (w : World) (own : Own) (Tx : Type) (lf : List Tx → Int → Int → Option Bool) (ca : Value) (sv : Value) (th : Value) (l0 : List Tx) (Jx : Sj (List Tx)) (x1 : Int) (t : Int) (d : ∀ b,own b ≤ 1) (hL : LessS Try.prog 48 ca lf Jx) (hS : SwapS Try.prog 71 sv th Jx) (hJx : SoO Jx own 1 w l0) (r : Bool × (List Tx)) (j : sort_partialInsertionSort_func Tx lf l0 x1 t = some r) :
  Calls Try.prog 79 #[.agg #[.func (.func 48) #[] #[ca],.func (.func 71) #[] #[sv,th]],Zi x1,Zi t] w fun e w'=>∃ (hC : Own),e = .returned (.bool r.1) ∧ Evo [1] own hC w w' ∧ SoO Jx hC 1 w' r.2 := by
 refine fl_enter (n := 91) rfl rfl rfl (Nat.le_of_ble_eq_true rfl) ?_
 intro a0 Q d0 z0 ck e4
 have ka := ck 0 _ rfl
 have kb := ck 1 _ rfl
 have kc := ck 2 _ rfl
 clear ck
 have j9 : Evo [1] own own w w := Evo.refl _ _ _
 refine rq_seq 91 own [0,0] [⟨[],[0],[],Fct.blk 4139 3 (fun g=>pt g 0) 122 #[.func (.func 48) #[] #[ca],.func (.func 71) #[] #[sv,th]]⟩,dv [] [] 6 (.bool false)] z0 d0 ?_ ?_
 ·exact sS (fun s=>nw1 (s.1.trans ka))<|sO (or_assign rfl)<|steps_nil
 intro e8 hF iA hV iE gp f0 b1
 obtain ⟨bd,dl⟩ := kt2 gp kb kc
 obtain ⟨⟨i,(dm : hF.eval (.tmp 3) = pt i 0),(av : BlkO e8 4139 iA i 122 #[.func (.func 48) #[] #[ca],.func (.func 71) #[] #[sv,th]])⟩,-⟩ := f0 [0] rfl
 have fI := Evo.step j9 d b1 rfl
 have cr := SoO.evo (by decide) b1 hJx
 refine rq_seq 91 e8 (bz 3) [dv [] [1] 11 (Zi x1),dv [0] [] 12 (Zi (ad x1 1)),dv [1] [] 7 (Zi (ad x1 1))] iE hV ?_ ?_
 ·exact sM bd<|sF (fun f=>or_add f.1 rfl rfl)<|sA<|steps_nil
 intro ij jK kd hW iF gq f1 aQ
 obtain ⟨dn,dp,dq⟩ := kt3 gq bd dl dm
 have dr := gv (f1 [2] rfl) rfl
 have fJ := Evo.step fI d aQ rfl
 have cs := SoO.evo (by decide) aQ cr
 have aw := be_ aQ av
 refine fl_seq (fun jo gP cl=>?_)
 refine rq_seq 91 ij (bz 1) [dv [] [] 8 (Zi 0)] iF hW ?_ ?_
 ·exact sO (or_assign rfl)<|steps_nil
 intro ik jL ke hX iG gr f2 aR
 obtain ⟨ds,dt,du,dw⟩ := kt4 gr dn dp dq dr
 have dx := gv (f2 [0] rfl) rfl
 have fK := Evo.step fJ d aR rfl
 have ct := SoO.evo (by decide) aR cs
 have ax := be_ aR aw
 refine fl_block (fun jp jd ht cm=>?_)
 refine fl_loop (body := (fun s=>sort_partialInsertionSort_func_b1 Tx lf x1 t s.1 s.2.1 s.2.2)) (z := r) (show loopO _ _ = _ from j) (fun (s : Int × Int × (List Tx)) a wx=>match s with | (bU,h,B)=>∃ (ox : Own),a.defers = [] ∧ a.tmps.size = 91 ∧ a.eval (.tmp 1) = Zi x1 ∧ a.eval (.tmp 2) = Zi t ∧ a.eval (.tmp 3) = pt i 0 ∧ a.eval (.tmp 7) = Zi bU ∧ a.eval (.tmp 8) = Zi h ∧ Evo [1] own ox w wx ∧ BlkO ox 4139 wx i 122 #[.func (.func 48) #[] #[ca],.func (.func 71) #[] #[sv,th]] ∧ SoO Jx ox 5521 wx B) ?_ ?_
 ·exact ⟨(rl [(1,5521)] ik),hX,iG,ds,dt,du,dw,dx,(Evo.rl_ fK d rfl),(BlkO.rl_ ax),(SoO.rl_ ct)⟩
 ·rintro ⟨bU,h,B⟩ m jM kf ⟨il,hY,iH,dy,dz,dA,dB,be,fA,ay,cu⟩ j jq gQ a9 b0
  have j : sort_partialInsertionSort_func_b1 Tx lf x1 t bU h B = some m := j
  refine fl_seq (fun jr gR hd=>?_)
  refine rq_seq 91 il (bz 2) [dv [] [8] 13 (Zi h),dv [0] [] 14 (.bool (decide (h < 5)))] iH hY ?_ ?_
  ·exact sM be<|sF (fun f=>or_lss f.1 rfl rfl)<|steps_nil
  intro e9 jN kg da fm gs f3 aS
  obtain ⟨dC,dD,dE,dF,dG⟩ := kt5 gs dy dz dA dB be
  have cN := gv (f3 [1] rfl) rfl
  have b9 := Evo.step fA d aS rfl
  have az := be_ aS ay
  have aj := SoO.evo (by decide) aS cu
  refine fl_cond cN j (fun hJ j=>?_) (fun hJ j=>?_)
  ·refine fl_skip ?_
   refine gR _ _ ?_
   refine fl_seq (fun js gS cn=>?_)
   refine fl_block (fun c5 gT hu co=>?_)
   have c1 : ∀ (o : Act) (M : World) (ab : Own) (bV : Int) (bW : List Tx),o.defers = [] → o.tmps.size = 91 → o.eval (.tmp 1) = Zi x1 → o.eval (.tmp 2) = Zi t → o.eval (.tmp 3) = pt i 0 → o.eval (.tmp 7) = Zi bV → o.eval (.tmp 8) = Zi h → Evo [1] own ab w M → BlkO ab 4139 M i 122 #[.func (.func 48) #[] #[ca],.func (.func 71) #[] #[sv,th]] → SoO Jx ab 7921 M bW → sort_partialInsertionSort_func_k2 Tx h bV bW = some m → (c5 .normal o M ∧ c5 (.exit 1) o M) := by
    intro o M ab bV bW hZ iI dH dI dJ dK dL fB aA cv j
    refine and_both (gT _ _) (hu _ _) ?_
    refine gS _ _ ?_
    refine rq 91 ab (bz 3) [dv [] [8] 15 (Zi h),dv [0] [] 16 (Zi (ad h 1)),dv [1] [] 8 (Zi (ad h 1))] iI hZ ?_ ?_
    ·exact sM dL<|sF (fun f=>or_add f.1 rfl rfl)<|sA<|steps_nil
    intro im jO kh h0 iJ gt f4 aT
    obtain ⟨dM,dN,dO,dP⟩ := kt4 gt dH dI dJ dK
    have dQ := gv (f4 [2] rfl) rfl
    have fL := Evo.step fB d aT rfl
    have aB := be_ aT aA
    have cw := SoO.evo (by decide) aT cv
    exact gQ _ _ _ j ⟨(rl [(7921,5521)] im),h0,iJ,dM,dN,dO,dP,dQ,(Evo.rl_ fL d rfl),(BlkO.rl_ aB),(SoO.rl_ cw)⟩
   refine fl_seq (fun jt gU jf=>?_)
   refine fl_block (fun ju je hv jg=>?_)
   refine fl_loop (body := (fun s=>sort_partialInsertionSort_func_b3 Tx lf x1 t h B s)) (z := m) (show loopO _ _ = _ from j) (fun (c : Int) a wx=>∃ (ox : Own),a.defers = [] ∧ a.tmps.size = 91 ∧ a.eval (.tmp 1) = Zi x1 ∧ a.eval (.tmp 2) = Zi t ∧ a.eval (.tmp 3) = pt i 0 ∧ a.eval (.tmp 7) = Zi c ∧ a.eval (.tmp 8) = Zi h ∧ Evo [1] own ox w wx ∧ BlkO ox 4139 wx i 122 #[.func (.func 48) #[] #[ca],.func (.func 71) #[] #[sv,th]] ∧ SoO Jx ox 5521 wx B) ?_ ?_
   ·exact ⟨e9,da,fm,dC,dD,dE,dF,dG,b9,az,aj⟩
   ·rintro c hz jP ki ⟨io,h1,iL,dR,bf,bg,H,dS,fC,C,ak⟩ j jv gV he iK
    have j : sort_partialInsertionSort_func_b3 Tx lf x1 t h B c = some hz := j
    refine fl_seq (fun jw gW hh=>?_)
    obtain ⟨bT,fX,j⟩ := obind j
    refine rq_seq 91 io [0,0,3,7,15,31,15,15,143,511,1023,2047] [dv [] [7] 17 (Zi c),dv [] [2] 18 (Zi t),dv [0,1] [] 19 (.bool (decide (c < t))),dv [2] [] 20 (.bool (decide (c < t))),dc [3] [3] (decide (c < t)) 21 (pt i 0),dc [3,4] [] (decide (c < t)) 22 (.func (.func 48) #[] #[ca]),dc [3] [7] (decide (c < t)) 23 (Zi c),dc [3] [7] (decide (c < t)) 24 (Zi c),dc [3,7] [] (decide (c < t)) 25 (Zi (sb c 1)),dc [3,5,6,8] [] (decide (c < t)) 26 (.bool bT),dc [3,9] [] (decide (c < t)) 27 (.bool (!bT)),dv [3,10] [] 28 (.bool ((decide (c < t)) && (!bT)))] iL h1 ?_ ?_
    ·exact sM H<|sM bf<|sF (fun f=>or_lss f.1 f.2.1 rfl)<|sV<|cT (fun _ s _ _=>or_field fo122_0 (s.1.trans bg) (by rfl))<|cT (fun f _ hE hg=>ld1 to100 (f.2.1.1 hg) (be_ hE C))<|cT (fun _ s _ _=>or_move (s.1.trans H))<|cT (fun _ s _ _=>or_move (s.1.trans H))<|cT (fun f _ _ hg=>or_sub (f.2.1.1 hg) rfl rfl)<|cT (fun f _ hE hg=>or_callf cf48 (f.2.1.1 hg) (args2 (f.2.2.1.1 hg) (f.2.2.2.1.1 hg)) rfl (hL _ _ _ _ _ _ _ (SoO.evo (by decide) hE ak) (gd_t fX hg)) post_val)<|cT (fun f _ _ hg=>or_not (f.2.1.1 hg) rfl)<|sF (fun f=>or_and f.1 (fun hx=>f.2.1.1 hx) rfl rfl)<|steps_nil
    intro fa jQ kj db fn gu f5 aU
    obtain ⟨bh,P,bi,R,bj⟩ := kt5 gu dR bf bg H dS
    have cO := gv (f5 [11] rfl) rfl
    have cb := Evo.step fC d aU rfl
    have D := be_ aU C
    have al := SoO.evo (by decide) aU ak
    refine fl_cond cO j (fun hK j=>?_) (fun hK j=>?_)
    ·refine fl_skip ?_
     refine gW _ _ ?_
     refine fl_block (fun jx gX jl jh=>?_)
     refine rq 91 fa (bz 3) [dv [] [7] 29 (Zi c),dv [0] [] 30 (Zi (ad c 1)),dv [1] [] 7 (Zi (ad c 1))] fn db ?_ ?_
     ·exact sM R<|sF (fun f=>or_add f.1 rfl rfl)<|sA<|steps_nil
     intro ip jR kk h2 iM gw f6 aV
     obtain ⟨dT,dU,dV,dX⟩ := kt4 gw bh P bi bj
     have dW := gv (f6 [2] rfl) rfl
     have fM := Evo.step cb d aV rfl
     have aC := be_ aV D
     have cx := SoO.evo (by decide) aV al
     refine gX _ _ ?_
     exact gV _ _ _ j ⟨ip,h2,iM,dT,dU,dV,dW,dX,fM,aC,cx⟩
    refine fl_exit ?_
    refine hh _ _ _ rfl ?_
    replace j := iK _ j
    refine he _ _ _ rfl ?_
    refine hv _ _ ?_
    refine gU _ _ ?_
    refine fl_seq (fun jy gY hi=>?_)
    refine rq_seq 91 fa [0,0,3] [dv [] [7] 31 (Zi c),dv [] [2] 32 (Zi t),dv [0,1] [] 33 (.bool (decide (c = t)))] fn db ?_ ?_
    ·exact sM R<|sM P<|sF (fun f=>or_eql f.1 f.2.1 rfl)<|steps_nil
    intro fb jS kl dd fo gx f7 aW
    obtain ⟨bk,bl,dY,dZ,d1⟩ := kt5 gx bh P bi R bj
    have cP := gv (f7 [2] rfl) rfl
    have cc := Evo.step cb d aW rfl
    have aD := be_ aW D
    have am := SoO.evo (by decide) aW al
    refine fl_cond cP j (fun hM j=>?_) (fun hM j=>?_)
    ·refine rq_seq 91 fb (bz 1) [dv [] [] 6 (.bool true)] fo dd ?_ ?_
     ·exact sO (or_assign rfl)<|steps_nil
     intro iq jT km h3 kC ja f8 b3
     have d2 := gv (f8 [0] rfl) rfl
     have fN := Evo.step cc d b3 rfl
     have cy := SoO.evo (by decide) b3 am
     refine fl_ret ?_
     refine hi _ _ _ rfl ?_
     refine co _ _ _ rfl ?_
     refine cn _ _ _ rfl ?_
     replace j := b0 _ j
     refine a9 _ _ _ rfl ?_
     refine cm _ _ _ rfl ?_
     refine cl _ _ _ rfl ?_
     obtain rfl := osome j
     exact e4 _ _ _ _ (.inl rfl) h3 (results1_ rfl (RVal.tmp_ d2)) ⟨(rl [(5521,1)] iq),rfl,(Evo.rl_ fN d rfl),(SoO.rl_ cy)⟩
    refine fl_skip ?_
    refine gY _ _ ?_
    refine fl_seq (fun jz gZ hj=>?_)
    refine rq_seq 91 fb [0,0,3,7] [dv [] [2] 34 (Zi t),dv [] [1] 35 (Zi x1),dv [0,1] [] 36 (Zi (sb t x1)),dv [2] [] 37 (.bool (decide ((sb t x1) < 50)))] fo dd ?_ ?_
    ·exact sM bl<|sM bk<|sF (fun f=>or_sub f.1 f.2.1 rfl)<|sF (fun f=>or_lss f.1 rfl rfl)<|steps_nil
    intro fc jU kn de fp gy f9 aX
    obtain ⟨d3,d4,bm,S,d5⟩ := kt5 gy bk bl dY dZ d1
    have cQ := gv (f9 [3] rfl) rfl
    have cd := Evo.step cc d aX rfl
    have E := be_ aX aD
    have an := SoO.evo (by decide) aX am
    refine fl_cond cQ j (fun hN j=>?_) (fun hN j=>?_)
    ·refine rq_seq 91 fc (bz 1) [dv [] [] 6 (.bool false)] fp de ?_ ?_
     ·exact sO (or_assign rfl)<|steps_nil
     intro ir jV ko h4 kD jb ga b4
     have d6 := gv (ga [0] rfl) rfl
     have fO := Evo.step cd d b4 rfl
     have cz := SoO.evo (by decide) b4 an
     refine fl_ret ?_
     refine hj _ _ _ rfl ?_
     refine co _ _ _ rfl ?_
     refine cn _ _ _ rfl ?_
     replace j := b0 _ j
     refine a9 _ _ _ rfl ?_
     refine cm _ _ _ rfl ?_
     refine cl _ _ _ rfl ?_
     obtain rfl := osome j
     exact e4 _ _ _ _ (.inl rfl) h4 (results1_ rfl (RVal.tmp_ d6)) ⟨(rl [(5521,1)] ir),rfl,(Evo.rl_ fO d rfl),(SoO.rl_ cz)⟩
    refine fl_skip ?_
    refine gZ _ _ ?_
    obtain ⟨e5,gM,j⟩ := obind j
    refine rr_seq 91 [Fct.soAt Jx 5521 B] fc [5521] [0,1,0,0,8,31] [dv [] [3] 38 (pt i 1),dv [0] [] 39 (.func (.func 71) #[] #[sv,th]),dv [] [7] 40 (Zi c),dv [] [7] 41 (Zi c),dv [3] [] 42 (Zi (sb c 1)),⟨[1,2,4,6],[],[5521],Fct.so Jx 7959 43 e5⟩] fp de (fm1 an) ?_ ?_
    ·refine sS (fun s=>or_field fo122_1 (s.1.trans bm) (by rfl))<|sG to117 E<|sM S<|sM S<|sF (fun f=>or_sub f.1 rfl rfl) ?_
     refine sc (fun own a wx hf i9 hE=>?_) ?_
     ·obtain ⟨iZ,i0,i1,b_Jx,-⟩ := hf
      exact px (or_sswap (lab := 5521) (lab2 := 7959) iZ (args2 i0 i1) hS b_Jx (by decide) gM (mem_of rfl))
     exact steps_nil
    intro fd hG iB h5 iN gz gb b5
    obtain ⟨bn,d7,d8,bo,d9⟩ := kt5 gz d3 d4 bm S d5
    obtain ⟨⟨(kF : hG.eval (.tmp 43) = .tuple #[]),(cA : SoO Jx fd 7959 iB e5)⟩,-⟩ := gb [5] rfl
    have fP := Evo.step cd d b5 rfl
    have aE := be_ b5 E
    refine fl_seq (fun hD g0 ji=>?_)
    have c2 : ∀ (u : Act) (ah : World) (ae : Own) (bX : List Tx),u.defers = [] → u.tmps.size = 91 → u.eval (.tmp 1) = Zi x1 → u.eval (.tmp 2) = Zi t → u.eval (.tmp 3) = pt i 0 → u.eval (.tmp 7) = Zi c → u.eval (.tmp 8) = Zi h → Evo [1] own ae w ah → BlkO ae 4139 ah i 122 #[.func (.func 48) #[] #[ca],.func (.func 71) #[] #[sv,th]] → SoO Jx ae 8062 ah bX → sort_partialInsertionSort_func_k4 Tx lf t h c bX = some m → hD .normal u ah := by
     intro u ah ae bX h6 iO ea bp eb bq ec fD aF cB j
     refine g0 _ _ ?_
     refine rq_seq 91 ae [0,0,3,7] [dv [] [2] 67 (Zi t),dv [] [7] 68 (Zi c),dv [0,1] [] 69 (Zi (sb t c)),dv [2] [] 70 (.bool (decide (2 ≤ (sb t c))))] iO h6 ?_ ?_
     ·exact sM bp<|sM bq<|sF (fun f=>or_sub f.1 f.2.1 rfl)<|sF (fun f=>or_geq f.1 rfl rfl)<|steps_nil
     intro fe jW kp df fq gA gc aY
     obtain ⟨br,bs,bt,T,bu⟩ := kt5 gA ea bp eb bq ec
     have cR := gv (gc [3] rfl) rfl
     have ce := Evo.step fD d aY rfl
     have F := be_ aY aF
     have ao := SoO.evo (by decide) aY cB
     refine fl_cond cR j (fun hO j=>?_) (fun hO j=>?_)
     ·refine rq_seq 91 fe (bz 3) [dv [] [7] 71 (Zi c),dv [0] [] 72 (Zi (ad c 1)),dv [1] [] 10 (Zi (ad c 1))] fq df ?_ ?_
      ·exact sM T<|sF (fun f=>or_add f.1 rfl rfl)<|sA<|steps_nil
      intro it jX kq h7 iP gB gd aZ
      obtain ⟨ed,ee,ef,eg,eh⟩ := kt5 gB br bs bt T bu
      have cS := gv (gd [2] rfl) rfl
      have fQ := Evo.step ce d aZ rfl
      have aG := be_ aZ F
      have cC := SoO.evo (by decide) aZ ao
      refine fl_block (fun c6 g1 hw jj=>?_)
      have c3 : ∀ (p : Act) (N : World) (af : Own) (bY : List Tx),p.defers = [] → p.tmps.size = 91 → p.eval (.tmp 1) = Zi x1 → p.eval (.tmp 2) = Zi t → p.eval (.tmp 3) = pt i 0 → p.eval (.tmp 7) = Zi c → p.eval (.tmp 8) = Zi h → Evo [1] own af w N → BlkO af 4139 N i 122 #[.func (.func 48) #[] #[ca],.func (.func 71) #[] #[sv,th]] → SoO Jx af 8085 N bY → sort_partialInsertionSort_func_k5 Tx h c bY = some m → (c6 .normal p N ∧ c6 (.exit 6) p N) := by
       intro p N af bY h8 iQ ei ej ek el em fE aH cD j
       refine and_both (g1 _ _) (hw _ _) ?_
       exact (c1 _ _ (rl [(8085,7921)] af) _ _ h8 iQ ei ej ek el em (Evo.rl_ fE d rfl) (BlkO.rl_ aH) (SoO.rl_ cD) j).1
      refine fl_loop (body := (fun s=>sort_partialInsertionSort_func_b6 Tx lf t h c s.1 s.2)) (z := m) (show loopO _ _ = _ from j) (fun (s : Int × (List Tx)) a wx=>match s with | (k,ba)=>∃ (ox : Own),a.defers = [] ∧ a.tmps.size = 91 ∧ a.eval (.tmp 1) = Zi x1 ∧ a.eval (.tmp 2) = Zi t ∧ a.eval (.tmp 3) = pt i 0 ∧ a.eval (.tmp 7) = Zi c ∧ a.eval (.tmp 8) = Zi h ∧ a.eval (.tmp 10) = Zi k ∧ Evo [1] own ox w wx ∧ BlkO ox 4139 wx i 122 #[.func (.func 48) #[] #[ca],.func (.func 71) #[] #[sv,th]] ∧ SoO Jx ox 8134 wx ba) ?_ ?_
      ·exact ⟨(rl [(8062,8134)] it),h7,iP,ed,ee,ef,eg,eh,cS,(Evo.rl_ fQ d rfl),(BlkO.rl_ aG),(SoO.rl_ cC)⟩
      ·rintro ⟨k,ba⟩ hA jY kr ⟨iu,h9,iR,en,bv,eo,ep,eq,au,fF,aI,cE⟩ j jA g2 cp fr
       have j : sort_partialInsertionSort_func_b6 Tx lf t h c k ba = some hA := j
       refine fl_seq (fun jB g3 hk=>?_)
       refine rq_seq 91 iu [0,0,3] [dv [] [10] 73 (Zi k),dv [] [2] 74 (Zi t),dv [0,1] [] 75 (.bool (decide (k < t)))] iR h9 ?_ ?_
       ·exact sM au<|sM bv<|sF (fun f=>or_lss f.1 f.2.1 rfl)<|steps_nil
       intro ff jZ ks dg fs gC ge a1
       obtain ⟨bw,bx,U,bA,bB,K⟩ := kt6 gC en bv eo ep eq au
       have cU := gv (ge [2] rfl) rfl
       have cf := Evo.step fF d a1 rfl
       have v := be_ a1 aI
       have I := SoO.evo (by decide) a1 cE
       refine fl_cond cU j (fun hP j=>?_) (fun hP j=>?_)
       ·refine fl_skip ?_
        refine g3 _ _ ?_
        refine fl_seq (fun jC g4 hl=>?_)
        refine fl_block (fun jD g5 jm hm=>?_)
        refine fl_seq (fun jE g6 hn=>?_)
        obtain ⟨c8,fY,j⟩ := obind j
        refine rq_seq 91 ff [0,1,0,0,8,31,63] [dv [] [3] 78 (pt i 0),dv [0] [] 79 (.func (.func 48) #[] #[ca]),dv [] [10] 80 (Zi k),dv [] [10] 81 (Zi k),dv [3] [] 82 (Zi (sb k 1)),dv [1,2,4] [] 83 (.bool c8),dv [5] [] 84 (.bool (!c8))] fs dg ?_ ?_
        ·exact sS (fun s=>or_field fo122_0 (s.1.trans U) (by rfl))<|sG to100 v<|sM K<|sM K<|sF (fun f=>or_sub f.1 rfl rfl)<|sFE (fun f hE=>or_callf cf48 f.1 (args2 f.2.1 f.2.2.1) rfl (hL _ _ _ _ _ _ _ (SoO.evo (by decide) hE I) fY) post_val)<|sF (fun f=>or_not f.1 rfl)<|steps_nil
        intro fg j0 kt dh ft gD gf a2
        obtain ⟨bC,bD,V,bE,bF,L⟩ := kt6 gD bw bx U bA bB K
        have cV := gv (gf [6] rfl) rfl
        have cg := Evo.step cf d a2 rfl
        have x := be_ a2 v
        have ap := SoO.evo (by decide) a2 I
        refine fl_cond cV j (fun hQ j=>?_) (fun hQ j=>?_)
        ·refine fl_exit ?_
         refine hn _ _ _ rfl ?_
         refine hm _ _ _ rfl ?_
         refine hl _ _ _ rfl ?_
         replace j := fr _ j
         refine cp _ _ _ rfl ?_
         exact (c3 _ _ (rl [(8134,8085)] fg) _ dh ft bC bD V bE bF (Evo.rl_ cg d rfl) (BlkO.rl_ x) (SoO.rl_ ap) j).2
        refine fl_skip ?_
        refine g6 _ _ ?_
        obtain ⟨e6,gN,j⟩ := obind j
        refine rr 91 [Fct.soAt Jx 8134 ba] fg [8134] [0,1,0,0,8,31] [dv [] [3] 85 (pt i 1),dv [0] [] 86 (.func (.func 71) #[] #[sv,th]),dv [] [10] 87 (Zi k),dv [] [10] 88 (Zi k),dv [3] [] 89 (Zi (sb k 1)),⟨[1,2,4,6],[],[8134],Fct.so Jx 8161 90 e6⟩] ft dh (fm1 ap) ?_ ?_
        ·refine sS (fun s=>or_field fo122_1 (s.1.trans V) (by rfl))<|sG to117 x<|sM L<|sM L<|sF (fun f=>or_sub f.1 rfl rfl) ?_
         refine sc (fun own a wx hf i9 hE=>?_) ?_
         ·obtain ⟨i5,i6,i7,b_Jx,-⟩ := hf
          exact px (or_sswap (lab := 8134) (lab2 := 8161) i5 (args2 i6 i7) hS b_Jx (by decide) gN (mem_of rfl))
         exact steps_nil
        intro fh hH iC ia iS gE gg b6
        obtain ⟨er,es,et,eu,ev,cW⟩ := kt6 gE bC bD V bE bF L
        obtain ⟨⟨(kH : hH.eval (.tmp 90) = .tuple #[]),(cF : SoO Jx fh 8161 iC e6)⟩,-⟩ := gg [5] rfl
        have fR := Evo.step cg d b6 rfl
        have aJ := be_ b6 x
        refine g5 _ _ ?_
        refine g4 _ _ ?_
        refine rq 91 fh (bz 3) [dv [] [10] 76 (Zi k),dv [0] [] 77 (Zi (ad k 1)),dv [1] [] 10 (Zi (ad k 1))] iS ia ?_ ?_
        ·exact sM cW<|sF (fun f=>or_add f.1 rfl rfl)<|sA<|steps_nil
        intro iv j1 ku ib iT gF gh a3
        obtain ⟨ew,ex,ey,ez,eA⟩ := kt5 gF er es et eu ev
        have cX := gv (gh [2] rfl) rfl
        have fS := Evo.step fR d a3 rfl
        have aK := be_ a3 aJ
        have cG := SoO.evo (by decide) a3 cF
        exact g2 _ _ _ j ⟨(rl [(8161,8134)] iv),ib,iT,ew,ex,ey,ez,eA,cX,(Evo.rl_ fS d rfl),(BlkO.rl_ aK),(SoO.rl_ cG)⟩
       refine fl_exit ?_
       refine hk _ _ _ rfl ?_
       replace j := fr _ j
       refine cp _ _ _ rfl ?_
       exact (c3 _ _ (rl [(8134,8085)] ff) _ dg fs bw bx U bA bB (Evo.rl_ cf d rfl) (BlkO.rl_ v) (SoO.rl_ I) j).2
     refine fl_skip ?_
     exact (c1 _ _ (rl [(8062,7921)] fe) _ _ df fq br bs bt T bu (Evo.rl_ ce d rfl) (BlkO.rl_ F) (SoO.rl_ ao) j).1
    refine rq_seq 91 fd [0,0,3,7] [dv [] [7] 44 (Zi c),dv [] [1] 45 (Zi x1),dv [0,1] [] 46 (Zi (sb c x1)),dv [2] [] 47 (.bool (decide (2 ≤ (sb c x1))))] iN h5 ?_ ?_
    ·exact sM bo<|sM bn<|sF (fun f=>or_sub f.1 f.2.1 rfl)<|sF (fun f=>or_geq f.1 rfl rfl)<|steps_nil
    intro fi j2 kv di fu gG gi a4
    obtain ⟨bG,bH,bI,W,bJ⟩ := kt5 gG bn d7 d8 bo d9
    have cY := gv (gi [3] rfl) rfl
    have ch := Evo.step fP d a4 rfl
    have G := be_ a4 aE
    have aq := SoO.evo (by decide) a4 cA
    refine fl_cond cY j (fun hR j=>?_) (fun hR j=>?_)
    ·refine rq_seq 91 fi (bz 3) [dv [] [7] 48 (Zi c),dv [0] [] 49 (Zi (sb c 1)),dv [1] [] 9 (Zi (sb c 1))] fu di ?_ ?_
     ·exact sM W<|sF (fun f=>or_sub f.1 rfl rfl)<|sA<|steps_nil
     intro iw j3 kw ic iU gH gj a5
     obtain ⟨eB,eC,eD,eE,eF⟩ := kt5 gH bG bH bI W bJ
     have eG := gv (gj [2] rfl) rfl
     have fT := Evo.step ch d a5 rfl
     have aL := be_ a5 G
     have cH := SoO.evo (by decide) a5 aq
     refine fl_block (fun c7 g7 hy jk=>?_)
     have c4 : ∀ (q : Act) (O : World) (ag : Own) (bZ : List Tx),q.defers = [] → q.tmps.size = 91 → q.eval (.tmp 1) = Zi x1 → q.eval (.tmp 2) = Zi t → q.eval (.tmp 3) = pt i 0 → q.eval (.tmp 7) = Zi c → q.eval (.tmp 8) = Zi h → Evo [1] own ag w O → BlkO ag 4139 O i 122 #[.func (.func 48) #[] #[ca],.func (.func 71) #[] #[sv,th]] → SoO Jx ag 8184 O bZ → sort_partialInsertionSort_func_k7 Tx lf t h c bZ = some m → (c7 .normal q O ∧ c7 (.exit 4) q O) := by
      intro q O ag bZ id iV eH eI eJ eK eL fG aM cI j
      refine and_both (g7 _ _) (hy _ _) ?_
      exact (c2 _ _ (rl [(8184,8062)] ag) _ id iV eH eI eJ eK eL (Evo.rl_ fG d rfl) (BlkO.rl_ aM) (SoO.rl_ cI) j)
     refine fl_loop (body := (fun s=>sort_partialInsertionSort_func_b8 Tx lf t h c s.1 s.2)) (z := m) (show loopO _ _ = _ from j) (fun (s : Int × (List Tx)) a wx=>match s with | (l,bb)=>∃ (ox : Own),a.defers = [] ∧ a.tmps.size = 91 ∧ a.eval (.tmp 1) = Zi x1 ∧ a.eval (.tmp 2) = Zi t ∧ a.eval (.tmp 3) = pt i 0 ∧ a.eval (.tmp 7) = Zi c ∧ a.eval (.tmp 8) = Zi h ∧ a.eval (.tmp 9) = Zi l ∧ Evo [1] own ox w wx ∧ BlkO ox 4139 wx i 122 #[.func (.func 48) #[] #[ca],.func (.func 71) #[] #[sv,th]] ∧ SoO Jx ox 8233 wx bb) ?_ ?_
     ·exact ⟨(rl [(7959,8233)] iw),ic,iU,eB,eC,eD,eE,eF,eG,(Evo.rl_ fT d rfl),(BlkO.rl_ aL),(SoO.rl_ cH)⟩
     ·rintro ⟨l,bb⟩ hB j4 kx ⟨ix,ie,iW,eM,eN,eO,eP,eQ,bK,fH,aN,cJ⟩ j jF g8 cq fv
      have j : sort_partialInsertionSort_func_b8 Tx lf t h c l bb = some hB := j
      refine fl_seq (fun jG g9 ho=>?_)
      refine rq_seq 91 ix (bz 2) [dv [] [9] 50 (Zi l),dv [0] [] 51 (.bool (decide (1 ≤ l)))] iW ie ?_ ?_
      ·exact sM bK<|sF (fun f=>or_geq f.1 rfl rfl)<|steps_nil
      intro fj j5 ky dj fw gI gk a6
      obtain ⟨bL,bM,X,bN,bO,Y⟩ := kt6 gI eM eN eO eP eQ bK
      have cZ := gv (gk [1] rfl) rfl
      have ci := Evo.step fH d a6 rfl
      have y := be_ a6 aN
      have J := SoO.evo (by decide) a6 cJ
      refine fl_cond cZ j (fun hT j=>?_) (fun hT j=>?_)
      ·refine fl_skip ?_
       refine g9 _ _ ?_
       refine fl_seq (fun jH ha hp=>?_)
       refine fl_block (fun jI hb jn hq=>?_)
       refine fl_seq (fun jJ hc hr=>?_)
       obtain ⟨c9,fZ,j⟩ := obind j
       refine rq_seq 91 fj [0,1,0,0,8,31,63] [dv [] [3] 54 (pt i 0),dv [0] [] 55 (.func (.func 48) #[] #[ca]),dv [] [9] 56 (Zi l),dv [] [9] 57 (Zi l),dv [3] [] 58 (Zi (sb l 1)),dv [1,2,4] [] 59 (.bool c9),dv [5] [] 60 (.bool (!c9))] fw dj ?_ ?_
       ·exact sS (fun s=>or_field fo122_0 (s.1.trans X) (by rfl))<|sG to100 y<|sM Y<|sM Y<|sF (fun f=>or_sub f.1 rfl rfl)<|sFE (fun f hE=>or_callf cf48 f.1 (args2 f.2.1 f.2.2.1) rfl (hL _ _ _ _ _ _ _ (SoO.evo (by decide) hE J) fZ) post_val)<|sF (fun f=>or_not f.1 rfl)<|steps_nil
       intro fk j6 kz dk fx gJ gl a7
       obtain ⟨bP,bQ,Z,bR,bS,aa⟩ := kt6 gJ bL bM X bN bO Y
       have c0 := gv (gl [6] rfl) rfl
       have cj := Evo.step ci d a7 rfl
       have A := be_ a7 y
       have ar := SoO.evo (by decide) a7 J
       refine fl_cond c0 j (fun hU j=>?_) (fun hU j=>?_)
       ·refine fl_exit ?_
        refine hr _ _ _ rfl ?_
        refine hq _ _ _ rfl ?_
        refine hp _ _ _ rfl ?_
        replace j := fv _ j
        refine cq _ _ _ rfl ?_
        exact (c4 _ _ (rl [(8233,8184)] fk) _ dk fx bP bQ Z bR bS (Evo.rl_ cj d rfl) (BlkO.rl_ A) (SoO.rl_ ar) j).2
       refine fl_skip ?_
       refine hc _ _ ?_
       obtain ⟨e7,gO,j⟩ := obind j
       refine rr 91 [Fct.soAt Jx 8233 bb] fk [8233] [0,1,0,0,8,31] [dv [] [3] 61 (pt i 1),dv [0] [] 62 (.func (.func 71) #[] #[sv,th]),dv [] [9] 63 (Zi l),dv [] [9] 64 (Zi l),dv [3] [] 65 (Zi (sb l 1)),⟨[1,2,4,6],[],[8233],Fct.so Jx 8260 66 e7⟩] fx dk (fm1 ar) ?_ ?_
       ·refine sS (fun s=>or_field fo122_1 (s.1.trans Z) (by rfl))<|sG to117 A<|sM aa<|sM aa<|sF (fun f=>or_sub f.1 rfl rfl) ?_
        refine sc (fun own a wx hf i9 hE=>?_) ?_
        ·obtain ⟨i2,i3,i4,b_Jx,-⟩ := hf
         exact px (or_sswap (lab := 8233) (lab2 := 8260) i2 (args2 i3 i4) hS b_Jx (by decide) gO (mem_of rfl))
        exact steps_nil
       intro fl hI iD ig iX gK gm b7
       obtain ⟨eR,eS,eT,eU,eV,eW⟩ := kt6 gK bP bQ Z bR bS aa
       obtain ⟨⟨(kG : hI.eval (.tmp 66) = .tuple #[]),(cK : SoO Jx fl 8260 iD e7)⟩,-⟩ := gm [5] rfl
       have fU := Evo.step cj d b7 rfl
       have aO := be_ b7 A
       refine hb _ _ ?_
       refine ha _ _ ?_
       refine rq 91 fl (bz 3) [dv [] [9] 52 (Zi l),dv [0] [] 53 (Zi (sb l 1)),dv [1] [] 9 (Zi (sb l 1))] iX ig ?_ ?_
       ·exact sM eW<|sF (fun f=>or_sub f.1 rfl rfl)<|sA<|steps_nil
       intro iy j7 kA ih iY gL gn a8
       obtain ⟨eX,eY,eZ,e0,e1⟩ := kt5 gL eR eS eT eU eV
       have e2 := gv (gn [2] rfl) rfl
       have fV := Evo.step fU d a8 rfl
       have aP := be_ a8 aO
       have cL := SoO.evo (by decide) a8 cK
       exact g8 _ _ _ j ⟨(rl [(8260,8233)] iy),ih,iY,eX,eY,eZ,e0,e1,e2,(Evo.rl_ fV d rfl),(BlkO.rl_ aP),(SoO.rl_ cL)⟩
      refine fl_exit ?_
      refine ho _ _ _ rfl ?_
      replace j := fv _ j
      refine cq _ _ _ rfl ?_
      exact (c4 _ _ (rl [(8233,8184)] fj) _ dj fw bL bM X bN bO (Evo.rl_ ci d rfl) (BlkO.rl_ y) (SoO.rl_ J) j).2
    refine fl_skip ?_
    exact (c2 _ _ (rl [(7959,8062)] fi) _ di fu bG bH bI W bJ (Evo.rl_ ch d rfl) (BlkO.rl_ G) (SoO.rl_ aq) j)
  refine fl_exit ?_
  refine hd _ _ _ rfl ?_
  replace j := b0 _ j
  refine a9 _ _ _ rfl ?_
  refine ht _ _ ?_
  refine gP _ _ ?_
  refine rq_seq 91 e9 (bz 1) [dv [] [] 6 (.bool false)] fm da ?_ ?_
  ·exact sO (or_assign rfl)<|steps_nil
  intro iz j8 kB ii kE jc go b8
  have e3 := gv (go [0] rfl) rfl
  have fW := Evo.step b9 d b8 rfl
  have cM := SoO.evo (by decide) b8 aj
  refine fl_ret ?_
  obtain rfl := osome j
  exact e4 _ _ _ _ (.inl rfl) ii (results1_ rfl (RVal.tmp_ e3)) ⟨(rl [(5521,1)] iz),rfl,(Evo.rl_ fW d rfl),(SoO.rl_ cM)⟩
theorem sort_partitionEqual_func_w (w : World) (own : Own) (Tx : Type) (lf : List Tx → Int → Int → Option Bool) (ca : Value) (sv : Value) (th : Value) (l0 : List Tx) (Jx : Sj (List Tx)) (M : Int) (b2 : Int) (C : Int) (i : ∀ b,own b ≤ 1) (hL : LessS Try.prog 48 ca lf Jx) (hS : SwapS Try.prog 71 sv th Jx) (hJx : SoO Jx own 1 w l0) (r : Int × (List Tx)) (j : sort_partitionEqual_func Tx lf l0 M b2 C = some r) :
  Calls Try.prog 80 #[.agg #[.func (.func 48) #[] #[ca],.func (.func 71) #[] #[sv,th]],Zi M,Zi b2,Zi C] w fun e w'=>∃ (bK : Own),e = .returned (Zi r.1) ∧ Evo [1] own bK w w' ∧ SoO Jx bK 1 w' r.2 := by
 refine fl_enter (n := 58) rfl rfl rfl (Nat.le_of_ble_eq_true rfl) ?_
 intro a0 Q d0 z0 L dh
 have dL := L 0 _ rfl
 have dM := L 1 _ rfl
 have dN := L 2 _ rfl
 have dO := L 3 _ rfl
 clear L
 have dK : Evo [1] own own w w := Evo.refl _ _ _
 refine rq_seq 58 own [0,0] [⟨[],[0],[],Fct.blk 211 4 (fun g=>pt g 0) 122 #[.func (.func 48) #[] #[ca],.func (.func 71) #[] #[sv,th]]⟩,dv [] [] 8 (Zi 0)] z0 d0 ?_ ?_
 ·exact sS (fun s=>nw1 (s.1.trans dL))<|sO (or_assign rfl)<|steps_nil
 intro bE cQ ds cY dw cf b3 aU
 obtain ⟨ai,a4,a5⟩ := kt3 cf dM dN dO
 obtain ⟨⟨k,(aj : cQ.eval (.tmp 4) = pt k 0),(m : BlkO bE 211 ds k 122 #[.func (.func 48) #[] #[ca],.func (.func 71) #[] #[sv,th]])⟩,-⟩ := b3 [0] rfl
 have bR := Evo.step dK i aU rfl
 have az := SoO.evo (by decide) aU hJx
 obtain ⟨bC,cq,j⟩ := obind j
 refine rr_seq 58 [Fct.soAt Jx 1 l0] bE [1] [0,1,0,0,15] [dv [] [4] 11 (pt k 1),dv [0] [] 12 (.func (.func 71) #[] #[sv,th]),dv [] [1] 13 (Zi M),dv [] [3] 14 (Zi C),⟨[1,2,3,5],[],[1],Fct.so Jx 214 15 bC⟩] dw cY (fm1 az) ?_ ?_
 ·refine sS (fun s=>or_field fo122_1 (s.1.trans aj) (by rfl))<|sG to117 m<|sM ai<|sM a5 ?_
  refine sc (fun own a wx hf d3 hE=>?_) ?_
  ·obtain ⟨da,db,dd,b_Jx,-⟩ := hf
   exact px (or_sswap (lab := 1) (lab2 := 214) da (args2 db dd) hS b_Jx (by decide) cq (mem_of rfl))
  exact steps_nil
 intro bF cR dt cZ dx cg b4 aV
 obtain ⟨ak,a6,a7⟩ := kt3 cg ai a4 aj
 obtain ⟨⟨(eA : cR.eval (.tmp 15) = .tuple #[]),(aA : SoO Jx bF 214 dt bC)⟩,-⟩ := b4 [4] rfl
 have bS := Evo.step bR i aV rfl
 have N := be_ aV m
 refine rq_seq 58 bF [0,1,0,4,3,31] [dv [] [1] 16 (Zi M),dv [0] [] 17 (Zi (ad M 1)),dv [] [2] 18 (Zi b2),dv [2] [] 19 (Zi (sb b2 1)),dv [1] [] 9 (Zi (ad M 1)),dv [3] [] 10 (Zi (sb b2 1))] dx cZ ?_ ?_
 ·exact sM ak<|sF (fun f=>or_add f.1 rfl rfl)<|sM a6<|sF (fun f=>or_sub f.1 rfl rfl)<|sA<|sA<|steps_nil
 intro di eo eD c0 dy ch a2 W
 obtain ⟨a8,a9⟩ := kt2 ch ak a7
 have ba := gv (a2 [4] rfl) rfl
 have aK := gv (a2 [5] rfl) rfl
 have bT := Evo.step bS i W rfl
 have O := be_ W N
 have aB := SoO.evo (by decide) W aA
 refine fl_seq (fun d9 cs dU=>?_)
 refine fl_block (fun ea dR cL dV=>?_)
 refine fl_loop (body := (fun s=>sort_partitionEqual_func_b1 Tx lf M s.1 s.2.1 s.2.2)) (z := r) (show loopO _ _ = _ from j) (fun (s : Int × Int × (List Tx)) a wx=>match s with | (a3,h,l)=>∃ (ox : Own),a.defers = [] ∧ a.tmps.size = 58 ∧ a.eval (.tmp 1) = Zi M ∧ a.eval (.tmp 4) = pt k 0 ∧ a.eval (.tmp 9) = Zi a3 ∧ a.eval (.tmp 10) = Zi h ∧ Evo [1] own ox w wx ∧ BlkO ox 211 wx k 122 #[.func (.func 48) #[] #[ca],.func (.func 71) #[] #[sv,th]] ∧ SoO Jx ox 286 wx l) ?_ ?_
 ·exact ⟨(rl [(214,286)] di),c0,dy,a8,a9,ba,aK,(Evo.rl_ bT i rfl),(BlkO.rl_ O),(SoO.rl_ aB)⟩
 ·rintro ⟨a3,h,l⟩ ah ep eE ⟨dj,c1,dA,bb,bc,bd,aL,bO,P,aC⟩ j eb ct cE dz
  have j : sort_partitionEqual_func_b1 Tx lf M a3 h l = some ah := j
  refine fl_block (fun ec cu d5 cF=>?_)
  refine fl_seq (fun ed cv dW=>?_)
  refine fl_block (fun ee dS cM dX=>?_)
  refine fl_loop (body := (fun s=>sort_partitionEqual_func_b2 Tx lf M h l s)) (z := ah) (show loopO _ _ = _ from j) (fun (c : Int) a wx=>∃ (ox : Own),a.defers = [] ∧ a.tmps.size = 58 ∧ a.eval (.tmp 1) = Zi M ∧ a.eval (.tmp 4) = pt k 0 ∧ a.eval (.tmp 9) = Zi c ∧ a.eval (.tmp 10) = Zi h ∧ Evo [1] own ox w wx ∧ BlkO ox 211 wx k 122 #[.func (.func 48) #[] #[ca],.func (.func 71) #[] #[sv,th]] ∧ SoO Jx ox 286 wx l) ?_ ?_
  ·exact ⟨dj,c1,dA,bb,bc,bd,aL,bO,P,aC⟩
  ·rintro c cO eq eF ⟨dk,c2,dC,al,am,y,I,bP,o,D⟩ j ef cw cG dB
   have j : sort_partitionEqual_func_b2 Tx lf M h l c = some cO := j
   refine fl_seq (fun eg cx cH=>?_)
   obtain ⟨aD,b0,j⟩ := obind j
   refine rq_seq 58 dk [0,0,3,7,15,31,15,15,255,511,1023] [dv [] [9] 20 (Zi c),dv [] [10] 21 (Zi h),dv [0,1] [] 22 (.bool (decide (c ≤ h))),dv [2] [] 23 (.bool (decide (c ≤ h))),dc [3] [4] (decide (c ≤ h)) 24 (pt k 0),dc [3,4] [] (decide (c ≤ h)) 25 (.func (.func 48) #[] #[ca]),dc [3] [1] (decide (c ≤ h)) 26 (Zi M),dc [3] [9] (decide (c ≤ h)) 27 (Zi c),dc [3,5,6,7] [] (decide (c ≤ h)) 28 (.bool aD),dc [3,8] [] (decide (c ≤ h)) 29 (.bool (!aD)),dv [3,9] [] 30 (.bool ((decide (c ≤ h)) && (!aD)))] dC c2 ?_ ?_
   ·exact sM y<|sM I<|sF (fun f=>or_leq f.1 f.2.1 rfl)<|sV<|cT (fun _ s _ _=>or_field fo122_0 (s.1.trans am) (by rfl))<|cT (fun f _ hE hg=>ld1 to100 (f.2.1.1 hg) (be_ hE o))<|cT (fun _ s _ _=>or_move (s.1.trans al))<|cT (fun _ s _ _=>or_move (s.1.trans y))<|cT (fun f _ hE hg=>or_callf cf48 (f.2.1.1 hg) (args2 (f.2.2.1.1 hg) (f.2.2.2.1.1 hg)) rfl (hL _ _ _ _ _ _ _ (SoO.evo (by decide) hE D) (gd_t b0 hg)) post_val)<|cT (fun f _ _ hg=>or_not (f.2.1.1 hg) rfl)<|sF (fun f=>or_and f.1 (fun hx=>f.2.1.1 hx) rfl rfl)<|steps_nil
   intro bG er eG bx bL ci b5 X
   obtain ⟨an,ao,ap,J⟩ := kt4 ci al am y I
   have aM := gv (b5 [10] rfl) rfl
   have aY := Evo.step bP i X rfl
   have p := be_ X o
   have E := SoO.evo (by decide) X D
   refine fl_cond aM j (fun cV j=>?_) (fun cV j=>?_)
   ·refine fl_skip ?_
    refine cx _ _ ?_
    refine fl_block (fun eh cy d6 dY=>?_)
    refine rq 58 bG (bz 3) [dv [] [9] 31 (Zi c),dv [0] [] 32 (Zi (ad c 1)),dv [1] [] 9 (Zi (ad c 1))] bL bx ?_ ?_
    ·exact sM ap<|sF (fun f=>or_add f.1 rfl rfl)<|sA<|steps_nil
    intro dl es eH c3 dD cj b6 Y
    obtain ⟨be,bf,aN⟩ := kt3 cj an ao J
    have bg := gv (b6 [2] rfl) rfl
    have bU := Evo.step aY i Y rfl
    have R := be_ Y p
    have aE := SoO.evo (by decide) Y E
    refine cy _ _ ?_
    exact cw _ _ _ j ⟨dl,c3,dD,be,bf,bg,aN,bU,R,aE⟩
   refine fl_exit ?_
   refine cH _ _ _ rfl ?_
   replace j := dB _ j
   refine cG _ _ _ rfl ?_
   refine cM _ _ ?_
   refine cv _ _ ?_
   refine fl_seq (fun ei cz dZ=>?_)
   refine fl_block (fun ej dT cN d1=>?_)
   refine fl_loop (body := (fun s=>sort_partitionEqual_func_b3 Tx lf M l c s)) (z := ah) (show loopO _ _ = _ from j) (fun (d : Int) a wx=>∃ (ox : Own),a.defers = [] ∧ a.tmps.size = 58 ∧ a.eval (.tmp 1) = Zi M ∧ a.eval (.tmp 4) = pt k 0 ∧ a.eval (.tmp 9) = Zi c ∧ a.eval (.tmp 10) = Zi d ∧ Evo [1] own ox w wx ∧ BlkO ox 211 wx k 122 #[.func (.func 48) #[] #[ca],.func (.func 71) #[] #[sv,th]] ∧ SoO Jx ox 286 wx l) ?_ ?_
   ·exact ⟨bG,bx,bL,an,ao,ap,J,aY,p,E⟩
   ·rintro d cP et eI ⟨dm,c4,dF,aq,ar,au,v,bQ,q,F⟩ j ek cA cI dE
    have j : sort_partitionEqual_func_b3 Tx lf M l c d = some cP := j
    refine fl_seq (fun el cB cJ=>?_)
    obtain ⟨bw,b1,j⟩ := obind j
    refine rq_seq 58 dm [0,0,3,7,15,31,15,15,255,511] [dv [] [9] 33 (Zi c),dv [] [10] 34 (Zi d),dv [0,1] [] 35 (.bool (decide (c ≤ d))),dv [2] [] 36 (.bool (decide (c ≤ d))),dc [3] [4] (decide (c ≤ d)) 37 (pt k 0),dc [3,4] [] (decide (c ≤ d)) 38 (.func (.func 48) #[] #[ca]),dc [3] [1] (decide (c ≤ d)) 39 (Zi M),dc [3] [10] (decide (c ≤ d)) 40 (Zi d),dc [3,5,6,7] [] (decide (c ≤ d)) 41 (.bool bw),dv [3,8] [] 42 (.bool ((decide (c ≤ d)) && bw))] dF c4 ?_ ?_
    ·exact sM au<|sM v<|sF (fun f=>or_leq f.1 f.2.1 rfl)<|sV<|cT (fun _ s _ _=>or_field fo122_0 (s.1.trans ar) (by rfl))<|cT (fun f _ hE hg=>ld1 to100 (f.2.1.1 hg) (be_ hE q))<|cT (fun _ s _ _=>or_move (s.1.trans aq))<|cT (fun _ s _ _=>or_move (s.1.trans v))<|cT (fun f _ hE hg=>or_callf cf48 (f.2.1.1 hg) (args2 (f.2.2.1.1 hg) (f.2.2.2.1.1 hg)) rfl (hL _ _ _ _ _ _ _ (SoO.evo (by decide) hE F) (gd_t b1 hg)) post_val)<|sF (fun f=>or_and f.1 (fun hx=>f.2.1.1 hx) rfl rfl)<|steps_nil
    intro bH eu eJ bA bM ck b7 Z
    obtain ⟨av,aw,A,x⟩ := kt4 ck aq ar au v
    have aO := gv (b7 [9] rfl) rfl
    have aZ := Evo.step bQ i Z rfl
    have t := be_ Z q
    have G := SoO.evo (by decide) Z F
    refine fl_cond aO j (fun cW j=>?_) (fun cW j=>?_)
    ·refine fl_skip ?_
     refine cB _ _ ?_
     refine fl_block (fun em cC d7 d2=>?_)
     refine rq 58 bH (bz 3) [dv [] [10] 43 (Zi d),dv [0] [] 44 (Zi (sb d 1)),dv [1] [] 10 (Zi (sb d 1))] bM bA ?_ ?_
     ·exact sM x<|sF (fun f=>or_sub f.1 rfl rfl)<|sA<|steps_nil
     intro dn ev eK c5 dG cl b8 aa
     obtain ⟨bh,bi,bj⟩ := kt3 cl av aw A
     have aP := gv (b8 [2] rfl) rfl
     have bV := Evo.step aZ i aa rfl
     have S := be_ aa t
     have aF := SoO.evo (by decide) aa G
     refine cC _ _ ?_
     exact cA _ _ _ j ⟨dn,c5,dG,bh,bi,bj,aP,bV,S,aF⟩
    refine fl_exit ?_
    refine cJ _ _ _ rfl ?_
    replace j := dE _ j
    refine cI _ _ _ rfl ?_
    refine cN _ _ ?_
    refine cz _ _ ?_
    refine fl_seq (fun en cD cK=>?_)
    refine rq_seq 58 bH [0,0,3] [dv [] [9] 45 (Zi c),dv [] [10] 46 (Zi d),dv [0,1] [] 47 (.bool (decide (d < c)))] bM bA ?_ ?_
    ·exact sM A<|sM x<|sF (fun f=>or_gtr f.1 f.2.1 rfl)<|steps_nil
    intro bI ew eL bB bN cm b9 ab
    obtain ⟨bk,ax,B,K⟩ := kt4 cm av aw A x
    have aQ := gv (b9 [2] rfl) rfl
    have a1 := Evo.step aZ i ab rfl
    have u := be_ ab t
    have H := SoO.evo (by decide) ab G
    refine fl_cond aQ j (fun cX j=>?_) (fun cX j=>?_)
    ·refine fl_exit ?_
     refine cK _ _ _ rfl ?_
     refine cF _ _ _ rfl ?_
     replace j := dz _ j
     refine cE _ _ _ rfl ?_
     refine cL _ _ ?_
     refine cs _ _ ?_
     refine rq_seq 58 bI (bz 2) [dv [] [9] 57 (Zi c),dv [0] [] 8 (Zi c)] bN bB ?_ ?_
     ·exact sM B<|sA<|steps_nil
     intro dp ex eM c6 eP dQ cb aW
     have bl := gv (cb [1] rfl) rfl
     have bW := Evo.step a1 i aW rfl
     have aG := SoO.evo (by decide) aW H
     refine fl_ret ?_
     obtain rfl := osome j
     exact dh _ _ _ _ (.inl rfl) c6 (results1_ rfl (RVal.tmp_ bl)) ⟨(rl [(286,1)] dp),rfl,(Evo.rl_ bW i rfl),(SoO.rl_ aG)⟩
    refine fl_skip ?_
    refine cD _ _ ?_
    obtain ⟨bD,cr,j⟩ := obind j
    refine rr_seq 58 [Fct.soAt Jx 286 l] bI [286] [0,1,0,0,15] [dv [] [4] 48 (pt k 1),dv [0] [] 49 (.func (.func 71) #[] #[sv,th]),dv [] [9] 50 (Zi c),dv [] [10] 51 (Zi d),⟨[1,2,3,5],[],[286],Fct.so Jx 405 52 bD⟩] bN bB (fm1 H) ?_ ?_
    ·refine sS (fun s=>or_field fo122_1 (s.1.trans ax) (by rfl))<|sG to117 u<|sM B<|sM K ?_
     refine sc (fun own a wx hf d3 hE=>?_) ?_
     ·obtain ⟨de,df,dg,b_Jx,-⟩ := hf
      exact px (or_sswap (lab := 286) (lab2 := 405) de (args2 df dg) hS b_Jx (by decide) cr (mem_of rfl))
     exact steps_nil
    intro bJ cS du c7 dH cn cc aX
    obtain ⟨bm,bn,bo,aR⟩ := kt4 cn bk ax B K
    obtain ⟨⟨(eB : cS.eval (.tmp 52) = .tuple #[]),(aH : SoO Jx bJ 405 du bD)⟩,-⟩ := cc [4] rfl
    have bX := Evo.step a1 i aX rfl
    have T := be_ aX u
    refine rq_seq 58 bJ (bz 3) [dv [] [9] 53 (Zi c),dv [0] [] 54 (Zi (ad c 1)),dv [1] [] 9 (Zi (ad c 1))] dH c7 ?_ ?_
    ·exact sM bo<|sF (fun f=>or_add f.1 rfl rfl)<|sA<|steps_nil
    intro dq ey eN c8 dI co cd ae
    obtain ⟨bp,bq,aS⟩ := kt3 co bm bn aR
    have br := gv (cd [2] rfl) rfl
    have bY := Evo.step bX i ae rfl
    have U := be_ ae T
    have aI := SoO.evo (by decide) ae aH
    refine rq 58 dq (bz 3) [dv [] [10] 55 (Zi d),dv [0] [] 56 (Zi (sb d 1)),dv [1] [] 10 (Zi (sb d 1))] dI c8 ?_ ?_
    ·exact sM aS<|sF (fun f=>or_sub f.1 rfl rfl)<|sA<|steps_nil
    intro dr ez eO c9 dJ cp ce af
    obtain ⟨bs,bt,bu⟩ := kt3 cp bp bq br
    have aT := gv (ce [2] rfl) rfl
    have bZ := Evo.step bY i af rfl
    have V := be_ af U
    have aJ := SoO.evo (by decide) af aI
    refine cu _ _ ?_
    exact ct _ _ _ j ⟨(rl [(405,286)] dr),c9,dJ,bs,bt,bu,aT,(Evo.rl_ bZ i rfl),(BlkO.rl_ V),(SoO.rl_ aJ)⟩
theorem sort_partition_func_w (w : World) (own : Own) (Tx : Type) (lf : List Tx → Int → Int → Option Bool) (ca : Value) (sv : Value) (th : Value) (l0 : List Tx) (Jx : Sj (List Tx)) (y : Int) (b2 : Int) (W : Int) (h : ∀ b,own b ≤ 1) (hL : LessS Try.prog 48 ca lf Jx) (hS : SwapS Try.prog 71 sv th Jx) (hJx : SoO Jx own 1 w l0) (r : Int × Bool × (List Tx)) (k : sort_partition_func Tx lf l0 y b2 W = some r) :
  Calls Try.prog 81 #[.agg #[.func (.func 48) #[] #[ca],.func (.func 71) #[] #[sv,th]],Zi y,Zi b2,Zi W] w fun e w'=>∃ (dw : Own),e = .returned (.tuple #[Zi r.1,.bool r.2.1]) ∧ Evo [1] own dw w w' ∧ SoO Jx dw 1 w' r.2.2 := by
 refine fl_enter (n := 107) rfl rfl rfl (Nat.le_of_ble_eq_true rfl) ?_
 intro a0 Q d0 z0 av dd
 have hb := av 0 _ rfl
 have hc := av 1 _ rfl
 have hd := av 2 _ rfl
 have he := av 3 _ rfl
 clear av
 have ha : Evo [1] own own w w := Evo.refl _ _ _
 refine rq_seq 107 own [0,0,2] [⟨[],[0],[],Fct.blk 279 4 (fun g=>pt g 0) 122 #[.func (.func 48) #[] #[ca],.func (.func 71) #[] #[sv,th]]⟩,dv [] [] 8 (Zi 0),dv [] [] 9 (.bool false)] z0 d0 ?_ ?_
 ·exact sS (fun s=>nw1 (s.1.trans hb))<|sO (or_assign rfl)<|sO (or_assign rfl)<|steps_nil
 intro di fB gD fO gK et d9 cg
 obtain ⟨a1,cw,cx⟩ := kt3 et hc hd he
 obtain ⟨⟨l,(a2 : fB.eval (.tmp 4) = pt l 0),(B : BlkO di 279 gD l 122 #[.func (.func 48) #[] #[ca],.func (.func 71) #[] #[sv,th]])⟩,-⟩ := d9 [0] rfl
 have dN := Evo.step ha h cg rfl
 have bm := SoO.evo (by decide) cg hJx
 obtain ⟨p,eO,k⟩ := obind k
 refine rr_seq 107 [Fct.soAt Jx 1 l0] di [1] [0,1,0,0,15] [dv [] [4] 12 (pt l 1),dv [0] [] 13 (.func (.func 71) #[] #[sv,th]),dv [] [1] 14 (Zi y),dv [] [3] 15 (Zi W),⟨[1,2,3,5],[],[1],Fct.so Jx 282 16 p⟩] gK fO (fm1 bm) ?_ ?_
 ·refine sS (fun s=>or_field fo122_1 (s.1.trans a2) (by rfl))<|sG to117 B<|sM a1<|sM cx ?_
  refine sc (fun own a A hf c4 T=>?_) ?_
  ·obtain ⟨ga,gb,gc,b_Jx,-⟩ := hf
   exact px (or_sswap (lab := 1) (lab2 := 282) ga (args2 gb gc) hS b_Jx (by decide) eO (mem_of rfl))
  exact steps_nil
 intro dj fC gE fP gL eu ea ch
 obtain ⟨a3,cy,cz⟩ := kt3 eu a1 cw a2
 obtain ⟨⟨(iC : fC.eval (.tmp 16) = .tuple #[]),(bn : SoO Jx dj 282 gE p)⟩,-⟩ := ea [4] rfl
 have dO := Evo.step dN h ch rfl
 have ax := be_ ch B
 refine rq_seq 107 dj [0,1,0,4,3,31] [dv [] [1] 17 (Zi y),dv [0] [] 18 (Zi (ad y 1)),dv [] [2] 19 (Zi b2),dv [2] [] 20 (Zi (sb b2 1)),dv [1] [] 10 (Zi (ad y 1)),dv [3] [] 11 (Zi (sb b2 1))] gL fP ?_ ?_
 ·exact sM a3<|sF (fun f=>or_add f.1 rfl rfl)<|sM cy<|sF (fun f=>or_sub f.1 rfl rfl)<|sA<|sA<|steps_nil
 intro gm id iH fQ gM ev cs aK
 obtain ⟨cA,cB⟩ := kt2 ev a3 cz
 have bI := gv (cs [4] rfl) rfl
 have bJ := gv (cs [5] rfl) rfl
 have dP := Evo.step dO h aK rfl
 have ay := be_ aK ax
 have bo := SoO.evo (by decide) aK bn
 refine fl_seq (fun hM eT ho=>?_)
 refine fl_block (fun hN hj fr hp=>?_)
 refine fl_loop (body := (fun s=>sort_partition_func_b1 Tx lf y b2 p s)) (z := r) (show loopO _ _ = _ from k) (fun (d : Int) a A=>∃ (ox : Own),a.defers = [] ∧ a.tmps.size = 107 ∧ a.eval (.tmp 1) = Zi y ∧ a.eval (.tmp 4) = pt l 0 ∧ a.eval (.tmp 10) = Zi d ∧ a.eval (.tmp 11) = Zi (sb b2 1) ∧ Evo [1] own ox w A ∧ BlkO ox 279 A l 122 #[.func (.func 48) #[] #[ca],.func (.func 71) #[] #[sv,th]] ∧ SoO Jx ox 282 A p) ?_ ?_
 ·exact ⟨gm,fQ,gM,cA,cB,bI,bJ,dP,ay,bo⟩
 ·rintro d fx ie iI ⟨gn,fR,gO,a4,a5,K,aj,dG,C,X⟩ k hO eU fe gN
  have k : sort_partition_func_b1 Tx lf y b2 p d = some fx := k
  refine fl_seq (fun hP eV ff=>?_)
  obtain ⟨fH,d5,k⟩ := obind k
  obtain ⟨gJ,fs,k⟩ := obind k
  refine rq_seq 107 gn [0,0,3,7,15,31,15,15,255,511] [dv [] [10] 21 (Zi d),dv [] [11] 22 (Zi (sb b2 1)),dv [0,1] [] 23 (.bool (decide (d ≤ (sb b2 1)))),dv [2] [] 24 (.bool (decide (d ≤ (sb b2 1)))),dc [3] [4] (decide (d ≤ (sb b2 1))) 25 (pt l 0),dc [3,4] [] (decide (d ≤ (sb b2 1))) 26 (.func (.func 48) #[] #[ca]),dc [3] [10] (decide (d ≤ (sb b2 1))) 27 (Zi d),dc [3] [1] (decide (d ≤ (sb b2 1))) 28 (Zi y),dc [3,5,6,7] [] (decide (d ≤ (sb b2 1))) 29 (.bool fH),dv [3,8] [] 30 (.bool gJ)] gO fR ?_ ?_
  ·exact sM K<|sM aj<|sF (fun f=>or_leq f.1 f.2.1 rfl)<|sV<|cT (fun _ s _ _=>or_field fo122_0 (s.1.trans a5) (by rfl))<|cT (fun f _ T u=>ld1 to100 (f.2.1.1 u) (be_ T C))<|cT (fun _ s _ _=>or_move (s.1.trans K))<|cT (fun _ s _ _=>or_move (s.1.trans a4))<|cT (fun f _ T u=>or_callf cf48 (f.2.1.1 u) (args2 (f.2.2.1.1 u) (f.2.2.2.1.1 u)) rfl (hL _ _ _ _ _ _ _ (SoO.evo (by decide) T X) (gd_t d5 u)) post_val)<|sF (fun f=>or_and f.1 (fun hx=>f.2.1.1 hx) rfl (osome fs).symm)<|steps_nil
  intro dk ig iJ c6 dx ew eb aL
  obtain ⟨a6,a7,ak,al⟩ := kt4 ew a4 a5 K aj
  have bK := gv (eb [9] rfl) rfl
  have cm := Evo.step dG h aL rfl
  have D := be_ aL C
  have Y := SoO.evo (by decide) aL X
  refine fl_cond bK k (fun fI k=>?_) (fun fI k=>?_)
  ·refine fl_skip ?_
   refine eV _ _ ?_
   refine fl_block (fun hQ eW hF hq=>?_)
   refine rq 107 dk (bz 3) [dv [] [10] 31 (Zi d),dv [0] [] 32 (Zi (ad d 1)),dv [1] [] 10 (Zi (ad d 1))] dx c6 ?_ ?_
   ·exact sM ak<|sF (fun f=>or_add f.1 rfl rfl)<|sA<|steps_nil
   intro go ih iK fS gP ex ec aM
   obtain ⟨cC,cD,bM⟩ := kt3 ex a6 a7 al
   have bL := gv (ec [2] rfl) rfl
   have dQ := Evo.step cm h aM rfl
   have az := be_ aM D
   have bp := SoO.evo (by decide) aM Y
   refine eW _ _ ?_
   exact eU _ _ _ k ⟨go,fS,gP,cC,cD,bL,bM,dQ,az,bp⟩
  refine fl_exit ?_
  refine ff _ _ _ rfl ?_
  replace k := gN _ k
  refine fe _ _ _ rfl ?_
  refine fr _ _ ?_
  refine eT _ _ ?_
  refine fl_seq (fun hR eX hr=>?_)
  refine fl_block (fun hT hk ft ht=>?_)
  refine fl_loop (body := (fun s=>sort_partition_func_b2 Tx lf y p d s)) (z := r) (show loopO _ _ = _ from k) (fun (i : Int) a A=>∃ (ox : Own),a.defers = [] ∧ a.tmps.size = 107 ∧ a.eval (.tmp 1) = Zi y ∧ a.eval (.tmp 4) = pt l 0 ∧ a.eval (.tmp 10) = Zi d ∧ a.eval (.tmp 11) = Zi i ∧ Evo [1] own ox w A ∧ BlkO ox 279 A l 122 #[.func (.func 48) #[] #[ca],.func (.func 71) #[] #[sv,th]] ∧ SoO Jx ox 282 A p) ?_ ?_
  ·exact ⟨dk,c6,dx,a6,a7,ak,al,cm,D,Y⟩
  ·rintro i fy ii iL ⟨gp,fT,gR,a8,a9,am,L,dH,E,Z⟩ k hU eY fg gQ
   have k : sort_partition_func_b2 Tx lf y p d i = some fy := k
   refine fl_seq (fun hV eZ fh=>?_)
   obtain ⟨bq,d6,k⟩ := obind k
   refine rq_seq 107 gp [0,0,3,7,15,31,15,15,255,511,1023] [dv [] [10] 33 (Zi d),dv [] [11] 34 (Zi i),dv [0,1] [] 35 (.bool (decide (d ≤ i))),dv [2] [] 36 (.bool (decide (d ≤ i))),dc [3] [4] (decide (d ≤ i)) 37 (pt l 0),dc [3,4] [] (decide (d ≤ i)) 38 (.func (.func 48) #[] #[ca]),dc [3] [11] (decide (d ≤ i)) 39 (Zi i),dc [3] [1] (decide (d ≤ i)) 40 (Zi y),dc [3,5,6,7] [] (decide (d ≤ i)) 41 (.bool bq),dc [3,8] [] (decide (d ≤ i)) 42 (.bool (!bq)),dv [3,9] [] 43 (.bool ((decide (d ≤ i)) && (!bq)))] gR fT ?_ ?_
   ·exact sM am<|sM L<|sF (fun f=>or_leq f.1 f.2.1 rfl)<|sV<|cT (fun _ s _ _=>or_field fo122_0 (s.1.trans a9) (by rfl))<|cT (fun f _ T u=>ld1 to100 (f.2.1.1 u) (be_ T E))<|cT (fun _ s _ _=>or_move (s.1.trans L))<|cT (fun _ s _ _=>or_move (s.1.trans a8))<|cT (fun f _ T u=>or_callf cf48 (f.2.1.1 u) (args2 (f.2.2.1.1 u) (f.2.2.2.1.1 u)) rfl (hL _ _ _ _ _ _ _ (SoO.evo (by decide) T Z) (gd_t d6 u)) post_val)<|cT (fun f _ _ u=>or_not (f.2.1.1 u) rfl)<|sF (fun f=>or_and f.1 (fun hx=>f.2.1.1 hx) rfl rfl)<|steps_nil
   intro dl ij iM c7 dy ey ed aN
   obtain ⟨ba,bb,M,N⟩ := kt4 ey a8 a9 am L
   have bN := gv (ed [10] rfl) rfl
   have cn := Evo.step dH h aN rfl
   have F := be_ aN E
   have aa := SoO.evo (by decide) aN Z
   refine fl_cond bN k (fun fJ k=>?_) (fun fJ k=>?_)
   ·refine fl_skip ?_
    refine eZ _ _ ?_
    refine fl_block (fun hW e0 hG hu=>?_)
    refine rq 107 dl (bz 3) [dv [] [11] 44 (Zi i),dv [0] [] 45 (Zi (sb i 1)),dv [1] [] 11 (Zi (sb i 1))] dy c7 ?_ ?_
    ·exact sM N<|sF (fun f=>or_sub f.1 rfl rfl)<|sA<|steps_nil
    intro gq ik iN fU gS ez ee aO
    obtain ⟨cE,cF,bO⟩ := kt3 ez ba bb M
    have bP := gv (ee [2] rfl) rfl
    have dR := Evo.step cn h aO rfl
    have aA := be_ aO F
    have br := SoO.evo (by decide) aO aa
    refine e0 _ _ ?_
    exact eY _ _ _ k ⟨gq,fU,gS,cE,cF,bO,bP,dR,aA,br⟩
   refine fl_exit ?_
   refine fh _ _ _ rfl ?_
   replace k := gQ _ k
   refine fg _ _ _ rfl ?_
   refine ft _ _ ?_
   refine eX _ _ ?_
   refine fl_seq (fun hX e1 fi=>?_)
   refine rq_seq 107 dl [0,0,3] [dv [] [10] 46 (Zi d),dv [] [11] 47 (Zi i),dv [0,1] [] 48 (.bool (decide (i < d)))] dy c7 ?_ ?_
   ·exact sM M<|sM N<|sF (fun f=>or_gtr f.1 f.2.1 rfl)<|steps_nil
   intro dm il iO c8 dz eA ef aP
   obtain ⟨bc,U,an,v⟩ := kt4 eA ba bb M N
   have bQ := gv (ef [2] rfl) rfl
   have co := Evo.step cn h aP rfl
   have q := be_ aP F
   have ab := SoO.evo (by decide) aP aa
   refine fl_cond bQ k (fun fK k=>?_) (fun fK k=>?_)
   ·obtain ⟨de,eP,k⟩ := obind k
    refine rr_seq 107 [Fct.soAt Jx 282 p] dm [282] [0,1,0,0,15] [dv [] [4] 49 (pt l 1),dv [0] [] 50 (.func (.func 71) #[] #[sv,th]),dv [] [11] 51 (Zi i),dv [] [1] 52 (Zi y),⟨[1,2,3,5],[],[282],Fct.so Jx 343 53 de⟩] dz c8 (fm1 ab) ?_ ?_
    ·refine sS (fun s=>or_field fo122_1 (s.1.trans U) (by rfl))<|sG to117 q<|sM v<|sM bc ?_
     refine sc (fun own a A hf c4 T=>?_) ?_
     ·obtain ⟨gd,ge,gf,b_Jx,-⟩ := hf
      exact px (or_sswap (lab := 282) (lab2 := 343) gd (args2 ge gf) hS b_Jx (by decide) eP (mem_of rfl))
     exact steps_nil
    intro dn fD gF fV gT eB eg dI
    have bR := kt eB v
    obtain ⟨⟨(iD : fD.eval (.tmp 53) = .tuple #[]),(bs : SoO Jx dn 343 gF de)⟩,-⟩ := eg [4] rfl
    have dS := Evo.step co h dI rfl
    refine rq_seq 107 dn (bz 3) [dv [] [11] 54 (Zi i),dv [0] [] 8 (Zi i),dv [] [] 9 (.bool true)] gT fV ?_ ?_
    ·exact sM bR<|sA<|sO (or_assign rfl)<|steps_nil
    intro gr im iP fW i3 hh ct ci
    have cG := gv (ct [1] rfl) rfl
    have cH := gv (ct [2] rfl) rfl
    have dT := Evo.step dS h ci rfl
    have bt := SoO.evo (by decide) ci bs
    refine fl_ret ?_
    refine fi _ _ _ rfl ?_
    obtain rfl := osome k
    exact dd _ _ _ _ (.inl rfl) fW (results2_ rfl (RVal.tmp_ cG) (RVal.tmp_ cH)) ⟨(rl [(343,1)] gr),rfl,(Evo.rl_ dT h rfl),(SoO.rl_ bt)⟩
   refine fl_skip ?_
   refine e1 _ _ ?_
   obtain ⟨df,eQ,k⟩ := obind k
   refine rr_seq 107 [Fct.soAt Jx 282 p] dm [282] [0,1,0,0,15] [dv [] [4] 55 (pt l 1),dv [0] [] 56 (.func (.func 71) #[] #[sv,th]),dv [] [10] 57 (Zi d),dv [] [11] 58 (Zi i),⟨[1,2,3,5],[],[282],Fct.so Jx 347 59 df⟩] dz c8 (fm1 ab) ?_ ?_
   ·refine sS (fun s=>or_field fo122_1 (s.1.trans U) (by rfl))<|sG to117 q<|sM an<|sM v ?_
    refine sc (fun own a A hf c4 T=>?_) ?_
    ·obtain ⟨gg,gh,gi,b_Jx,-⟩ := hf
     exact px (or_sswap (lab := 282) (lab2 := 347) gg (args2 gh gi) hS b_Jx (by decide) eQ (mem_of rfl))
    exact steps_nil
   intro dp fE gG fX gU eC eh cj
   obtain ⟨cI,cJ,bS,bT⟩ := kt4 eC bc U an v
   obtain ⟨⟨(iE : fE.eval (.tmp 59) = .tuple #[]),(bu : SoO Jx dp 347 gG df)⟩,-⟩ := eh [4] rfl
   have dU := Evo.step co h cj rfl
   have aB := be_ cj q
   refine rq_seq 107 dp (bz 3) [dv [] [10] 60 (Zi d),dv [0] [] 61 (Zi (ad d 1)),dv [1] [] 10 (Zi (ad d 1))] gU fX ?_ ?_
   ·exact sM bS<|sF (fun f=>or_add f.1 rfl rfl)<|sA<|steps_nil
   intro gs io iQ fY gV eD ei aQ
   obtain ⟨cK,cL,bV⟩ := kt3 eD cI cJ bT
   have bU := gv (ei [2] rfl) rfl
   have dV := Evo.step dU h aQ rfl
   have aC := be_ aQ aB
   have bv := SoO.evo (by decide) aQ bu
   refine rq_seq 107 gs (bz 3) [dv [] [11] 62 (Zi i),dv [0] [] 63 (Zi (sb i 1)),dv [1] [] 11 (Zi (sb i 1))] gV fY ?_ ?_
   ·exact sM bV<|sF (fun f=>or_sub f.1 rfl rfl)<|sA<|steps_nil
   intro gt ip iR fZ gW eE ej aR
   obtain ⟨cM,cN,bW⟩ := kt3 eE cK cL bU
   have bX := gv (ej [2] rfl) rfl
   have dW := Evo.step dV h aR rfl
   have aD := be_ aR aC
   have bw := SoO.evo (by decide) aR bv
   refine fl_seq (fun hY e2 hv=>?_)
   refine fl_block (fun hZ hl fu hw=>?_)
   refine fl_loop (body := (fun s=>sort_partition_func_b3 Tx lf y s.1 s.2.1 s.2.2)) (z := r) (show loopO _ _ = _ from k) (fun (s : Int × Int × (List Tx)) a A=>match s with | (cv,m,o)=>∃ (ox : Own),a.defers = [] ∧ a.tmps.size = 107 ∧ a.eval (.tmp 1) = Zi y ∧ a.eval (.tmp 4) = pt l 0 ∧ a.eval (.tmp 10) = Zi cv ∧ a.eval (.tmp 11) = Zi m ∧ Evo [1] own ox w A ∧ BlkO ox 279 A l 122 #[.func (.func 48) #[] #[ca],.func (.func 71) #[] #[sv,th]] ∧ SoO Jx ox 420 A o) ?_ ?_
   ·exact ⟨(rl [(347,420)] gt),fZ,gW,cM,cN,bW,bX,(Evo.rl_ dW h rfl),(BlkO.rl_ aD),(SoO.rl_ bw)⟩
   ·rintro ⟨cv,m,o⟩ aZ iq iS ⟨gu,f0,gY,cO,cP,bY,bZ,dJ,aE,bx⟩ k h0 e3 fj gX
    have k : sort_partition_func_b3 Tx lf y cv m o = some aZ := k
    refine fl_block (fun h1 e4 hH fk=>?_)
    refine fl_seq (fun h2 e5 hy=>?_)
    refine fl_block (fun h3 hm fv hz=>?_)
    refine fl_loop (body := (fun s=>sort_partition_func_b4 Tx lf y m o s)) (z := aZ) (show loopO _ _ = _ from k) (fun (c : Int) a A=>∃ (ox : Own),a.defers = [] ∧ a.tmps.size = 107 ∧ a.eval (.tmp 1) = Zi y ∧ a.eval (.tmp 4) = pt l 0 ∧ a.eval (.tmp 10) = Zi c ∧ a.eval (.tmp 11) = Zi m ∧ Evo [1] own ox w A ∧ BlkO ox 279 A l 122 #[.func (.func 48) #[] #[ca],.func (.func 71) #[] #[sv,th]] ∧ SoO Jx ox 420 A o) ?_ ?_
    ·exact ⟨gu,f0,gY,cO,cP,bY,bZ,dJ,aE,bx⟩
    ·rintro c fz ir iT ⟨gw,f1,g0,bd,be,O,ao,dK,G,ae⟩ k h4 e6 fl gZ
     have k : sort_partition_func_b4 Tx lf y m o c = some fz := k
     refine fl_seq (fun h5 e7 fm=>?_)
     obtain ⟨c5,d7,k⟩ := obind k
     refine rq_seq 107 gw [0,0,3,7,15,31,15,15,255,511] [dv [] [10] 64 (Zi c),dv [] [11] 65 (Zi m),dv [0,1] [] 66 (.bool (decide (c ≤ m))),dv [2] [] 67 (.bool (decide (c ≤ m))),dc [3] [4] (decide (c ≤ m)) 68 (pt l 0),dc [3,4] [] (decide (c ≤ m)) 69 (.func (.func 48) #[] #[ca]),dc [3] [10] (decide (c ≤ m)) 70 (Zi c),dc [3] [1] (decide (c ≤ m)) 71 (Zi y),dc [3,5,6,7] [] (decide (c ≤ m)) 72 (.bool c5),dv [3,8] [] 73 (.bool ((decide (c ≤ m)) && c5))] g0 f1 ?_ ?_
     ·exact sM O<|sM ao<|sF (fun f=>or_leq f.1 f.2.1 rfl)<|sV<|cT (fun _ s _ _=>or_field fo122_0 (s.1.trans be) (by rfl))<|cT (fun f _ T u=>ld1 to100 (f.2.1.1 u) (be_ T G))<|cT (fun _ s _ _=>or_move (s.1.trans O))<|cT (fun _ s _ _=>or_move (s.1.trans bd))<|cT (fun f _ T u=>or_callf cf48 (f.2.1.1 u) (args2 (f.2.2.1.1 u) (f.2.2.2.1.1 u)) rfl (hL _ _ _ _ _ _ _ (SoO.evo (by decide) T ae) (gd_t d7 u)) post_val)<|sF (fun f=>or_and f.1 (fun hx=>f.2.1.1 hx) rfl rfl)<|steps_nil
     intro dq it iU c9 dA eF ek aS
     obtain ⟨bf,bg,ap,aq⟩ := kt4 eF bd be O ao
     have b0 := gv (ek [9] rfl) rfl
     have cp := Evo.step dK h aS rfl
     have H := be_ aS G
     have af := SoO.evo (by decide) aS ae
     refine fl_cond b0 k (fun fL k=>?_) (fun fL k=>?_)
     ·refine fl_skip ?_
      refine e7 _ _ ?_
      refine fl_block (fun h6 e8 hI hA=>?_)
      refine rq 107 dq (bz 3) [dv [] [10] 74 (Zi c),dv [0] [] 75 (Zi (ad c 1)),dv [1] [] 10 (Zi (ad c 1))] dA c9 ?_ ?_
      ·exact sM ap<|sF (fun f=>or_add f.1 rfl rfl)<|sA<|steps_nil
      intro gx iu iV f2 g1 eG el aT
      obtain ⟨cQ,cR,b3⟩ := kt3 eG bf bg aq
      have b1 := gv (el [2] rfl) rfl
      have dX := Evo.step cp h aT rfl
      have aF := be_ aT H
      have bA := SoO.evo (by decide) aT af
      refine e8 _ _ ?_
      exact e6 _ _ _ k ⟨gx,f2,g1,cQ,cR,b1,b3,dX,aF,bA⟩
     refine fl_exit ?_
     refine fm _ _ _ rfl ?_
     replace k := gZ _ k
     refine fl _ _ _ rfl ?_
     refine fv _ _ ?_
     refine e5 _ _ ?_
     refine fl_seq (fun h7 e9 hB=>?_)
     refine fl_block (fun h8 hn fw hC=>?_)
     refine fl_loop (body := (fun s=>sort_partition_func_b5 Tx lf y o c s)) (z := aZ) (show loopO _ _ = _ from k) (fun (j : Int) a A=>∃ (ox : Own),a.defers = [] ∧ a.tmps.size = 107 ∧ a.eval (.tmp 1) = Zi y ∧ a.eval (.tmp 4) = pt l 0 ∧ a.eval (.tmp 10) = Zi c ∧ a.eval (.tmp 11) = Zi j ∧ Evo [1] own ox w A ∧ BlkO ox 279 A l 122 #[.func (.func 48) #[] #[ca],.func (.func 71) #[] #[sv,th]] ∧ SoO Jx ox 420 A o) ?_ ?_
     ·exact ⟨dq,c9,dA,bf,bg,ap,aq,cp,H,af⟩
     ·rintro j fA iv iW ⟨gy,f3,g3,bh,bi,ar,P,dL,I,ag⟩ k h9 fa fn g2
      have k : sort_partition_func_b5 Tx lf y o c j = some fA := k
      refine fl_seq (fun ia fb fo=>?_)
      obtain ⟨bB,d8,k⟩ := obind k
      refine rq_seq 107 gy [0,0,3,7,15,31,15,15,255,511,1023] [dv [] [10] 76 (Zi c),dv [] [11] 77 (Zi j),dv [0,1] [] 78 (.bool (decide (c ≤ j))),dv [2] [] 79 (.bool (decide (c ≤ j))),dc [3] [4] (decide (c ≤ j)) 80 (pt l 0),dc [3,4] [] (decide (c ≤ j)) 81 (.func (.func 48) #[] #[ca]),dc [3] [11] (decide (c ≤ j)) 82 (Zi j),dc [3] [1] (decide (c ≤ j)) 83 (Zi y),dc [3,5,6,7] [] (decide (c ≤ j)) 84 (.bool bB),dc [3,8] [] (decide (c ≤ j)) 85 (.bool (!bB)),dv [3,9] [] 86 (.bool ((decide (c ≤ j)) && (!bB)))] g3 f3 ?_ ?_
      ·exact sM ar<|sM P<|sF (fun f=>or_leq f.1 f.2.1 rfl)<|sV<|cT (fun _ s _ _=>or_field fo122_0 (s.1.trans bi) (by rfl))<|cT (fun f _ T u=>ld1 to100 (f.2.1.1 u) (be_ T I))<|cT (fun _ s _ _=>or_move (s.1.trans P))<|cT (fun _ s _ _=>or_move (s.1.trans bh))<|cT (fun f _ T u=>or_callf cf48 (f.2.1.1 u) (args2 (f.2.2.1.1 u) (f.2.2.2.1.1 u)) rfl (hL _ _ _ _ _ _ _ (SoO.evo (by decide) T ag) (gd_t d8 u)) post_val)<|cT (fun f _ _ u=>or_not (f.2.1.1 u) rfl)<|sF (fun f=>or_and f.1 (fun hx=>f.2.1.1 hx) rfl rfl)<|steps_nil
      intro dr iw iX da dB eH em aU
      obtain ⟨bj,bk,R,S⟩ := kt4 eH bh bi ar P
      have b4 := gv (em [10] rfl) rfl
      have cq := Evo.step dL h aU rfl
      have J := be_ aU I
      have ah := SoO.evo (by decide) aU ag
      refine fl_cond b4 k (fun fM k=>?_) (fun fM k=>?_)
      ·refine fl_skip ?_
       refine fb _ _ ?_
       refine fl_block (fun ib fc hJ hD=>?_)
       refine rq 107 dr (bz 3) [dv [] [11] 87 (Zi j),dv [0] [] 88 (Zi (sb j 1)),dv [1] [] 11 (Zi (sb j 1))] dB da ?_ ?_
       ·exact sM S<|sF (fun f=>or_sub f.1 rfl rfl)<|sA<|steps_nil
       intro gz ix iY f4 g4 eI en aV
       obtain ⟨cS,cU,b5⟩ := kt3 eI bj bk R
       have b6 := gv (en [2] rfl) rfl
       have dY := Evo.step cq h aV rfl
       have aG := be_ aV J
       have bC := SoO.evo (by decide) aV ah
       refine fc _ _ ?_
       exact fa _ _ _ k ⟨gz,f4,g4,cS,cU,b5,b6,dY,aG,bC⟩
      refine fl_exit ?_
      refine fo _ _ _ rfl ?_
      replace k := g2 _ k
      refine fn _ _ _ rfl ?_
      refine fw _ _ ?_
      refine e9 _ _ ?_
      refine fl_seq (fun ic fd fp=>?_)
      refine rq_seq 107 dr [0,0,3] [dv [] [10] 89 (Zi c),dv [] [11] 90 (Zi j),dv [0,1] [] 91 (.bool (decide (j < c)))] dB da ?_ ?_
      ·exact sM R<|sM S<|sF (fun f=>or_gtr f.1 f.2.1 rfl)<|steps_nil
      intro ds iy iZ db dC eJ eo aW
      obtain ⟨bl,V,au,x⟩ := kt4 eJ bj bk R S
      have b7 := gv (eo [2] rfl) rfl
      have cr := Evo.step cq h aW rfl
      have t := be_ aW J
      have ai := SoO.evo (by decide) aW ah
      refine fl_cond b7 k (fun fN k=>?_) (fun fN k=>?_)
      ·refine fl_exit ?_
       refine fp _ _ _ rfl ?_
       refine fk _ _ _ rfl ?_
       replace k := gX _ k
       refine fj _ _ _ rfl ?_
       refine fu _ _ ?_
       refine e2 _ _ ?_
       obtain ⟨dg,eR,k⟩ := obind k
       refine rr_seq 107 [Fct.soAt Jx 420 o] ds [420] [0,1,0,0,15] [dv [] [4] 101 (pt l 1),dv [0] [] 102 (.func (.func 71) #[] #[sv,th]),dv [] [11] 103 (Zi j),dv [] [1] 104 (Zi y),⟨[1,2,3,5],[],[420],Fct.so Jx 538 105 dg⟩] dC db (fm1 ai) ?_ ?_
       ·refine sS (fun s=>or_field fo122_1 (s.1.trans V) (by rfl))<|sG to117 t<|sM x<|sM bl ?_
        refine sc (fun own a A hf c4 T=>?_) ?_
        ·obtain ⟨dD,dE,dF,b_Jx,-⟩ := hf
         exact px (or_sswap (lab := 420) (lab2 := 538) dD (args2 dE dF) hS b_Jx (by decide) eR (mem_of rfl))
        exact steps_nil
       intro dt fF gH f5 g5 eK ep dM
       have b8 := kt eK x
       obtain ⟨⟨(g9 : fF.eval (.tmp 105) = .tuple #[]),(bD : SoO Jx dt 538 gH dg)⟩,-⟩ := ep [4] rfl
       have dZ := Evo.step cr h dM rfl
       refine rq_seq 107 dt (bz 3) [dv [] [11] 106 (Zi j),dv [0] [] 8 (Zi j),dv [] [] 9 (.bool false)] g5 f5 ?_ ?_
       ·exact sM b8<|sA<|sO (or_assign rfl)<|steps_nil
       intro gA iz i0 f6 i4 hi cu ck
       have cV := gv (cu [1] rfl) rfl
       have cW := gv (cu [2] rfl) rfl
       have d1 := Evo.step dZ h ck rfl
       have bE := SoO.evo (by decide) ck bD
       refine fl_ret ?_
       obtain rfl := osome k
       exact dd _ _ _ _ (.inl rfl) f6 (results2_ rfl (RVal.tmp_ cV) (RVal.tmp_ cW)) ⟨(rl [(538,1)] gA),rfl,(Evo.rl_ d1 h rfl),(SoO.rl_ bE)⟩
      refine fl_skip ?_
      refine fd _ _ ?_
      obtain ⟨dh,eS,k⟩ := obind k
      refine rr_seq 107 [Fct.soAt Jx 420 o] ds [420] [0,1,0,0,15] [dv [] [4] 92 (pt l 1),dv [0] [] 93 (.func (.func 71) #[] #[sv,th]),dv [] [10] 94 (Zi c),dv [] [11] 95 (Zi j),⟨[1,2,3,5],[],[420],Fct.so Jx 542 96 dh⟩] dC db (fm1 ai) ?_ ?_
      ·refine sS (fun s=>or_field fo122_1 (s.1.trans V) (by rfl))<|sG to117 t<|sM au<|sM x ?_
       refine sc (fun own a A hf c4 T=>?_) ?_
       ·obtain ⟨gj,gk,gl,b_Jx,-⟩ := hf
        exact px (or_sswap (lab := 420) (lab2 := 542) gj (args2 gk gl) hS b_Jx (by decide) eS (mem_of rfl))
       exact steps_nil
      intro du fG gI f7 g6 eL eq cl
      obtain ⟨cX,cY,b9,cb⟩ := kt4 eL bl V au x
      obtain ⟨⟨(iF : fG.eval (.tmp 96) = .tuple #[]),(bF : SoO Jx du 542 gI dh)⟩,-⟩ := eq [4] rfl
      have d2 := Evo.step cr h cl rfl
      have aH := be_ cl t
      refine rq_seq 107 du (bz 3) [dv [] [10] 97 (Zi c),dv [0] [] 98 (Zi (ad c 1)),dv [1] [] 10 (Zi (ad c 1))] g6 f7 ?_ ?_
      ·exact sM b9<|sF (fun f=>or_add f.1 rfl rfl)<|sA<|steps_nil
      intro gB iA i1 f8 g7 eM er aX
      obtain ⟨cZ,c0,cd⟩ := kt3 eM cX cY cb
      have cc := gv (er [2] rfl) rfl
      have d3 := Evo.step d2 h aX rfl
      have aI := be_ aX aH
      have bG := SoO.evo (by decide) aX bF
      refine rq 107 gB (bz 3) [dv [] [11] 99 (Zi j),dv [0] [] 100 (Zi (sb j 1)),dv [1] [] 11 (Zi (sb j 1))] g7 f8 ?_ ?_
      ·exact sM cd<|sF (fun f=>or_sub f.1 rfl rfl)<|sA<|steps_nil
      intro gC iB i2 f9 g8 eN es aY
      obtain ⟨c1,c2,ce⟩ := kt3 eN cZ c0 cc
      have cf := gv (es [2] rfl) rfl
      have d4 := Evo.step d3 h aY rfl
      have aJ := be_ aY aI
      have bH := SoO.evo (by decide) aY bG
      refine e4 _ _ ?_
      exact e3 _ _ _ k ⟨(rl [(542,420)] gC),f9,g8,c1,c2,ce,cf,(Evo.rl_ d4 h rfl),(BlkO.rl_ aJ),(SoO.rl_ bH)⟩
end Go.Proofs.Ytnmkonlfnpcoiaa
