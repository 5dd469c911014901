import Derived.Test.YtnmkonlfnpcoiaaWp6
import Derived.Test.YtnmkonlfnpcoiaaSp8
namespace Go.Proofs.Ytnmkonlfnpcoiaa
open Go.RowKit
set_option linter.unusedVariables false
set_option maxRecDepth 10000
theorem ref07_Read_w (w : World) (h : List Int) (g : Option Addr) (k : Nat) (x : RdO (fun _=>0) [0] w R5 g k h) (r : Int × Int × Int) (c : ref07_Read h = some r) :
  Calls Try.prog 53 #[sl g h k] w fun e w'=>∃ ds : Own,e = .returned (.tuple #[.int .u64 r.1,Zi r.2.1,Zi r.2.2]) ∧ Evo [] (fun _=>0) ds w w' := by
 refine fl_enter (n := 61) rfl rfl rfl (Nat.le_of_ble_eq_true rfl) ?_
 intro a0 Q d0 z0 a6 y
 have dK := a6 0 _ rfl
 clear a6
 have dJ : Evo [] (fun _=>0) (fun _=>0) w w := Evo.refl _ _ _
 refine rq_seq 61 (fun _=>0) (bz 3) [dv [] [] 2 (.int .u64 0),dv [] [] 3 (Zi 0),dv [] [] 4 (Zi 0)] z0 d0 ?_ ?_
 ·exact sO (or_assign rfl)<|sO (or_assign rfl)<|sO (or_assign rfl)<|steps_nil
 intro dd ej eD cX dy b9 dL bp
 have ak := kt b9 dK
 have bK := es_ dJ bp
 refine rq_seq 61 dd (bz 1) [dv [] [] 5 (Zi 0)] dy cX ?_ ?_
 ·exact sO (or_assign rfl)<|steps_nil
 intro de ek eE cY dz ca bW bq
 have al := kt ca ak
 have am := gv (bW [0] rfl) rfl
 have bL := es_ bK bq
 refine fl_seq (fun d4 cm dT=>?_)
 refine fl_block (fun d5 dR cH dU=>?_)
 refine fl_loop (body := (fun s=>ref07_Read_b1 h s)) (z := r) (show loopO _ _ = _ from c) (fun (b : Int) a wx=>∃ (ox : Own),a.defers = [] ∧ a.tmps.size = 61 ∧ a.eval (.tmp 0) = sl g h k ∧ a.eval (.tmp 5) = Zi b ∧ Evo [] (fun _=>0) ox w wx) ?_ ?_
 ·exact ⟨de,cY,dz,al,am,bL⟩
 ·rintro b cO el eF ⟨df,cZ,dB,m,o,A⟩ c d6 cn cz dA
  have c : ref07_Read_b1 h b = some cO := c
  refine fl_seq (fun d7 co cA=>?_)
  obtain ⟨bd,H,c⟩ := obind c
  obtain ⟨dt,cI,c⟩ := obind c
  refine rq_seq 61 df [0,0,2,7,15,31,31,127,255,511,1023] [dv [] [5] 8 (Zi b),dv [] [0] 9 (sl g h k),dv [1] [] 10 (Zi (h.length : Int)),dv [0,2] [] 11 (.bool (decide (b < (h.length : Int)))),dv [3] [] 12 (.bool (decide (b < (h.length : Int)))),dc [4] [0] (decide (b < (h.length : Int))) 13 (sl g h k),dc [4] [5] (decide (b < (h.length : Int))) 14 (Zi b),dc [4,5,6] [] (decide (b < (h.length : Int))) 15 (.pointer (some ((adr g).add ((b : Int).toNat * R5.s)))),dc [4,7] [] (decide (b < (h.length : Int))) 16 (.int .u8 bd),dc [4,8] [] (decide (b < (h.length : Int))) 17 (.bool (decide (128 ≤ bd))),dv [4,9] [] 18 (.bool dt)] dB cZ ?_ ?_
  ·exact sM o<|sM m<|sF (fun f=>or_len tu22 f.1 rfl)<|sF (fun f=>or_lss f.1 f.2.1 rfl)<|sV<|cT (fun _ s _ _=>or_move (s.1.trans m))<|cT (fun _ s _ _=>or_move (s.1.trans o))<|cT (fun f _ _ i=>or_index (R := R5) (l := h) tl22 (f.2.1.1 i) (f.2.2.1.1 i) (RdO.some_ (RdO.evo rfl A x) (gd_t H i)) (gd_t H i))<|cT (fun f _ hE i=>or_load1 to5 (f.2.1.1 i) (CellsAt.zero (RdO.cells (F := E5) (RdO.evo rfl hE (RdO.evo rfl A x)) (gd_t H i)) rfl))<|cT (fun f _ _ i=>or_geq (f.2.1.1 i) rfl rfl)<|sF (fun f=>or_and f.1 (fun hx=>f.2.1.1 hx) rfl (osome cI).symm)<|steps_nil
  intro a7 em eG aZ bi cb bX br
  obtain ⟨L,p⟩ := kt2 cb m o
  have Z := gv (bX [10] rfl) rfl
  have ah := es_ A br
  refine fl_cond Z c (fun cQ c=>?_) (fun cQ c=>?_)
  ·refine fl_skip ?_
   refine co _ _ ?_
   refine fl_block (fun d8 cp d1 dV=>?_)
   refine rq 61 a7 (bz 3) [dv [] [5] 19 (Zi b),dv [0] [] 20 (Zi (ad b 1)),dv [1] [] 5 (Zi (ad b 1))] bi aZ ?_ ?_
   ·exact sM p<|sF (fun f=>or_add f.1 rfl rfl)<|sA<|steps_nil
   intro dg en eH c0 dC cc bY bs
   have an := kt cc L
   have ao := gv (bY [2] rfl) rfl
   have bM := es_ ah bs
   refine cp _ _ ?_
   exact cn _ _ _ c ⟨dg,c0,dC,an,ao,bM⟩
  refine fl_exit ?_
  refine cA _ _ _ rfl ?_
  replace c := dA _ c
  refine cz _ _ _ rfl ?_
  refine cH _ _ ?_
  refine cm _ _ ?_
  refine fl_seq (fun d9 cq cB=>?_)
  refine rq_seq 61 a7 (bz 2) [dv [] [5] 21 (Zi b),dv [0] [] 22 (.bool (decide (10 ≤ b)))] bi aZ ?_ ?_
  ·exact sM p<|sF (fun f=>or_geq f.1 rfl rfl)<|steps_nil
  intro a8 eo eI a1 bj cd bZ bt
  obtain ⟨M,N⟩ := kt2 cd L p
  have aa := gv (bZ [1] rfl) rfl
  have ai := es_ ah bt
  refine fl_cond aa c (fun cR c=>?_) (fun cR c=>?_)
  ·refine rq_seq 61 a8 (bz 3) [dv [] [] 2 (.int .u64 0),dv [] [] 3 (Zi 0),dv [] [] 4 (Zi 5)] bj a1 ?_ ?_
   ·exact sO (or_assign rfl)<|sO (or_assign rfl)<|sO (or_assign rfl)<|steps_nil
   intro dh ep eJ c1 eX dM B bu
   have ap := gv (B [0] rfl) rfl
   have aq := gv (B [1] rfl) rfl
   have ar := gv (B [2] rfl) rfl
   have bN := es_ ai bu
   refine fl_ret ?_
   refine cB _ _ _ rfl ?_
   obtain rfl := osome c
   exact y _ _ _ _ (.inl rfl) c1 (results3_ rfl (RVal.tmp_ ap) (RVal.tmp_ aq) (RVal.tmp_ ar)) ⟨dh,rfl,bN⟩
  refine fl_skip ?_
  refine cq _ _ ?_
  refine fl_seq (fun ea cr cC=>?_)
  refine rq_seq 61 a8 [0,0,2,7] [dv [] [5] 23 (Zi b),dv [] [0] 24 (sl g h k),dv [1] [] 25 (Zi (h.length : Int)),dv [0,2] [] 26 (.bool (decide (b = (h.length : Int))))] bj a1 ?_ ?_
  ·exact sM N<|sM M<|sF (fun f=>or_len tu22 f.1 rfl)<|sF (fun f=>or_eql f.1 f.2.1 rfl)<|steps_nil
  intro a9 eq eK a2 bk ce b0 bv
  obtain ⟨O,P⟩ := kt2 ce M N
  have ab := gv (b0 [3] rfl) rfl
  have t := es_ ai bv
  refine fl_cond ab c (fun cS c=>?_) (fun cS c=>?_)
  ·refine rq_seq 61 a9 (bz 3) [dv [] [] 2 (.int .u64 0),dv [] [] 3 (Zi 0),dv [] [] 4 (Zi 4)] bk a2 ?_ ?_
   ·exact sO (or_assign rfl)<|sO (or_assign rfl)<|sO (or_assign rfl)<|steps_nil
   intro di er eL c2 eY dN C bw
   have au := gv (C [0] rfl) rfl
   have av := gv (C [1] rfl) rfl
   have aw := gv (C [2] rfl) rfl
   have bO := es_ t bw
   refine fl_ret ?_
   refine cC _ _ _ rfl ?_
   obtain rfl := osome c
   exact y _ _ _ _ (.inl rfl) c2 (results3_ rfl (RVal.tmp_ au) (RVal.tmp_ av) (RVal.tmp_ aw)) ⟨di,rfl,bO⟩
  refine fl_skip ?_
  refine cr _ _ ?_
  refine fl_seq (fun eb cs cD=>?_)
  obtain ⟨be,I,c⟩ := obind c
  obtain ⟨du,cJ,c⟩ := obind c
  refine rq_seq 61 a9 (bz 8) [dv [] [5] 27 (Zi b),dv [0] [] 28 (.bool (decide (b = 9))),dv [1] [] 29 (.bool (decide (b = 9))),dc [2] [0] (decide (b = 9)) 30 (sl g h k),dc [2,3] [] (decide (b = 9)) 31 (.pointer (some ((adr g).add ((9 : Int).toNat * R5.s)))),dc [2,4] [] (decide (b = 9)) 32 (.int .u8 be),dc [2,5] [] (decide (b = 9)) 33 (.bool (decide (1 < be))),dv [2,6] [] 34 (.bool du)] bk a2 ?_ ?_
  ·exact sM P<|sF (fun f=>or_eql f.1 rfl rfl)<|sV<|cT (fun _ s _ _=>or_move (s.1.trans O))<|cT (fun f _ _ i=>or_index (R := R5) (l := h) tl22 (f.2.1.1 i) rfl (RdO.some_ (RdO.evo rfl t x) (gd_t I i)) (gd_t I i))<|cT (fun f _ hE i=>or_load1 to5 (f.2.1.1 i) (CellsAt.zero (RdO.cells (F := E5) (RdO.evo rfl hE (RdO.evo rfl t x)) (gd_t I i)) rfl))<|cT (fun f _ _ i=>or_gtr (f.2.1.1 i) rfl rfl)<|sF (fun f=>or_and f.1 (fun hx=>f.2.1.1 hx) rfl (osome cJ).symm)<|steps_nil
  intro ba es eM a3 bl cf b2 bx
  obtain ⟨S,q⟩ := kt2 cf O P
  have ae := gv (b2 [7] rfl) rfl
  have u := es_ t bx
  refine fl_cond ae c (fun cU c=>?_) (fun cU c=>?_)
  ·refine rq_seq 61 ba (bz 3) [dv [] [] 2 (.int .u64 0),dv [] [] 3 (Zi 0),dv [] [] 4 (Zi 5)] bl a3 ?_ ?_
   ·exact sO (or_assign rfl)<|sO (or_assign rfl)<|sO (or_assign rfl)<|steps_nil
   intro dj et eN c3 eZ dO D bA
   have ax := gv (D [0] rfl) rfl
   have ay := gv (D [1] rfl) rfl
   have az := gv (D [2] rfl) rfl
   have bP := es_ u bA
   refine fl_ret ?_
   refine cD _ _ _ rfl ?_
   obtain rfl := osome c
   exact y _ _ _ _ (.inl rfl) c3 (results3_ rfl (RVal.tmp_ ax) (RVal.tmp_ ay) (RVal.tmp_ az)) ⟨dj,rfl,bP⟩
  refine fl_skip ?_
  refine cs _ _ ?_
  refine fl_seq (fun ec ct cE=>?_)
  obtain ⟨bf,J,c⟩ := obind c
  obtain ⟨dw,cK,c⟩ := obind c
  refine rq_seq 61 ba [0,1,3,7,7,31,63,127,255] [dv [] [5] 35 (Zi b),dv [0] [] 36 (.bool (decide (0 < b))),dv [1] [] 37 (.bool (decide (0 < b))),dc [2] [0] (decide (0 < b)) 38 (sl g h k),dc [2] [5] (decide (0 < b)) 39 (Zi b),dc [2,3,4] [] (decide (0 < b)) 40 (.pointer (some ((adr g).add ((b : Int).toNat * R5.s)))),dc [2,5] [] (decide (0 < b)) 41 (.int .u8 bf),dc [2,6] [] (decide (0 < b)) 42 (.bool (decide (bf = 0))),dv [2,7] [] 43 (.bool dw)] bl a3 ?_ ?_
  ·exact sM q<|sF (fun f=>or_gtr f.1 rfl rfl)<|sV<|cT (fun _ s _ _=>or_move (s.1.trans S))<|cT (fun _ s _ _=>or_move (s.1.trans q))<|cT (fun f _ _ i=>or_index (R := R5) (l := h) tl22 (f.2.1.1 i) (f.2.2.1.1 i) (RdO.some_ (RdO.evo rfl u x) (gd_t J i)) (gd_t J i))<|cT (fun f _ hE i=>or_load1 to5 (f.2.1.1 i) (CellsAt.zero (RdO.cells (F := E5) (RdO.evo rfl hE (RdO.evo rfl u x)) (gd_t J i)) rfl))<|cT (fun f _ _ i=>or_eql (f.2.1.1 i) rfl rfl)<|sF (fun f=>or_and f.1 (fun hx=>f.2.1.1 hx) rfl (osome cK).symm)<|steps_nil
  intro bb eu eO a4 bm cg b3 bB
  obtain ⟨aA,aB⟩ := kt2 cg S q
  have af := gv (b3 [8] rfl) rfl
  have aj := es_ u bB
  refine fl_cond af c (fun cV c=>?_) (fun cV c=>?_)
  ·refine rq_seq 61 bb (bz 3) [dv [] [] 2 (.int .u64 0),dv [] [] 3 (Zi 0),dv [] [] 4 (Zi 3)] bm a4 ?_ ?_
   ·exact sO (or_assign rfl)<|sO (or_assign rfl)<|sO (or_assign rfl)<|steps_nil
   intro dk ev eP c4 e0 dP E bC
   have aC := gv (E [0] rfl) rfl
   have aD := gv (E [1] rfl) rfl
   have aE := gv (E [2] rfl) rfl
   have bQ := es_ aj bC
   refine fl_ret ?_
   refine cE _ _ _ rfl ?_
   obtain rfl := osome c
   exact y _ _ _ _ (.inl rfl) c4 (results3_ rfl (RVal.tmp_ aC) (RVal.tmp_ aD) (RVal.tmp_ aE)) ⟨dk,rfl,bQ⟩
  refine fl_skip ?_
  refine ct _ _ ?_
  refine rq_seq 61 bb (bz 1) [dv [] [] 6 (.int .u64 0)] bm a4 ?_ ?_
  ·exact sO (or_assign rfl)<|steps_nil
  intro dl ew eQ c5 dD ch b4 bD
  obtain ⟨aF,T⟩ := kt2 ch aA aB
  have aG := gv (b4 [0] rfl) rfl
  have bR := es_ aj bD
  refine fl_seq (fun ed cu dW=>?_)
  refine rq_seq 61 dl (bz 2) [dv [] [5] 44 (Zi b),dv [0] [] 7 (Zi b)] dD c5 ?_ ?_
  ·exact sM T<|sA<|steps_nil
  intro dm ex eR c6 dE ci b5 bE
  obtain ⟨aH,aI,aJ⟩ := kt3 ci aF T aG
  have aK := gv (b5 [1] rfl) rfl
  have bS := es_ bR bE
  refine fl_block (fun ee dS cL dX=>?_)
  refine fl_loop (body := (fun s=>ref07_Read_b2 h b s.1 s.2)) (z := r) (show loopO _ _ = _ from c) (fun (s : Int × Int) a wx=>match s with | (j,d)=>∃ (ox : Own),a.defers = [] ∧ a.tmps.size = 61 ∧ a.eval (.tmp 0) = sl g h k ∧ a.eval (.tmp 5) = Zi b ∧ a.eval (.tmp 6) = .int .u64 j ∧ a.eval (.tmp 7) = Zi d ∧ Evo [] (fun _=>0) ox w wx) ?_ ?_
  ·exact ⟨dm,c6,dE,aH,aI,aJ,aK,bS⟩
  ·rintro ⟨j,d⟩ cP ey eS ⟨dn,c7,dG,aL,aM,aN,U,bF⟩ c ef cv cF dF
   have c : ref07_Read_b2 h b j d = some cP := c
   refine fl_seq (fun eg cw cG=>?_)
   refine rq_seq 61 dn (bz 2) [dv [] [7] 45 (Zi d),dv [0] [] 46 (.bool (decide (0 ≤ d)))] dG c7 ?_ ?_
   ·exact sM U<|sF (fun f=>or_geq f.1 rfl rfl)<|steps_nil
   intro bc ez eT a5 bn cj b6 bG
   obtain ⟨V,W,X,Y⟩ := kt4 cj aL aM aN U
   have ag := gv (b6 [1] rfl) rfl
   have v := es_ bF bG
   refine fl_cond ag c (fun cW c=>?_) (fun cW c=>?_)
   ·refine fl_skip ?_
    refine cw _ _ ?_
    refine fl_seq (fun eh cx dY=>?_)
    refine fl_block (fun ei cy d2 dZ=>?_)
    obtain ⟨dx,K,c⟩ := obind c
    obtain ⟨bg,cM,c⟩ := obind c
    obtain ⟨bh,cN,c⟩ := obind c
    refine rq 61 bc [0,1,0,0,12,28,60,124,255,511] [dv [] [6] 49 (.int .u64 j),dv [0] [] 50 (.int .u64 (mlK .u64 128 j)),dv [] [0] 51 (sl g h k),dv [] [7] 52 (Zi d),dv [2,3] [] 53 (.pointer (some ((adr g).add ((d : Int).toNat * R5.s)))),dv [4] [] 54 (.int .u8 dx),dv [5] [] 55 (.int .u8 bg),dv [6] [] 56 (.int .u64 (IntKind.u64.wrap bg)),dv [1,7] [] 57 (.int .u64 bh),dv [8] [] 6 (.int .u64 bh)] bn a5 ?_ ?_
    ·exact sM X<|sF (fun f=>or_mul rfl f.1 rfl)<|sM V<|sM Y<|sF (fun f=>or_index (R := R5) (l := h) tl22 f.1 f.2.1 (RdO.some_ (RdO.evo rfl v x) K) K)<|sFE (fun f hE=>or_load1 to5 f.1 (CellsAt.zero (RdO.cells (F := E5) (RdO.evo rfl hE (RdO.evo rfl v x)) K) rfl))<|sF (fun f=>or_rem f.1 rfl cM)<|sF (fun f=>or_conv f.1 tn5 tn26 rfl)<|sF (fun f=>or_add f.1 f.2.1 (osome cN).symm)<|sA<|steps_nil
    intro dp eA eU c8 dH ck b7 bH
    obtain ⟨aO,aP,aR⟩ := kt3 ck V W Y
    have aQ := gv (b7 [9] rfl) rfl
    have bT := es_ v bH
    refine cy _ _ ?_
    refine cx _ _ ?_
    refine rq 61 dp (bz 3) [dv [] [7] 47 (Zi d),dv [0] [] 48 (Zi (sb d 1)),dv [1] [] 7 (Zi (sb d 1))] dH c8 ?_ ?_
    ·exact sM aR<|sF (fun f=>or_sub f.1 rfl rfl)<|sA<|steps_nil
    intro dq eB eV c9 dI cl b8 bI
    obtain ⟨aS,aT,aU⟩ := kt3 cl aO aP aQ
    have aV := gv (b8 [2] rfl) rfl
    have bU := es_ bT bI
    exact cv _ _ _ c ⟨dq,c9,dI,aS,aT,aU,aV,bU⟩
   refine fl_exit ?_
   refine cG _ _ _ rfl ?_
   replace c := dF _ c
   refine cF _ _ _ rfl ?_
   refine cL _ _ ?_
   refine cu _ _ ?_
   refine rq_seq 61 bc [0,0,2,1,15,31] [dv [] [6] 58 (.int .u64 j),dv [] [5] 59 (Zi b),dv [1] [] 60 (Zi (ad b 1)),dv [0] [] 2 (.int .u64 j),dv [2] [] 3 (Zi (ad b 1)),dv [] [] 4 (Zi 0)] bn a5 ?_ ?_
   ·exact sM X<|sM W<|sF (fun f=>or_add f.1 rfl rfl)<|sA<|sA<|sO (or_assign rfl)<|steps_nil
   intro dr eC eW da e1 dQ G bJ
   have aW := gv (G [3] rfl) rfl
   have aX := gv (G [4] rfl) rfl
   have aY := gv (G [5] rfl) rfl
   have bV := es_ v bJ
   refine fl_ret ?_
   obtain rfl := osome c
   exact y _ _ _ _ (.inl rfl) da (results3_ rfl (RVal.tmp_ aW) (RVal.tmp_ aX) (RVal.tmp_ aY)) ⟨dr,rfl,bV⟩
theorem ref26_Take_w (w : World) (own : Own) (i : (List Int) × Int × Int) (c : Option Addr) (d : Nat) (o : ∀ b,own b ≤ 1) (u : RdO own [1] w R5 c d i.1) (r : ((List Int) × Int × Int) × Int) (S : ref26_Take i = some r) :
  Calls Try.prog 40 #[.agg #[sl c i.1 d,Zi i.2.1,Zi i.2.2]] w fun e w'=>∃ (p : Own) (x : Option Addr × Nat),e = .returned (.tuple #[.agg #[.slice x.1 r.1.1.length x.2,Zi r.1.2.1,Zi r.1.2.2],.int .u64 r.2]) ∧ Evo [] own p w w' ∧ RdO p [1,2] w' R5 x.1 x.2 r.1.1 := by
 refine fl_enter (n := 30) rfl rfl rfl (Nat.le_of_ble_eq_true rfl) ?_
 intro a0 Q d0 z0 Y ab
 have bk := Y 0 _ rfl
 clear Y
 have bi : Evo [] own own w w := Evo.refl _ _ _
 refine rq_seq 30 own [0,0,0] [⟨[],[0],[],Fct.blk 32 1 (fun g=>pt g 0) 86 #[sl c i.1 d,Zi i.2.1,Zi i.2.2]⟩,⟨[],[],[],Fct.blk 34 2 (fun g=>pt g 0) 86 #[.slice none 0 0,Zi 0,Zi 0]⟩,dv [] [] 3 (.int .u64 0)] z0 d0 ?_ ?_
 ·exact sS (fun s=>nw1 (s.1.trans bk))<|sO (nw0)<|sO (or_assign rfl)<|steps_nil
 intro av az a7 bd bp bs aQ aK
 obtain ⟨⟨k,(K : az.eval (.tmp 1) = pt k 0),(v : BlkO av 32 a7 k 86 #[sl c i.1 d,Zi i.2.1,Zi i.2.2])⟩,⟨z,(af : az.eval (.tmp 2) = pt z 0),(D : BlkO av 34 a7 z 86 #[.slice none 0 0,Zi 0,Zi 0])⟩,-⟩ := aQ [0,1] rfl
 have aN := Evo.step bi o aK rfl
 refine fl_seq (fun bt aY aZ=>?_)
 refine rq_seq 30 av (bz 3) [dv [] [1] 7 (pt k 2),dv [0] [] 8 (Zi i.2.2),dv [1] [] 9 (.bool (!decide (i.2.2 = 0)))] bp bd ?_ ?_
 ·exact sS (fun s=>or_field fo86_2 (s.1.trans K) (by rfl))<|sG to3 v<|sF (fun f=>or_neq f.1 rfl rfl)<|steps_nil
 intro a3 bu bB aB a9 aT aR T
 obtain ⟨q,B⟩ := kt2 aT K af
 have ag := gv (aR [2] rfl) rfl
 have N := Evo.step aN o T rfl
 obtain ⟨j,y⟩ := be2 T v D
 refine fl_cond ag S (fun bc S=>?_) (fun bc S=>?_)
 ·refine rr_seq 30 [Fct.at_ 34 z 86 #[.slice none 0 0,Zi 0,Zi 0]] a3 [34] (bz 3) [dv [] [1] 10 (.agg #[sl c i.1 d,Zi i.2.1,Zi i.2.2]),⟨[0,3],[2],[34],Fct.at_ 39 z 86 #[sl c i.1 d,Zi i.2.1,Zi i.2.2]⟩,dv [] [] 3 (.int .u64 0)] a9 aB (fm1 y) ?_ ?_
  ·refine sL ta86 q j ?_
   refine sc (fun own a wx O C hE=>?_) ?_
   ·obtain ⟨aC,A,-⟩ := O
    obtain ⟨aw,-⟩ := C
    exact px (or_store (l := #[sl c i.1 d,Zi i.2.1,Zi i.2.2]) (lab := 34) (lab2 := 39) ts86 (aw.trans B) aC A (by simp) (by kernel_rfl) (mem_of rfl) (by decide) (by kernel_rfl) (fun p a' w' ha hb=>hb))
   exact sO (or_assign rfl)<|steps_nil
  intro a4 bv bm be bE aU Z aL
  have ah := kt aU B
  have ai := gv (Z [2] rfl) rfl
  obtain ⟨(E : BlkO a4 39 bm z 86 #[sl c i.1 d,Zi i.2.1,Zi i.2.2]),-⟩ := Z [1] rfl
  have W := Evo.step N o aL rfl
  refine fl_ret ?_
  refine aZ _ _ _ rfl ?_
  obtain rfl := osome S
  exact ab _ _ _ _ (.inl rfl) be (results2_ rfl (RVal.cell_ ah (run_loadVarAgg (l := [sl c i.1 d,Zi i.2.1,Zi i.2.2]) ta86 (Blk.cellsFrom E.2 0 rfl) rfl)) (RVal.tmp_ ai)) ⟨a4,(c,d),rfl,W,(RdO.more (RdO.evo rfl W u) (by decide))⟩
 refine fl_skip ?_
 refine aY _ _ ?_
 obtain ⟨a8,a2,S⟩ := obind S
 obtain ⟨h,a1,S⟩ := obind S
 refine rq_seq 30 a3 [0,1,0,4,15,31,63,127,127,127,255,1535,4095] [dv [] [1] 12 (pt k 0),dv [0] [] 13 (sl c i.1 d),dv [] [1] 14 (pt k 1),dv [2] [] 15 (Zi i.2.1),⟨[1,3],[],[],Fct.view [1] 16 R5 a8⟩,dv [4] [] 17 (.tuple #[.int .u64 h.1,Zi h.2.1,Zi h.2.2]),dv [5] [] 11 (.tuple #[.int .u64 h.1,Zi h.2.1,Zi h.2.2]),dv [6] [] 18 (.int .u64 h.1),dv [6] [] 19 (Zi h.2.1),dv [6] [] 20 (Zi h.2.2),dv [7] [] 4 (.int .u64 h.1),dv [8] [] 5 (Zi h.2.1),dv [9] [] 6 (Zi h.2.2)] a9 aB ?_ ?_
 ·refine sS (fun s=>or_field fo86_0 (s.1.trans q) (by rfl))<|sG to22 j<|sS (fun s=>or_field fo86_1 (s.1.trans q) (by rfl))<|sG to3 j<|sFE (fun f hE=>or_view (R := R5) (l := i.1) (L := [1]) tu22 ts5 f.1 (Bnd.some_ f.2.1) Bnd.none_ Bnd.none_ (RdO.evo rfl hE (RdO.evo rfl N u)) a2 (.inl rfl) (by simp)) ?_
  refine sc (fun own a wx O C hE=>?_) ?_
  ·obtain ⟨⟨⟨ba,aA⟩,aD,ae⟩,-⟩ := O
   exact px (or_call cf53 (args1 aD) (ref07_Read_w _ a8 ba aA (RdO.zero ae) h a1) post_val)
  exact sV<|sF (fun f=>ok1 f.1)<|sF (fun f=>ok1 f.1)<|sF (fun f=>ok1 f.1)<|sA<|sA<|sA<|steps_nil
 intro bl bw bC bf bq aV P U
 obtain ⟨t,aj⟩ := kt2 aV q B
 have ak := gv (P [10] rfl) rfl
 have al := gv (P [11] rfl) rfl
 have am := gv (P [12] rfl) rfl
 have aO := Evo.step N o U rfl
 obtain ⟨F,G⟩ := be2 U j y
 refine rr_seq 30 [Fct.at_ 32 k 86 #[sl c i.1 d,Zi i.2.1,Zi i.2.2]] bl [32,45] [0,1,0,7,0,15,47,127,255] [dv [] [1] 21 (pt k 1),dv [0,9] [] 22 (Zi i.2.1),dv [] [5] 23 (Zi h.2.1),dv [1,2] [] 24 (Zi (ad i.2.1 h.2.1)),dv [] [6] 25 (Zi h.2.2),dv [] [1] 26 (pt k 1),⟨[5,3,9],[],[32],Fct.at_ 45 k 86 #[sl c i.1 d,Zi (ad i.2.1 h.2.1),Zi i.2.2]⟩,dv [] [1] 27 (pt k 2),⟨[7,4,6],[],[45],Fct.at_ 46 k 86 #[sl c i.1 d,Zi (ad i.2.1 h.2.1),Zi h.2.2]⟩] bq bf (fm1 F) ?_ ?_
 ·refine sS (fun s=>or_field fo86_1 (s.1.trans t) (by rfl)) ?_
  refine sc (fun own a wx O C hE=>?_) ?_
  ·obtain ⟨aE,(m : BlkO own 32 wx k 86 #[sl c i.1 d,Zi i.2.1,Zi i.2.2]),-⟩ := O
   exact px (ld1 to3 aE m)
  refine sM al<|sF (fun f=>or_add f.1 f.2.1 rfl)<|sM am<|sS (fun s=>or_field fo86_1 (s.1.trans t) (by rfl)) ?_
  refine sc (fun own a wx O C hE=>?_) ?_
  ·obtain ⟨aH,aF,m,-⟩ := O
   exact px (or_store1 (lab := 32) (lab2 := 45) ts3 aH aF m (by simp) rfl (mem_of rfl) (by decide) rfl (fun p a' w' ha hb=>hb))
  refine sS (fun s=>or_field fo86_2 (s.1.trans t) (by rfl)) ?_
  refine sc (fun own a wx O C hE=>?_) ?_
  ·obtain ⟨aI,aG,m,-⟩ := O
   exact px (or_store1 (lab := 45) (lab2 := 46) ts3 aI aG m (by simp) rfl (mem_of rfl) (by decide) rfl (fun p a' w' ha hb=>hb))
  exact steps_nil
 intro a5 bx bn bg br aW aS V
 obtain ⟨an,M,ao⟩ := kt3 aW t aj ak
 obtain ⟨(H : BlkO a5 46 bn k 86 #[sl c i.1 d,Zi (ad i.2.1 h.2.1),Zi h.2.2]),-⟩ := aS [8] rfl
 have aP := Evo.step aO o V rfl
 have I := be_ V G
 refine rr_seq 30 [Fct.at_ 34 z 86 #[.slice none 0 0,Zi 0,Zi 0]] a5 [34] [0,0,1,7] [dv [] [1] 28 (.agg #[sl c i.1 d,Zi (ad i.2.1 h.2.1),Zi h.2.2]),dv [] [4] 29 (.int .u64 h.1),⟨[0,4],[2],[34],Fct.at_ 48 z 86 #[sl c i.1 d,Zi (ad i.2.1 h.2.1),Zi h.2.2]⟩,dv [1] [] 3 (.int .u64 h.1)] br bg (fm1 I) ?_ ?_
 ·refine sL ta86 an H<|sM ao ?_
  refine sc (fun own a wx O C hE=>?_) ?_
  ·obtain ⟨aJ,A,-⟩ := O
   obtain ⟨aw,-⟩ := C
   exact px (or_store (l := #[sl c i.1 d,Zi (ad i.2.1 h.2.1),Zi h.2.2]) (lab := 34) (lab2 := 48) ts86 (aw.trans M) aJ A (by simp) (by kernel_rfl) (mem_of rfl) (by decide) (by kernel_rfl) (fun p a' w' ha hb=>hb))
  exact sA<|steps_nil
 intro a6 bA bo bh bF aX aa aM
 have ap := kt aX M
 have aq := gv (aa [3] rfl) rfl
 obtain ⟨(J : BlkO a6 48 bo z 86 #[sl c i.1 d,Zi (ad i.2.1 h.2.1),Zi h.2.2]),-⟩ := aa [2] rfl
 have X := Evo.step aP o aM rfl
 refine fl_ret ?_
 obtain rfl := osome S
 exact ab _ _ _ _ (.inl rfl) bh (results2_ rfl (RVal.cell_ ap (run_loadVarAgg (l := [sl c i.1 d,Zi (ad i.2.1 h.2.1),Zi h.2.2]) ta86 (Blk.cellsFrom J.2 0 rfl) rfl)) (RVal.tmp_ aq)) ⟨a6,(c,d),rfl,X,(RdO.more (RdO.evo rfl X u) (by decide))⟩
theorem ref27_some_w (w : World) (own : Own) (D : (List Int) × Int × Int) (p : Option Addr) (t : Nat) (k : ∀ b,own b ≤ 1) (aT : RdO own [1] w R5 p t D.1) (r : ((List Int) × Int × Int) × ByteArray) (C : ref27_some D = some r) :
  Calls Try.prog 38 #[.agg #[sl p D.1 t,Zi D.2.1,Zi D.2.2]] w fun e w'=>∃ (u : Own) (x : Option Addr × Nat),e = .returned (.tuple #[.agg #[.slice x.1 r.1.1.length x.2,Zi r.1.2.1,Zi r.1.2.2],.string r.2]) ∧ Evo [] own u w w' ∧ RdO u [1,2] w' R5 x.1 x.2 r.1.1 := by
 refine fl_enter (n := 49) rfl rfl rfl (Nat.le_of_ble_eq_true rfl) ?_
 intro a0 Q d0 z0 a2 a6
 have cC := a2 0 _ rfl
 clear a2
 have cB : Evo [] own own w w := Evo.refl _ _ _
 refine rq_seq 49 own [0,0,0] [⟨[],[0],[],Fct.blk 60 1 (fun g=>pt g 0) 86 #[sl p D.1 t,Zi D.2.1,Zi D.2.2]⟩,⟨[],[],[],Fct.blk 62 2 (fun g=>pt g 0) 86 #[.slice none 0 0,Zi 0,Zi 0]⟩,dv [] [] 3 (.string ByteArray.empty)] z0 d0 ?_ ?_
 ·exact sS (fun s=>nw1 (s.1.trans cC))<|sO (nw0)<|sO (or_assign rfl)<|steps_nil
 intro bA bG cm ct cN cW b0 bS
 obtain ⟨⟨j,(V : bG.eval (.tmp 1) = pt j 0),(al : BlkO bA 60 cm j 86 #[sl p D.1 t,Zi D.2.1,Zi D.2.2])⟩,⟨E,(bd : bG.eval (.tmp 2) = pt E 0),(am : BlkO bA 62 cm E 86 #[.slice none 0 0,Zi 0,Zi 0])⟩,-⟩ := b0 [0,1] rfl
 have aZ := Evo.step cB k bS rfl
 obtain ⟨c,cd,C⟩ := obind C
 refine rr_seq 49 [Fct.at_ 60 j 86 #[sl p D.1 t,Zi D.2.1,Zi D.2.2]] bA [60] [0,1,3,7,7,15,63] [dv [7] [1] 7 (.agg #[sl p D.1 t,Zi D.2.1,Zi D.2.2]),⟨[0],[],[],Fct.mems [70,71,1] 8 (fun (x : Option Addr × Nat)=>.tuple #[.agg #[.slice x.1 c.1.1.length x.2,Zi c.1.2.1,Zi c.1.2.2],.int .u64 c.2]) (fun (x : Option Addr × Nat) own w=>RdO own [70,71,1] w R5 x.1 x.2 c.1.1) (fun hk he h=>RdO.evo (hits_sub hk (by decide)) he h)⟩,⟨[1],[],[],Fct.rel [6,8] (fun l=>∀ (i : Option Addr) (d : Nat),l.getD 1 undef = .tuple #[.agg #[sl i c.1.1 d,Zi c.1.2.1,Zi c.1.2.2],.int .u64 c.2] → l.getD 0 undef = .tuple #[.agg #[sl i c.1.1 d,Zi c.1.2.1,Zi c.1.2.2],.int .u64 c.2])⟩,⟨[2,1],[],[],Fct.rel [9,8] (fun l=>∀ (i : Option Addr) (d : Nat),l.getD 1 undef = .tuple #[.agg #[sl i c.1.1 d,Zi c.1.2.1,Zi c.1.2.2],.int .u64 c.2] → l.getD 0 undef = .agg #[sl i c.1.1 d,Zi c.1.2.1,Zi c.1.2.2])⟩,dv [2,1] [] 10 (.int .u64 c.2),⟨[3,1,7],[1],[60],Fct.by_ [72] [8] (fun l own w=>∀ (i : Option Addr) (d : Nat),l.getD 0 undef = .tuple #[.agg #[sl i c.1.1 d,Zi c.1.2.1,Zi c.1.2.2],.int .u64 c.2] → BlkO own 72 w j 86 #[sl i c.1.1 d,Zi c.1.2.1,Zi c.1.2.2]) (fun hk he h _ _ Y=>BlkO.evo (not_hit hk (by decide)) he (h _ _ Y))⟩,dv [4] [] 4 (.int .u64 c.2)] cN ct (fm1 al) ?_ ?_
 ·refine sc (fun own a wx F y M=>?_) ?_
  ·obtain ⟨(m : BlkO own 60 wx j 86 #[sl p D.1 t,Zi D.2.1,Zi D.2.2]),-⟩ := F
   obtain ⟨bD,-⟩ := y
   exact px (ldS ta86 (bD.trans V) m)
  refine sc (fun own _ _ f _ M=>px (or_call cf40 (args1 f.1) (ref26_Take_w _ (forth own (inL [1])) D p t inL_le (RdO.alias_ (La := [1]) (RdO.evo rfl M (RdO.evo rfl aZ aT)) (by decide)) c cd) (post_alias (La := [1]) (m' := (look0 [(1,70),(2,71)])) (fun u w' a' x ho cG h1 h=>⟨x,h1,RdO.backN_ ho cG h (by decide) (by decide) (by decide)⟩)))) ?_
  refine sc (fun own a wx F y M=>?_) ?_
  ·obtain ⟨⟨⟨i,d⟩,(z : a.eval (.tmp 8) = .tuple #[.agg #[sl i c.1.1 d,Zi c.1.2.1,Zi c.1.2.2],.int .u64 c.2]),T⟩,-⟩ := F
   exact px (or_mono (f := Fct.val 6 (.tuple #[.agg #[sl i c.1.1 d,Zi c.1.2.1,Zi c.1.2.2],.int .u64 c.2])) (or_move z) (fun u a' w' v' hp h=>fun _ _ Y=>by cases (z.symm.trans ((hp.2 8 (by decide)).symm.trans Y)); exact h))
  refine sc (fun own a wx F y M=>?_) ?_
  ·obtain ⟨(bC : ∀ (i : Option Addr) (d : Nat),a.eval (.tmp 8) = .tuple #[.agg #[sl i c.1.1 d,Zi c.1.2.1,Zi c.1.2.2],.int .u64 c.2] → a.eval (.tmp 6) = .tuple #[.agg #[sl i c.1.1 d,Zi c.1.2.1,Zi c.1.2.2],.int .u64 c.2]),⟨⟨i,d⟩,(z : a.eval (.tmp 8) = .tuple #[.agg #[sl i c.1.1 d,Zi c.1.2.1,Zi c.1.2.2],.int .u64 c.2]),T⟩,-⟩ := F
   have bq := bC _ _ z
   exact px (or_mono (f := Fct.val 9 (.agg #[sl i c.1.1 d,Zi c.1.2.1,Zi c.1.2.2])) (ok1 bq) (fun u a' w' v' hp h=>fun _ _ Y=>by cases (z.symm.trans ((hp.2 8 (by decide)).symm.trans Y)); exact h))
  refine sc (fun own a wx F y M=>?_) ?_
  ·obtain ⟨(bC : ∀ (i : Option Addr) (d : Nat),a.eval (.tmp 8) = .tuple #[.agg #[sl i c.1.1 d,Zi c.1.2.1,Zi c.1.2.2],.int .u64 c.2] → a.eval (.tmp 6) = .tuple #[.agg #[sl i c.1.1 d,Zi c.1.2.1,Zi c.1.2.2],.int .u64 c.2]),⟨⟨i,d⟩,z,T⟩,-⟩ := F
   have bq := bC _ _ z
   exact px (ok1 bq)
  refine sc (fun own a wx F y M=>?_) ?_
  ·obtain ⟨(cI : ∀ (i : Option Addr) (d : Nat),a.eval (.tmp 8) = .tuple #[.agg #[sl i c.1.1 d,Zi c.1.2.1,Zi c.1.2.2],.int .u64 c.2] → a.eval (.tmp 9) = .agg #[sl i c.1.1 d,Zi c.1.2.1,Zi c.1.2.2]),⟨⟨i,d⟩,(z : a.eval (.tmp 8) = .tuple #[.agg #[sl i c.1.1 d,Zi c.1.2.1,Zi c.1.2.2],.int .u64 c.2]),T⟩,m,-⟩ := F
   have cA := cI _ _ z
   obtain ⟨bD,-⟩ := y
   exact px (or_store (l := #[sl i c.1.1 d,Zi c.1.2.1,Zi c.1.2.2]) (lab := 60) (lab2 := 72) ts86 (bD.trans V) cA m (by simp) (by kernel_rfl) (mem_of rfl) (by decide) (by kernel_rfl) (fun u a' w' ha hb=>fun _ _ Y=>by cases (z.symm.trans ((ha 8).symm.trans Y)); exact hb))
  exact sA<|steps_nil
 intro bB bH cn cu cO b4 a3 aW
 obtain ⟨K,be⟩ := kt2 b4 V bd
 have aE := gv (a3 [6] rfl) rfl
 obtain ⟨⟨⟨i,d⟩,(z : bH.eval (.tmp 8) = .tuple #[.agg #[sl i c.1.1 d,Zi c.1.2.1,Zi c.1.2.2],.int .u64 c.2]),(an : RdO bB [70,71,1] cn R5 i d c.1.1)⟩,(aO : ∀ (i : Option Addr) (d : Nat),bH.eval (.tmp 8) = .tuple #[.agg #[sl i c.1.1 d,Zi c.1.2.1,Zi c.1.2.2],.int .u64 c.2] → BlkO bB 72 cn j 86 #[sl i c.1.1 d,Zi c.1.2.1,Zi c.1.2.2]),-⟩ := a3 [1,5] rfl
 have v := aO _ _ z
 have bU := Evo.step aZ k aW rfl
 have ao := be_ aW am
 refine fl_seq (fun cr ca cX=>?_)
 have bF : ∀ (S : Act) (aj : World) (ai : Own) (o : Int),S.defers = [] → S.tmps.size = 49 → S.eval (.tmp 1) = pt j 0 → S.eval (.tmp 2) = pt E 0 → S.eval (.tmp 4) = .int .u64 c.2 → Evo [] own ai w aj → BlkO ai 81 aj j 86 #[sl i c.1.1 d,Zi c.1.2.1,Zi o] → RdO ai [70,71,1] aj R5 i d c.1.1 → BlkO ai 62 aj E 86 #[.slice none 0 0,Zi 0,Zi 0] → ref27_some_k1 c o = some r → cr .normal S aj := by
  intro S aj ai o cv cP aF bf bg bT N ap aq C
  refine ca _ _ ?_
  refine fl_seq (fun c0 cb cc=>?_)
  refine rq_seq 49 ai (bz 3) [dv [] [1] 26 (pt j 2),dv [0] [] 27 (Zi o),dv [1] [] 28 (.bool (!decide (o = 0)))] cP cv ?_ ?_
  ·exact sS (fun s=>or_field fo86_2 (s.1.trans aF) (by rfl))<|sG to3 N<|sF (fun f=>or_neq f.1 rfl rfl)<|steps_nil
  intro ch c2 db bK cq b5 b1 aI
  obtain ⟨B,W,aG⟩ := kt3 b5 aF bf bg
  have aS := gv (b1 [2] rfl) rfl
  have a1 := Evo.step bT k aI rfl
  obtain ⟨q,O⟩ := be2 aI N aq
  have A := RdO.evo rfl aI ap
  refine fl_cond aS C (fun cs C=>?_) (fun cs C=>?_)
  ·refine rr_seq 49 [Fct.at_ 62 E 86 #[.slice none 0 0,Zi 0,Zi 0]] ch [62] (bz 3) [dv [] [1] 29 (.agg #[sl i c.1.1 d,Zi c.1.2.1,Zi o]),⟨[0,3],[2],[62],Fct.at_ 88 E 86 #[sl i c.1.1 d,Zi c.1.2.1,Zi o]⟩,dv [] [] 3 (.string ByteArray.empty)] cq bK (fm1 O) ?_ ?_
   ·refine sL ta86 B q ?_
    refine sc (fun own a wx F y M=>?_) ?_
    ·obtain ⟨bM,U,-⟩ := F
     obtain ⟨bE,-⟩ := y
     exact px (or_store (l := #[sl i c.1.1 d,Zi c.1.2.1,Zi o]) (lab := 62) (lab2 := 88) ts86 (bE.trans W) bM U (by simp) (by kernel_rfl) (mem_of rfl) (by decide) (by kernel_rfl) (fun u a' w' ha hb=>hb))
    exact sO (or_assign rfl)<|steps_nil
   intro ci c3 cJ cw df b6 a4 aX
   have bh := kt b6 W
   have bi := gv (a4 [2] rfl) rfl
   obtain ⟨(au : BlkO ci 88 cJ E 86 #[sl i c.1.1 d,Zi c.1.2.1,Zi o]),-⟩ := a4 [1] rfl
   have bV := Evo.step a1 k aX rfl
   have ar := RdO.evo rfl aX A
   refine fl_ret ?_
   refine cc _ _ _ rfl ?_
   obtain rfl := osome C
   exact a6 _ _ _ _ (.inl rfl) cw (results2_ rfl (RVal.cell_ bh (run_loadVarAgg (l := [sl i c.1.1 d,Zi c.1.2.1,Zi o]) ta86 (Blk.cellsFrom au.2 0 rfl) rfl)) (RVal.tmp_ bi)) ⟨(rl [(70,2),(71,2)] ci),(i,d),rfl,(Evo.rl_ bV k rfl),(RdO.more (RdO.rl_ ar) (by decide))⟩
  refine fl_skip ?_
  refine cb _ _ ?_
  obtain ⟨cM,ce,C⟩ := obind C
  obtain ⟨aM,cf,C⟩ := obind C
  refine rq_seq 49 ch [0,1,0,4,0,16,0,64,240,511,1023,2047] [dv [] [1] 30 (pt j 0),dv [0] [] 31 (sl i c.1.1 d),dv [] [1] 32 (pt j 1),dv [2] [] 33 (Zi c.1.2.1),dv [] [1] 34 (pt j 1),dv [4] [] 35 (Zi c.1.2.1),dv [] [4] 36 (.int .u64 c.2),dv [6] [] 37 (Zi (IntKind.i64.wrap c.2)),dv [5,7] [] 38 (Zi cM),⟨[1,3,8],[],[],Fct.view [70,71,1] 39 R5 aM⟩,dv [9] [] 40 (.string (bsS aM)),dv [10] [] 5 (.string (bsS aM))] cq bK ?_ ?_
  ·refine sS (fun s=>or_field fo86_0 (s.1.trans B) (by rfl))<|sG to22 q<|sS (fun s=>or_field fo86_1 (s.1.trans B) (by rfl))<|sG to3 q<|sS (fun s=>or_field fo86_1 (s.1.trans B) (by rfl))<|sG to3 q<|sM aG<|sF (fun f=>or_conv f.1 tn26 tn3 rfl)<|sF (fun f=>or_add f.1 f.2.1 (osome ce).symm)<|sFE (fun f M=>or_view (R := R5) (l := c.1.1) (L := [70,71,1]) tu22 ts5 f.1 (Bnd.some_ f.2.1) (Bnd.some_ f.2.2.1) Bnd.none_ (RdO.evo rfl M A) cf (.inl rfl) (by simp)) ?_
   refine sc (fun own a wx F y M=>?_) ?_
   ·obtain ⟨⟨⟨cZ,cV⟩,bN,bc⟩,-⟩ := F
    exact px (or_convBS tu22 tn5 tS9 bN bc)
   exact sA<|steps_nil
  intro cH c4 dd cx cQ b7 b2 aJ
  obtain ⟨X,bj,bk⟩ := kt3 b7 B W aG
  have bl := gv (b2 [11] rfl) rfl
  have bW := Evo.step a1 k aJ rfl
  obtain ⟨aw,ax⟩ := be2 aJ q O
  have av := RdO.evo rfl aJ A
  obtain ⟨P,cg,C⟩ := obind C
  refine rr_seq 49 [Fct.at_ 81 j 86 #[sl i c.1.1 d,Zi c.1.2.1,Zi o]] cH [81] [0,1,0,4,15,31,63] [dv [] [1] 41 (pt j 1),dv [0,7] [] 42 (Zi c.1.2.1),dv [] [4] 43 (.int .u64 c.2),dv [2] [] 44 (Zi (IntKind.i64.wrap c.2)),dv [1,3] [] 45 (Zi P),dv [] [1] 46 (pt j 1),⟨[5,4,7],[],[81],Fct.at_ 96 j 86 #[sl i c.1.1 d,Zi P,Zi o]⟩] cQ cx (fm1 aw) ?_ ?_
  ·refine sS (fun s=>or_field fo86_1 (s.1.trans X) (by rfl)) ?_
   refine sc (fun own a wx F y M=>?_) ?_
   ·obtain ⟨bO,(m : BlkO own 81 wx j 86 #[sl i c.1.1 d,Zi c.1.2.1,Zi o]),-⟩ := F
    exact px (ld1 to3 bO m)
   refine sM bk<|sF (fun f=>or_conv f.1 tn26 tn3 rfl)<|sF (fun f=>or_add f.1 f.2.1 (osome cg).symm)<|sS (fun s=>or_field fo86_1 (s.1.trans X) (by rfl)) ?_
   refine sc (fun own a wx F y M=>?_) ?_
   ·obtain ⟨bQ,bP,m,-⟩ := F
    exact px (or_store1 (lab := 81) (lab2 := 96) ts3 bQ bP m (by simp) rfl (mem_of rfl) (by decide) rfl (fun u a' w' ha hb=>hb))
   exact steps_nil
  intro cj c5 cK cy cR b8 b3 aK
  obtain ⟨bm,aH,bn⟩ := kt3 b8 X bj bl
  obtain ⟨(az : BlkO cj 96 cK j 86 #[sl i c.1.1 d,Zi P,Zi o]),-⟩ := b3 [6] rfl
  have bX := Evo.step bW k aK rfl
  have aA := be_ aK ax
  have ay := RdO.evo rfl aK av
  refine rr_seq 49 [Fct.at_ 62 E 86 #[.slice none 0 0,Zi 0,Zi 0]] cj [62] [0,0,1,7] [dv [] [1] 47 (.agg #[sl i c.1.1 d,Zi P,Zi o]),dv [] [5] 48 (.string (bsS aM)),⟨[0,4],[2],[62],Fct.at_ 98 E 86 #[sl i c.1.1 d,Zi P,Zi o]⟩,dv [1] [] 3 (.string (bsS aM))] cR cy (fm1 aA) ?_ ?_
  ·refine sL ta86 bm az<|sM bn ?_
   refine sc (fun own a wx F y M=>?_) ?_
   ·obtain ⟨bR,U,-⟩ := F
    obtain ⟨bE,-⟩ := y
    exact px (or_store (l := #[sl i c.1.1 d,Zi P,Zi o]) (lab := 62) (lab2 := 98) ts86 (bE.trans aH) bR U (by simp) (by kernel_rfl) (mem_of rfl) (by decide) (by kernel_rfl) (fun u a' w' ha hb=>hb))
   exact sA<|steps_nil
  intro ck c6 cL cz dg b9 a5 aY
  have bo := kt b9 aH
  have bp := gv (a5 [3] rfl) rfl
  obtain ⟨(aC : BlkO ck 98 cL E 86 #[sl i c.1.1 d,Zi P,Zi o]),-⟩ := a5 [2] rfl
  have bY := Evo.step bX k aY rfl
  have aB := RdO.evo rfl aY ay
  refine fl_ret ?_
  obtain rfl := osome C
  exact a6 _ _ _ _ (.inl rfl) cz (results2_ rfl (RVal.cell_ bo (run_loadVarAgg (l := [sl i c.1.1 d,Zi P,Zi o]) ta86 (Blk.cellsFrom aC.2 0 rfl) rfl)) (RVal.tmp_ bp)) ⟨(rl [(70,2),(71,2)] ck),(i,d),rfl,(Evo.rl_ bY k rfl),(RdO.more (RdO.rl_ aB) (by decide))⟩
 obtain ⟨a9,bw,C⟩ := obind C
 obtain ⟨co,bx,C⟩ := obind C
 refine rq_seq 49 bB [0,1,3,7,15,15,47,111,15,271,1007,2031,4095,8191] [dv [] [1] 11 (pt j 2),dv [0] [] 12 (Zi c.1.2.2),dv [1] [] 13 (.bool (decide (c.1.2.2 = 0))),dv [2] [] 14 (.bool (decide (c.1.2.2 = 0))),dc [3] [4] (decide (c.1.2.2 = 0)) 15 (.int .u64 c.2),dc [3] [1] (decide (c.1.2.2 = 0)) 16 (pt j 0),dc [3,5] [] (decide (c.1.2.2 = 0)) 17 (sl i c.1.1 d),dc [3,6] [] (decide (c.1.2.2 = 0)) 18 (Zi (c.1.1.length : Int)),dc [3] [1] (decide (c.1.2.2 = 0)) 19 (pt j 1),dc [3,8] [] (decide (c.1.2.2 = 0)) 20 (Zi c.1.2.1),dc [3,7,9] [] (decide (c.1.2.2 = 0)) 21 (Zi (sb (c.1.1.length : Int) c.1.2.1)),dc [3,10] [] (decide (c.1.2.2 = 0)) 22 (.int .u64 a9),dc [3,4,11] [] (decide (c.1.2.2 = 0)) 23 (.bool (decide (a9 < c.2))),dv [3,12] [] 24 (.bool co)] cO cu ?_ ?_
 ·exact sS (fun s=>or_field fo86_2 (s.1.trans K) (by rfl))<|sG to3 v<|sF (fun f=>or_eql f.1 rfl rfl)<|sV<|cT (fun _ s _ _=>or_move (s.1.trans aE))<|cT (fun _ s _ _=>or_field fo86_0 (s.1.trans K) (by rfl))<|cT (fun f _ M hg=>ld1 to22 (f.2.1.1 hg) (be_ M v))<|cT (fun f _ _ hg=>or_len tu22 (f.2.1.1 hg) rfl)<|cT (fun _ s _ _=>or_field fo86_1 (s.1.trans K) (by rfl))<|cT (fun f _ M hg=>ld1 to3 (f.2.1.1 hg) (be_ M v))<|cT (fun f _ _ hg=>or_sub (f.2.1.1 hg) (f.2.2.1.1 hg) rfl)<|cT (fun f _ _ hg=>or_conv (f.2.1.1 hg) tn3 tn26 (osome bw).symm)<|cT (fun f _ _ hg=>or_gtr (f.2.1.1 hg) (f.2.2.1.1 hg) rfl)<|sF (fun f=>or_and f.1 (fun hx=>f.2.1.1 hx) rfl (osome bx).symm)<|steps_nil
 intro a7 cS cY aV ba bu bs Z
 obtain ⟨J,ab,ad⟩ := kt3 bu K be aE
 have aD := gv (bs [13] rfl) rfl
 have aL := Evo.step bU k Z rfl
 obtain ⟨I,H⟩ := be2 Z ao v
 have G := RdO.evo rfl Z an
 refine fl_cond aD C (fun bI C=>?_) (fun bI C=>?_)
 ·refine rr 49 [Fct.at_ 72 j 86 #[sl i c.1.1 d,Zi c.1.2.1,Zi c.1.2.2]] a7 [72] (bz 2) [dv [] [1] 25 (pt j 2),⟨[0,2],[],[72],Fct.at_ 104 j 86 #[sl i c.1.1 d,Zi c.1.2.1,Zi 4]⟩] ba aV (fm1 H) ?_ ?_
  ·refine sS (fun s=>or_field fo86_2 (s.1.trans J) (by rfl)) ?_
   refine sc (fun own a wx F y M=>?_) ?_
   ·obtain ⟨bL,m,-⟩ := F
    exact px (or_store1 (lab := 72) (lab2 := 104) ts3 bL rfl m (by simp) rfl (mem_of rfl) (by decide) rfl (fun u a' w' ha hb=>hb))
   exact steps_nil
  intro a8 cU cl bJ cp bv bt aa
  obtain ⟨aP,aQ,aR⟩ := kt3 bv J ab ad
  obtain ⟨(af : BlkO a8 104 cl j 86 #[sl i c.1.1 d,Zi c.1.2.1,Zi 4]),-⟩ := bt [1] rfl
  have br := Evo.step aL k aa rfl
  have ag := be_ aa I
  have ae := RdO.evo rfl aa G
  exact (bF _ _ (rl [(104,81)] a8) _ bJ cp aP aQ aR (Evo.rl_ br k rfl) (BlkO.rl_ af) (RdO.rl_ ae) (BlkO.rl_ ag) C)
 refine fl_skip ?_
 exact (bF _ _ (rl [(72,81)] a7) _ aV ba J ab ad (Evo.rl_ aL k rfl) (BlkO.rl_ H) (RdO.rl_ G) (BlkO.rl_ I) C)
theorem ref26_Up_w (w : World) (own : Own) (z : (List Int) × Int × Int) (m : Option Addr) (o : Nat) (j : Int) (x3 : Int) (p : ∀ b,own b ≤ 1) (ay : RdO own [1] w R5 m o z.1) (r : ((List Int) × Int × Int) × Int) (S : ref26_Up z j x3 = some r) :
  Calls Try.prog 39 #[.agg #[sl m z.1 o,Zi z.2.1,Zi z.2.2],Zi j,Zi x3] w fun e w'=>∃ (u : Own) (x : Option Addr × Nat),e = .returned (.tuple #[.agg #[.slice x.1 r.1.1.length x.2,Zi r.1.2.1,Zi r.1.2.2],Zi r.2]) ∧ Evo [] own u w w' ∧ RdO u [1,2] w' R5 x.1 x.2 r.1.1 := by
 refine fl_enter (n := 32) rfl rfl rfl (Nat.le_of_ble_eq_true rfl) ?_
 intro a0 Q d0 z0 T aK
 have b7 := T 0 _ rfl
 have b8 := T 1 _ rfl
 have b9 := T 2 _ rfl
 clear T
 have b6 : Evo [] own own w w := Evo.refl _ _ _
 refine rq_seq 32 own [0,0,0] [⟨[],[0],[],Fct.blk 50 3 (fun g=>pt g 0) 86 #[sl m z.1 o,Zi z.2.1,Zi z.2.2]⟩,⟨[],[],[],Fct.blk 52 6 (fun g=>pt g 0) 86 #[.slice none 0 0,Zi 0,Zi 0]⟩,dv [] [] 7 (Zi 0)] z0 d0 ?_ ?_
 ·exact sS (fun s=>nw1 (s.1.trans b7))<|sO (nw0)<|sO (or_assign rfl)<|steps_nil
 intro a6 bd bQ b0 ci bw bs bm
 obtain ⟨aM,aN⟩ := kt2 bw b8 b9
 obtain ⟨⟨t,(N : bd.eval (.tmp 3) = pt t 0),(W : BlkO a6 50 bQ t 86 #[sl m z.1 o,Zi z.2.1,Zi z.2.2])⟩,⟨A,(aO : bd.eval (.tmp 6) = pt A 0),(X : BlkO a6 52 bQ A 86 #[.slice none 0 0,Zi 0,Zi 0])⟩,-⟩ := bs [0,1] rfl
 have aE := Evo.step b6 p bm rfl
 obtain ⟨c,bI,S⟩ := obind S
 refine rr_seq 32 [Fct.at_ 50 t 86 #[sl m z.1 o,Zi z.2.1,Zi z.2.2]] a6 [50] [0,1,3,7,7,15,63] [dv [7] [3] 10 (.agg #[sl m z.1 o,Zi z.2.1,Zi z.2.2]),⟨[0],[],[],Fct.mems [60,61,1] 11 (fun (x : Option Addr × Nat)=>.tuple #[.agg #[.slice x.1 c.1.1.length x.2,Zi c.1.2.1,Zi c.1.2.2],.int .u64 c.2]) (fun (x : Option Addr × Nat) own w=>RdO own [60,61,1] w R5 x.1 x.2 c.1.1) (fun hk he h=>RdO.evo (hits_sub hk (by decide)) he h)⟩,⟨[1],[],[],Fct.rel [9,11] (fun l=>∀ (i : Option Addr) (d : Nat),l.getD 1 undef = .tuple #[.agg #[sl i c.1.1 d,Zi c.1.2.1,Zi c.1.2.2],.int .u64 c.2] → l.getD 0 undef = .tuple #[.agg #[sl i c.1.1 d,Zi c.1.2.1,Zi c.1.2.2],.int .u64 c.2])⟩,⟨[2,1],[],[],Fct.rel [12,11] (fun l=>∀ (i : Option Addr) (d : Nat),l.getD 1 undef = .tuple #[.agg #[sl i c.1.1 d,Zi c.1.2.1,Zi c.1.2.2],.int .u64 c.2] → l.getD 0 undef = .agg #[sl i c.1.1 d,Zi c.1.2.1,Zi c.1.2.2])⟩,dv [2,1] [] 13 (.int .u64 c.2),⟨[3,1,7],[3],[50],Fct.by_ [62] [11] (fun l own w=>∀ (i : Option Addr) (d : Nat),l.getD 0 undef = .tuple #[.agg #[sl i c.1.1 d,Zi c.1.2.1,Zi c.1.2.2],.int .u64 c.2] → BlkO own 62 w t 86 #[sl i c.1.1 d,Zi c.1.2.1,Zi c.1.2.2]) (fun hk he h _ _ P=>BlkO.evo (not_hit hk (by decide)) he (h _ _ P))⟩,dv [4] [] 8 (.int .u64 c.2)] ci b0 (fm1 W) ?_ ?_
 ·refine sc (fun own a wx R y hE=>?_) ?_
  ·obtain ⟨(v : BlkO own 50 wx t 86 #[sl m z.1 o,Zi z.2.1,Zi z.2.2]),-⟩ := R
   obtain ⟨a9,-⟩ := y
   exact px (ldS ta86 (a9.trans N) v)
  refine sc (fun own _ _ f _ hE=>px (or_call cf40 (args1 f.1) (ref26_Take_w _ (forth own (inL [1])) z m o inL_le (RdO.alias_ (La := [1]) (RdO.evo rfl hE (RdO.evo rfl aE ay)) (by decide)) c bI) (post_alias (La := [1]) (m' := (look0 [(1,60),(2,61)])) (fun u w' a' x ho cd h1 h=>⟨x,h1,RdO.backN_ ho cd h (by decide) (by decide) (by decide)⟩)))) ?_
  refine sc (fun own a wx R y hE=>?_) ?_
  ·obtain ⟨⟨⟨i,d⟩,(k : a.eval (.tmp 11) = .tuple #[.agg #[sl i c.1.1 d,Zi c.1.2.1,Zi c.1.2.2],.int .u64 c.2]),L⟩,-⟩ := R
   exact px (or_mono (f := Fct.val 9 (.tuple #[.agg #[sl i c.1.1 d,Zi c.1.2.1,Zi c.1.2.2],.int .u64 c.2])) (or_move k) (fun u a' w' v' hp h=>fun _ _ P=>by cases (k.symm.trans ((hp.2 11 (by decide)).symm.trans P)); exact h))
  refine sc (fun own a wx R y hE=>?_) ?_
  ·obtain ⟨(a8 : ∀ (i : Option Addr) (d : Nat),a.eval (.tmp 11) = .tuple #[.agg #[sl i c.1.1 d,Zi c.1.2.1,Zi c.1.2.2],.int .u64 c.2] → a.eval (.tmp 9) = .tuple #[.agg #[sl i c.1.1 d,Zi c.1.2.1,Zi c.1.2.2],.int .u64 c.2]),⟨⟨i,d⟩,(k : a.eval (.tmp 11) = .tuple #[.agg #[sl i c.1.1 d,Zi c.1.2.1,Zi c.1.2.2],.int .u64 c.2]),L⟩,-⟩ := R
   have a4 := a8 _ _ k
   exact px (or_mono (f := Fct.val 12 (.agg #[sl i c.1.1 d,Zi c.1.2.1,Zi c.1.2.2])) (ok1 a4) (fun u a' w' v' hp h=>fun _ _ P=>by cases (k.symm.trans ((hp.2 11 (by decide)).symm.trans P)); exact h))
  refine sc (fun own a wx R y hE=>?_) ?_
  ·obtain ⟨(a8 : ∀ (i : Option Addr) (d : Nat),a.eval (.tmp 11) = .tuple #[.agg #[sl i c.1.1 d,Zi c.1.2.1,Zi c.1.2.2],.int .u64 c.2] → a.eval (.tmp 9) = .tuple #[.agg #[sl i c.1.1 d,Zi c.1.2.1,Zi c.1.2.2],.int .u64 c.2]),⟨⟨i,d⟩,k,L⟩,-⟩ := R
   have a4 := a8 _ _ k
   exact px (ok1 a4)
  refine sc (fun own a wx R y hE=>?_) ?_
  ·obtain ⟨(bP : ∀ (i : Option Addr) (d : Nat),a.eval (.tmp 11) = .tuple #[.agg #[sl i c.1.1 d,Zi c.1.2.1,Zi c.1.2.2],.int .u64 c.2] → a.eval (.tmp 12) = .agg #[sl i c.1.1 d,Zi c.1.2.1,Zi c.1.2.2]),⟨⟨i,d⟩,(k : a.eval (.tmp 11) = .tuple #[.agg #[sl i c.1.1 d,Zi c.1.2.1,Zi c.1.2.2],.int .u64 c.2]),L⟩,v,-⟩ := R
   have bh := bP _ _ k
   obtain ⟨a9,-⟩ := y
   exact px (or_store (l := #[sl i c.1.1 d,Zi c.1.2.1,Zi c.1.2.2]) (lab := 50) (lab2 := 62) ts86 (a9.trans N) bh v (by simp) (by kernel_rfl) (mem_of rfl) (by decide) (by kernel_rfl) (fun u a' w' ha hb=>fun _ _ P=>by cases (k.symm.trans ((ha 11).symm.trans P)); exact hb))
  exact sA<|steps_nil
 intro a7 be bR b1 cj bx aH aB
 obtain ⟨aP,aQ,ak,aR⟩ := kt4 bx aM aN N aO
 have al := gv (aH [6] rfl) rfl
 obtain ⟨⟨⟨i,d⟩,(k : be.eval (.tmp 11) = .tuple #[.agg #[sl i c.1.1 d,Zi c.1.2.1,Zi c.1.2.2],.int .u64 c.2]),(Y : RdO a7 [60,61,1] bR R5 i d c.1.1)⟩,(av : ∀ (i : Option Addr) (d : Nat),be.eval (.tmp 11) = .tuple #[.agg #[sl i c.1.1 d,Zi c.1.2.1,Zi c.1.2.2],.int .u64 c.2] → BlkO a7 62 bR t 86 #[sl i c.1.1 d,Zi c.1.2.1,Zi c.1.2.2]),-⟩ := aH [1,5] rfl
 have C := av _ _ k
 have bo := Evo.step aE p aB rfl
 have Z := be_ aB X
 refine fl_seq (fun bX bF cm=>?_)
 have bc : ∀ (K : Act) (V : World) (U : Own) (q : Int),K.defers = [] → K.tmps.size = 32 → K.eval (.tmp 3) = pt t 0 → K.eval (.tmp 6) = pt A 0 → K.eval (.tmp 8) = .int .u64 c.2 → Evo [] own U w V → BlkO U 70 V t 86 #[sl i c.1.1 d,Zi c.1.2.1,Zi q] → RdO U [60,61,1] V R5 i d c.1.1 → BlkO U 52 V A 86 #[.slice none 0 0,Zi 0,Zi 0] → ref26_Up_k1 c q = some r → bX .normal K V := by
  intro K V U q b2 ck am aS aT bn D aa ab S
  refine bF _ _ ?_
  refine fl_seq (fun cn bG bH=>?_)
  refine rq_seq 32 U (bz 3) [dv [] [3] 25 (pt t 2),dv [0] [] 26 (Zi q),dv [1] [] 27 (.bool (!decide (q = 0)))] ck b2 ?_ ?_
  ·exact sS (fun s=>or_field fo86_2 (s.1.trans am) (by rfl))<|sG to3 D<|sF (fun f=>or_neq f.1 rfl rfl)<|steps_nil
  intro bK co cx bf bT bA bt aq
  obtain ⟨an,B,aU⟩ := kt3 bA am aS aT
  have aw := gv (bt [2] rfl) rfl
  have aF := Evo.step bn p aq rfl
  obtain ⟨F,G⟩ := be2 aq D ab
  have E := RdO.evo rfl aq aa
  refine fl_cond aw S (fun bY S=>?_) (fun bY S=>?_)
  ·refine rr_seq 32 [Fct.at_ 52 A 86 #[.slice none 0 0,Zi 0,Zi 0]] bK [52] (bz 3) [dv [] [3] 28 (.agg #[sl i c.1.1 d,Zi c.1.2.1,Zi q]),⟨[0,3],[6],[52],Fct.at_ 77 A 86 #[sl i c.1.1 d,Zi c.1.2.1,Zi q]⟩,dv [] [] 7 (Zi 0)] bT bf (fm1 G) ?_ ?_
   ·refine sL ta86 an F ?_
    refine sc (fun own a wx R y hE=>?_) ?_
    ·obtain ⟨bk,M,-⟩ := R
     obtain ⟨ba,-⟩ := y
     exact px (or_store (l := #[sl i c.1.1 d,Zi c.1.2.1,Zi q]) (lab := 52) (lab2 := 77) ts86 (ba.trans B) bk M (by simp) (by kernel_rfl) (mem_of rfl) (by decide) (by kernel_rfl) (fun u a' w' ha hb=>hb))
    exact sO (or_assign rfl)<|steps_nil
   intro bL cp ce b3 cA bB aI aC
   have aV := kt bB B
   have aW := gv (aI [2] rfl) rfl
   obtain ⟨(ae : BlkO bL 77 ce A 86 #[sl i c.1.1 d,Zi c.1.2.1,Zi q]),-⟩ := aI [1] rfl
   have bp := Evo.step aF p aC rfl
   have ad := RdO.evo rfl aC E
   refine fl_ret ?_
   refine bH _ _ _ rfl ?_
   obtain rfl := osome S
   exact aK _ _ _ _ (.inl rfl) b3 (results2_ rfl (RVal.cell_ aV (run_loadVarAgg (l := [sl i c.1.1 d,Zi c.1.2.1,Zi q]) ta86 (Blk.cellsFrom ae.2 0 rfl) rfl)) (RVal.tmp_ aW)) ⟨(rl [(60,2),(61,2)] bL),(i,d),rfl,(Evo.rl_ bp p rfl),(RdO.more (RdO.rl_ ad) (by decide))⟩
  refine fl_skip ?_
  refine bG _ _ ?_
  refine rr_seq 32 [Fct.at_ 52 A 86 #[.slice none 0 0,Zi 0,Zi 0]] bK [52] [0,0,2,1,15] [dv [] [3] 29 (.agg #[sl i c.1.1 d,Zi c.1.2.1,Zi q]),dv [] [8] 30 (.int .u64 c.2),dv [1] [] 31 (Zi (IntKind.i64.wrap c.2)),⟨[0,5],[6],[52],Fct.at_ 79 A 86 #[sl i c.1.1 d,Zi c.1.2.1,Zi q]⟩,dv [2] [] 7 (Zi (IntKind.i64.wrap c.2))] bT bf (fm1 G) ?_ ?_
  ·refine sL ta86 an F<|sM aU<|sF (fun f=>or_conv f.1 tn26 tn3 rfl) ?_
   refine sc (fun own a wx R y hE=>?_) ?_
   ·obtain ⟨bl,M,-⟩ := R
    obtain ⟨ba,-⟩ := y
    exact px (or_store (l := #[sl i c.1.1 d,Zi c.1.2.1,Zi q]) (lab := 52) (lab2 := 79) ts86 (ba.trans B) bl M (by simp) (by kernel_rfl) (mem_of rfl) (by decide) (by kernel_rfl) (fun u a' w' ha hb=>hb))
   exact sA<|steps_nil
  intro bM cq cf b4 cB bC aJ aD
  have aX := kt bC B
  have aY := gv (aJ [4] rfl) rfl
  obtain ⟨(ag : BlkO bM 79 cf A 86 #[sl i c.1.1 d,Zi c.1.2.1,Zi q]),-⟩ := aJ [3] rfl
  have bq := Evo.step aF p aD rfl
  have af := RdO.evo rfl aD E
  refine fl_ret ?_
  obtain rfl := osome S
  exact aK _ _ _ _ (.inl rfl) b4 (results2_ rfl (RVal.cell_ aX (run_loadVarAgg (l := [sl i c.1.1 d,Zi c.1.2.1,Zi q]) ta86 (Blk.cellsFrom ag.2 0 rfl) rfl)) (RVal.tmp_ aY)) ⟨(rl [(60,2),(61,2)] bM),(i,d),rfl,(Evo.rl_ bq p rfl),(RdO.more (RdO.rl_ af) (by decide))⟩
 obtain ⟨ch,bJ,S⟩ := obind S
 refine rq_seq 32 a7 [0,1,3,7,15,15,47,127,255] [dv [] [3] 14 (pt t 2),dv [0] [] 15 (Zi c.1.2.2),dv [1] [] 16 (.bool (decide (c.1.2.2 = 0))),dv [2] [] 17 (.bool (decide (c.1.2.2 = 0))),dc [3] [8] (decide (c.1.2.2 = 0)) 18 (.int .u64 c.2),dc [3] [1] (decide (c.1.2.2 = 0)) 19 (Zi j),dc [3,5] [] (decide (c.1.2.2 = 0)) 20 (.int .u64 (IntKind.u64.wrap j)),dc [3,4,6] [] (decide (c.1.2.2 = 0)) 21 (.bool (decide ((IntKind.u64.wrap j) < c.2))),dv [3,7] [] 22 (.bool ch)] cj b1 ?_ ?_
 ·exact sS (fun s=>or_field fo86_2 (s.1.trans ak) (by rfl))<|sG to3 C<|sF (fun f=>or_eql f.1 rfl rfl)<|sV<|cT (fun _ s _ _=>or_move (s.1.trans al))<|cT (fun _ s _ _=>or_move (s.1.trans aP))<|cT (fun f _ _ hg=>or_conv (f.2.1.1 hg) tn3 tn26 rfl)<|cT (fun f _ _ hg=>or_gtr (f.2.1.1 hg) (f.2.2.1.1 hg) rfl)<|sF (fun f=>or_and f.1 (fun hx=>f.2.1.1 hx) rfl (osome bJ).symm)<|steps_nil
 intro bN cr cy bg bU bD bu ar
 obtain ⟨aZ,O,ao,ap⟩ := kt4 bD aQ ak aR al
 have ax := gv (bu [8] rfl) rfl
 have aG := Evo.step bo p ar rfl
 obtain ⟨J,I⟩ := be2 ar Z C
 have H := RdO.evo rfl ar Y
 refine fl_cond ax S (fun bZ S=>?_) (fun bZ S=>?_)
 ·refine rr 32 [Fct.at_ 62 t 86 #[sl i c.1.1 d,Zi c.1.2.1,Zi c.1.2.2]] bN [62] (bz 3) [dv [] [2] 23 (Zi x3),dv [] [3] 24 (pt t 2),⟨[1,0,3],[],[62],Fct.at_ 84 t 86 #[sl i c.1.1 d,Zi c.1.2.1,Zi x3]⟩] bU bg (fm1 I) ?_ ?_
  ·refine sM aZ<|sS (fun s=>or_field fo86_2 (s.1.trans O) (by rfl)) ?_
   refine sc (fun own a wx R y hE=>?_) ?_
   ·obtain ⟨bj,bi,v,-⟩ := R
    exact px (or_store1 (lab := 62) (lab2 := 84) ts3 bj bi v (by simp) rfl (mem_of rfl) (by decide) rfl (fun u a' w' ha hb=>hb))
   exact steps_nil
  intro bO cs cg b5 cl bE bv au
  obtain ⟨a1,a2,a3⟩ := kt3 bE O ao ap
  obtain ⟨(ai : BlkO bO 84 cg t 86 #[sl i c.1.1 d,Zi c.1.2.1,Zi x3]),-⟩ := bv [2] rfl
  have br := Evo.step aG p au rfl
  have aj := be_ au J
  have ah := RdO.evo rfl au H
  exact (bc _ _ (rl [(84,70)] bO) _ b5 cl a1 a2 a3 (Evo.rl_ br p rfl) (BlkO.rl_ ai) (RdO.rl_ ah) (BlkO.rl_ aj) S)
 refine fl_skip ?_
 exact (bc _ _ (rl [(62,70)] bN) _ bg bU O ao ap (Evo.rl_ aG p rfl) (BlkO.rl_ I) (RdO.rl_ H) (BlkO.rl_ J) S)
set_option maxHeartbeats 2000000 in
theorem ref27_Open_w (w : World) (b1 : List Int) (aF : Option Addr) (aI : Nat) (zn : RdO (fun _=>0) [0] w R5 aF aI b1) (r : (ByteArray × (List ((Int × Int × Int) × ByteArray))) × Int) (K : ref27_Open b1 = some r) :
  Calls Try.prog 19 #[sl aF b1 aI] w fun e w'=>∃ (U : Own) (x : Option Addr × Nat),e = .returned (.tuple #[.agg #[.string r.1.1,.slice x.1 r.1.2.length x.2],Zi r.2]) ∧ Evo [] (fun _=>0) U w w' ∧ RwO U 1 [] w' 77 R77 x.1 x.2 r.1.2 := by
 refine fl_enter (n := 215) rfl rfl rfl (Nat.le_of_ble_eq_true rfl) ?_
 intro a0 Q d0 z0 wf kz
 have A0 := wf 0 _ rfl
 clear wf
 have AZ : Evo [] (fun _=>0) (fun _=>0) w w := Evo.refl _ _ _
 refine rq_seq 215 (fun _=>0) [0,0] [⟨[],[],[],Fct.blk 2835 2 (fun g=>pt g 0) 43 #[.string ByteArray.empty,.slice none 0 0]⟩,dv [] [] 3 (Zi 0)] z0 d0 ?_ ?_
 ·exact sO (nw0)<|sO (or_assign rfl)<|steps_nil
 intro r5 wn xV wI yk uI t4 tg
 have dZ := kt uI A0
 obtain ⟨⟨H,(nU : wn.eval (.tmp 2) = pt H 0),(eS : BlkO r5 2835 xV H 43 #[.string ByteArray.empty,.slice none 0 0])⟩,-⟩ := t4 [0] rfl
 have k7 := es_ AZ tg
 refine fl_seq (fun zZ vc vC=>?_)
 obtain ⟨kZ,vV,K⟩ := obind K
 obtain ⟨yd,vW,K⟩ := obind K
 refine rq_seq 215 r5 (bz 9) [dv [] [0] 17 (sl aF b1 aI),dv [0] [] 18 (Zi (b1.length : Int)),dv [1] [] 19 (.bool (decide ((b1.length : Int) < 4))),dv [2] [] 20 (.bool (decide ((b1.length : Int) < 4))),dc [3] [0] (!(decide ((b1.length : Int) < 4))) 21 (sl aF b1 aI),⟨[3,4],[],[],Fct.cond (!(decide ((b1.length : Int) < 4))) (some 22) (Fct.view [0] 22 R5 kZ)⟩,dc [3,5] [] (!(decide ((b1.length : Int) < 4))) 23 (.string (bsS kZ)),dc [3,6] [] (!(decide ((b1.length : Int) < 4))) 24 (.bool (!eqS (bsS kZ) (⟨#[71,82,84,49]⟩ : ByteArray))),dv [3,7] [] 25 (.bool yd)] yk wI ?_ ?_
 ·refine sM dZ<|sF (fun f=>or_len tu22 f.1 rfl)<|sF (fun f=>or_lss f.1 rfl rfl)<|sV<|cF (fun _ s _ _=>or_move (s.1.trans dZ))<|cF (fun f _ hE hg=>or_view (R := R5) (l := b1) (L := [0]) tu22 ts5 (f.2.1.1 hg) Bnd.none_ (Bnd.some_ rfl) Bnd.none_ (RdO.evo rfl hE (RdO.evo rfl k7 zn)) (gd_t vV hg) (.inl rfl) (by simp)) ?_
  refine sc (fun own a wx hf T hE=>?_) ?_
  ·obtain ⟨y5,y4,-⟩ := hf
   refine sg_f rfl rfl rfl y5 (fun hg=>?_)
   obtain ⟨⟨zW,zu⟩,y6,ny⟩ := y4.1 hg
   exact or_convBS tu22 tn5 tS9 y6 ny
  exact cF (fun f _ _ hg=>or_neqS tS9 (f.2.1.1 hg) rfl rfl)<|sF (fun f=>or_or f.1 rfl (fun hx=>f.2.1.1 hx) (osome vW).symm)<|steps_nil
 intro r6 Al A3 nF sY uJ t5 k1
 obtain ⟨ji,d1⟩ := kt2 uJ dZ nU
 have lV := gv (t5 [8] rfl) rfl
 have k8 := es_ k7 k1
 have bv := be_ k1 eS
 refine fl_cond lV K (fun ws K=>?_) (fun ws K=>?_)
 ·refine rr_seq 215 [Fct.at_ 2835 H 43 #[.string ByteArray.empty,.slice none 0 0]] r6 [2835] (bz 3) [dv [] [] 26 (.agg #[.string ByteArray.empty,.slice none 0 0]),⟨[0,3],[2],[2835],Fct.at_ 2843 H 43 #[.string ByteArray.empty,.slice none 0 0]⟩,dv [] [] 3 (Zi 17)] sY nF (fm1 bv) ?_ ?_
  ·refine sO (or_k [] rfl rfl trivial (by kernel_rfl)) ?_
   refine sc (fun own a wx hf T hE=>?_) ?_
   ·obtain ⟨y7,au,-⟩ := hf
    obtain ⟨jg,-⟩ := T
    exact px (or_store (l := #[.string ByteArray.empty,.slice none 0 0]) (lab := 2835) (lab2 := 2843) ts43 (jg.trans d1) y7 au (by simp) (by kernel_rfl) (mem_of rfl) (by decide) (by kernel_rfl) (fun U a' w' ha hb=>hb))
   exact sO (or_assign rfl)<|steps_nil
  intro r7 Am xW wJ Bv uK lo th
  have nV := kt uK d1
  have nW := gv (lo [2] rfl) rfl
  obtain ⟨(eT : BlkO r7 2843 xW H 43 #[.string ByteArray.empty,.slice none 0 0]),-⟩ := lo [1] rfl
  have tx := es_ k8 th
  refine fl_ret ?_
  refine vC _ _ _ rfl ?_
  obtain rfl := osome K
  exact kz _ _ _ _ (.inl rfl) wJ (results2_ rfl (RVal.cell_ nV (run_loadVarAgg (l := [.string ByteArray.empty,.slice none 0 0]) ta43 (Blk.cellsFrom eT.2 0 rfl) rfl)) (RVal.tmp_ nW)) ⟨r7,(none,0),rfl,tx,RwO.nil_⟩
 refine fl_skip ?_
 refine vc _ _ ?_
 refine rp_seq 215 r6 [2846] [0,1,0,7] [dv [] [0] 27 (sl aF b1 aI),dv [0] [] 28 (.agg #[sl aF b1 aI,Zi 4,Zi 0]),⟨[],[],[],Fct.blk 2846 4 (fun g=>pt g 0) 86 #[.slice none 0 0,Zi 0,Zi 0]⟩,⟨[2,1],[],[2846],Fct.blk 2847 4 (fun g=>pt g 0) 86 #[sl aF b1 aI,Zi 4,Zi 0]⟩] sY nF ?_ ?_
 ·refine sM ji<|sF (fun f=>ok1 f.1)<|sO (nw0) ?_
  refine sc (fun own a wx hf T hE=>?_) ?_
  ·obtain ⟨⟨m,zd,q⟩,y8,-⟩ := hf
   exact px (or_store (l := #[sl aF b1 aI,Zi 4,Zi 0]) (lab := 2846) (lab2 := 2847) ts86 zd y8 q (by simp) (by kernel_rfl) (mem_of rfl) (by decide) (by kernel_rfl) (fun U a' w' ha hb=>⟨_,(ha 4).trans zd,hb⟩))
  exact steps_nil
 intro r8 wo xX wK yl uL t6 k2
 obtain ⟨nX,nY⟩ := kt2 uL ji d1
 obtain ⟨⟨m,(nZ : wo.eval (.tmp 4) = pt m 0),(eV : BlkO r8 2847 xX m 86 #[sl aF b1 aI,Zi 4,Zi 0])⟩,-⟩ := t6 [3] rfl
 have ty := es_ k8 k2
 have eU := be_ k2 bv
 refine rq_seq 215 r8 (bz 1) [⟨[],[],[],Fct.blk 2850 5 (fun g=>pt g 0) 43 #[.string ByteArray.empty,.slice none 0 0]⟩] yl wK ?_ ?_
 ·exact sO (nw0)<|steps_nil
 intro r9 wp xY wL ym uM t7 k3
 obtain ⟨n0,n1,d2⟩ := kt3 uM nX nY nZ
 obtain ⟨⟨M,(jj : wp.eval (.tmp 5) = pt M 0),(eY : BlkO r9 2850 xY M 43 #[.string ByteArray.empty,.slice none 0 0])⟩,-⟩ := t7 [0] rfl
 have k9 := es_ ty k3
 obtain ⟨eW,eX⟩ := be2 k3 eU eV
 obtain ⟨c,vM,K⟩ := obind K
 refine rr_seq 215 [Fct.at_ 2847 m 86 #[sl aF b1 aI,Zi 4,Zi 0],Fct.at_ 2850 M 43 #[.string ByteArray.empty,.slice none 0 0]] r9 [2847,2850] [0,1,3,7,7,15,63,127] [dv [8] [4] 30 (.agg #[sl aF b1 aI,Zi 4,Zi 0]),⟨[0],[],[],Fct.mems [2863,2864,0] 31 (fun (x : Option Addr × Nat)=>.tuple #[.agg #[.slice x.1 c.1.1.length x.2,Zi c.1.2.1,Zi c.1.2.2],.string c.2]) (fun (x : Option Addr × Nat) own w=>RdO own [2863,2864,0] w R5 x.1 x.2 c.1.1) (fun hk he h=>RdO.evo (hits_sub hk (by decide)) he h)⟩,⟨[1],[],[],Fct.rel [29,31] (fun l=>∀ (I : Option Addr) (v : Nat),l.getD 1 undef = .tuple #[.agg #[sl I c.1.1 v,Zi c.1.2.1,Zi c.1.2.2],.string c.2] → l.getD 0 undef = .tuple #[.agg #[sl I c.1.1 v,Zi c.1.2.1,Zi c.1.2.2],.string c.2])⟩,⟨[2,1],[],[],Fct.rel [32,31] (fun l=>∀ (I : Option Addr) (v : Nat),l.getD 1 undef = .tuple #[.agg #[sl I c.1.1 v,Zi c.1.2.1,Zi c.1.2.2],.string c.2] → l.getD 0 undef = .agg #[sl I c.1.1 v,Zi c.1.2.1,Zi c.1.2.2])⟩,dv [2,1] [] 33 (.string c.2),⟨[3,1,8],[4],[2847],Fct.by_ [2865] [31] (fun l own w=>∀ (I : Option Addr) (v : Nat),l.getD 0 undef = .tuple #[.agg #[sl I c.1.1 v,Zi c.1.2.1,Zi c.1.2.2],.string c.2] → BlkO own 2865 w m 86 #[sl I c.1.1 v,Zi c.1.2.1,Zi c.1.2.2]) (fun hk he h _ _ aa=>BlkO.evo (not_hit hk (by decide)) he (h _ _ aa))⟩,dv [] [5] 34 (pt M 0),⟨[6,4,9],[],[2850],Fct.at_ 2866 M 43 #[.string c.2,.slice none 0 0]⟩] ym wL (fm2 eX eY) ?_ ?_
 ·refine sc (fun own a wx hf T hE=>?_) ?_
  ·obtain ⟨(q : BlkO own 2847 wx m 86 #[sl aF b1 aI,Zi 4,Zi 0]),-⟩ := hf
   obtain ⟨aZ,-⟩ := T
   exact px (ldS ta86 (aZ.trans d2) q)
  refine sc (fun own _ _ f _ hE=>px (or_call cf38 (args1 f.1) (ref27_some_w _ (forth own (inL [0])) (b1,4,0) aF aI inL_le (RdO.alias_ (La := [0]) (RdO.evo rfl hE (RdO.evo rfl k9 zn)) (by decide)) c vM) (post_alias (La := [0]) (m' := (look0 [(1,2863),(2,2864)])) (fun U w' a' x ho ef h1 h=>⟨x,h1,RdO.backN_ ho ef h (by decide) (by decide) (by decide)⟩)))) ?_
  refine sc (fun own a wx hf T hE=>?_) ?_
  ·obtain ⟨⟨⟨I,v⟩,(bi : a.eval (.tmp 31) = .tuple #[.agg #[sl I c.1.1 v,Zi c.1.2.1,Zi c.1.2.2],.string c.2]),dR⟩,-⟩ := hf
   exact px (or_mono (f := Fct.val 29 (.tuple #[.agg #[sl I c.1.1 v,Zi c.1.2.1,Zi c.1.2.2],.string c.2])) (or_move bi) (fun U a' w' v' hp h=>fun _ _ aa=>by cases (bi.symm.trans ((hp.2 31 (by decide)).symm.trans aa)); exact h))
  refine sc (fun own a wx hf T hE=>?_) ?_
  ·obtain ⟨(sI : ∀ (I : Option Addr) (v : Nat),a.eval (.tmp 31) = .tuple #[.agg #[sl I c.1.1 v,Zi c.1.2.1,Zi c.1.2.2],.string c.2] → a.eval (.tmp 29) = .tuple #[.agg #[sl I c.1.1 v,Zi c.1.2.1,Zi c.1.2.2],.string c.2]),⟨⟨I,v⟩,(bi : a.eval (.tmp 31) = .tuple #[.agg #[sl I c.1.1 v,Zi c.1.2.1,Zi c.1.2.2],.string c.2]),dR⟩,-⟩ := hf
   have rY := sI _ _ bi
   exact px (or_mono (f := Fct.val 32 (.agg #[sl I c.1.1 v,Zi c.1.2.1,Zi c.1.2.2])) (ok1 rY) (fun U a' w' v' hp h=>fun _ _ aa=>by cases (bi.symm.trans ((hp.2 31 (by decide)).symm.trans aa)); exact h))
  refine sc (fun own a wx hf T hE=>?_) ?_
  ·obtain ⟨(sI : ∀ (I : Option Addr) (v : Nat),a.eval (.tmp 31) = .tuple #[.agg #[sl I c.1.1 v,Zi c.1.2.1,Zi c.1.2.2],.string c.2] → a.eval (.tmp 29) = .tuple #[.agg #[sl I c.1.1 v,Zi c.1.2.1,Zi c.1.2.2],.string c.2]),⟨⟨I,v⟩,bi,dR⟩,-⟩ := hf
   have rY := sI _ _ bi
   exact px (ok1 rY)
  refine sc (fun own a wx hf T hE=>?_) ?_
  ·obtain ⟨(zo : ∀ (I : Option Addr) (v : Nat),a.eval (.tmp 31) = .tuple #[.agg #[sl I c.1.1 v,Zi c.1.2.1,Zi c.1.2.2],.string c.2] → a.eval (.tmp 32) = .agg #[sl I c.1.1 v,Zi c.1.2.1,Zi c.1.2.2]),⟨⟨I,v⟩,(bi : a.eval (.tmp 31) = .tuple #[.agg #[sl I c.1.1 v,Zi c.1.2.1,Zi c.1.2.2],.string c.2]),dR⟩,q,-⟩ := hf
   have y9 := zo _ _ bi
   obtain ⟨aZ,-⟩ := T
   exact px (or_store (l := #[sl I c.1.1 v,Zi c.1.2.1,Zi c.1.2.2]) (lab := 2847) (lab2 := 2865) ts86 (aZ.trans d2) y9 q (by simp) (by kernel_rfl) (mem_of rfl) (by decide) (by kernel_rfl) (fun U a' w' ha hb=>fun _ _ aa=>by cases (bi.symm.trans ((ha 31).symm.trans aa)); exact hb))
  refine sS (fun s=>or_field fo43_0 (s.1.trans jj) (by rfl)) ?_
  refine sc (fun own a wx hf T hE=>?_) ?_
  ·obtain ⟨zb,za,bn,-⟩ := hf
   exact px (or_store1 (lab := 2850) (lab2 := 2866) ts9 zb za bn (by simp) rfl (mem_of rfl) (by decide) rfl (fun U a' w' ha hb=>hb))
  exact steps_nil
 intro jb ns kX wM yn uN t8 k4
 obtain ⟨n2,n3,d3,n4⟩ := kt4 uN n0 n1 d2 jj
 obtain ⟨⟨⟨I,v⟩,(bi : ns.eval (.tmp 31) = .tuple #[.agg #[sl I c.1.1 v,Zi c.1.2.1,Zi c.1.2.2],.string c.2]),(eZ : RdO jb [2863,2864,0] kX R5 I v c.1.1)⟩,(am : ∀ (I : Option Addr) (v : Nat),ns.eval (.tmp 31) = .tuple #[.agg #[sl I c.1.1 v,Zi c.1.2.1,Zi c.1.2.2],.string c.2] → BlkO jb 2865 kX m 86 #[sl I c.1.1 v,Zi c.1.2.1,Zi c.1.2.2]),(e2 : BlkO jb 2866 kX M 43 #[.string c.2,.slice none 0 0]),-⟩ := t8 [1,5,7] rfl
 have e1 := am _ _ bi
 have tz := es_ k9 k4
 have e0 := be_ k4 eW
 obtain ⟨j,vN,K⟩ := obind K
 refine rr_seq 215 [Fct.at_ 2865 m 86 #[sl I c.1.1 v,Zi c.1.2.1,Zi c.1.2.2]] jb [2865] [0,1,3,7,7,15,63] [dv [7] [4] 36 (.agg #[sl I c.1.1 v,Zi c.1.2.1,Zi c.1.2.2]),⟨[0],[],[],Fct.mems [2874,2875,2863,2864,0] 37 (fun (x : Option Addr × Nat)=>.tuple #[.agg #[.slice x.1 j.1.1.length x.2,Zi j.1.2.1,Zi j.1.2.2],Zi j.2]) (fun (x : Option Addr × Nat) own w=>RdO own [2874,2875,2863,2864,0] w R5 x.1 x.2 j.1.1) (fun hk he h=>RdO.evo (hits_sub hk (by decide)) he h)⟩,⟨[1],[],[],Fct.rel [35,37] (fun l=>∀ (O : Option Addr) (C : Nat),l.getD 1 undef = .tuple #[.agg #[sl O j.1.1 C,Zi j.1.2.1,Zi j.1.2.2],Zi j.2] → l.getD 0 undef = .tuple #[.agg #[sl O j.1.1 C,Zi j.1.2.1,Zi j.1.2.2],Zi j.2])⟩,⟨[2,1],[],[],Fct.rel [38,37] (fun l=>∀ (O : Option Addr) (C : Nat),l.getD 1 undef = .tuple #[.agg #[sl O j.1.1 C,Zi j.1.2.1,Zi j.1.2.2],Zi j.2] → l.getD 0 undef = .agg #[sl O j.1.1 C,Zi j.1.2.1,Zi j.1.2.2])⟩,dv [2,1] [] 39 (Zi j.2),⟨[3,1,7],[4],[2865],Fct.by_ [2876] [37] (fun l own w=>∀ (O : Option Addr) (C : Nat),l.getD 0 undef = .tuple #[.agg #[sl O j.1.1 C,Zi j.1.2.1,Zi j.1.2.2],Zi j.2] → BlkO own 2876 w m 86 #[sl O j.1.1 C,Zi j.1.2.1,Zi j.1.2.2]) (fun hk he h _ _ aa=>BlkO.evo (not_hit hk (by decide)) he (h _ _ aa))⟩,dv [4] [] 6 (Zi j.2)] yn wM (fm1 e1) ?_ ?_
 ·refine sc (fun own a wx hf T hE=>?_) ?_
  ·obtain ⟨(q : BlkO own 2865 wx m 86 #[sl I c.1.1 v,Zi c.1.2.1,Zi c.1.2.2]),-⟩ := hf
   obtain ⟨aZ,-⟩ := T
   exact px (ldS ta86 (aZ.trans d3) q)
  refine sc (fun own _ _ f _ hE=>px (or_call cf39 (args3 f.1 rfl rfl) (ref26_Up_w _ (forth own (inL [2863,2864,0])) c.1 I v 341 6 inL_le (RdO.alias_ (La := [2863,2864,0]) (RdO.evo rfl hE eZ) (by decide)) j vN) (post_alias (La := [2863,2864,0]) (m' := (look0 [(1,2874),(2,2875)])) (fun U w' a' x ho ef h1 h=>⟨x,h1,RdO.backN_ ho ef h (by decide) (by decide) (by decide)⟩)))) ?_
  refine sc (fun own a wx hf T hE=>?_) ?_
  ·obtain ⟨⟨⟨O,C⟩,(bj : a.eval (.tmp 37) = .tuple #[.agg #[sl O j.1.1 C,Zi j.1.2.1,Zi j.1.2.2],Zi j.2]),dS⟩,-⟩ := hf
   exact px (or_mono (f := Fct.val 35 (.tuple #[.agg #[sl O j.1.1 C,Zi j.1.2.1,Zi j.1.2.2],Zi j.2])) (or_move bj) (fun U a' w' v' hp h=>fun _ _ aa=>by cases (bj.symm.trans ((hp.2 37 (by decide)).symm.trans aa)); exact h))
  refine sc (fun own a wx hf T hE=>?_) ?_
  ·obtain ⟨(sJ : ∀ (O : Option Addr) (C : Nat),a.eval (.tmp 37) = .tuple #[.agg #[sl O j.1.1 C,Zi j.1.2.1,Zi j.1.2.2],Zi j.2] → a.eval (.tmp 35) = .tuple #[.agg #[sl O j.1.1 C,Zi j.1.2.1,Zi j.1.2.2],Zi j.2]),⟨⟨O,C⟩,(bj : a.eval (.tmp 37) = .tuple #[.agg #[sl O j.1.1 C,Zi j.1.2.1,Zi j.1.2.2],Zi j.2]),dS⟩,-⟩ := hf
   have rZ := sJ _ _ bj
   exact px (or_mono (f := Fct.val 38 (.agg #[sl O j.1.1 C,Zi j.1.2.1,Zi j.1.2.2])) (ok1 rZ) (fun U a' w' v' hp h=>fun _ _ aa=>by cases (bj.symm.trans ((hp.2 37 (by decide)).symm.trans aa)); exact h))
  refine sc (fun own a wx hf T hE=>?_) ?_
  ·obtain ⟨(sJ : ∀ (O : Option Addr) (C : Nat),a.eval (.tmp 37) = .tuple #[.agg #[sl O j.1.1 C,Zi j.1.2.1,Zi j.1.2.2],Zi j.2] → a.eval (.tmp 35) = .tuple #[.agg #[sl O j.1.1 C,Zi j.1.2.1,Zi j.1.2.2],Zi j.2]),⟨⟨O,C⟩,bj,dS⟩,-⟩ := hf
   have rZ := sJ _ _ bj
   exact px (ok1 rZ)
  refine sc (fun own a wx hf T hE=>?_) ?_
  ·obtain ⟨(zp : ∀ (O : Option Addr) (C : Nat),a.eval (.tmp 37) = .tuple #[.agg #[sl O j.1.1 C,Zi j.1.2.1,Zi j.1.2.2],Zi j.2] → a.eval (.tmp 38) = .agg #[sl O j.1.1 C,Zi j.1.2.1,Zi j.1.2.2]),⟨⟨O,C⟩,(bj : a.eval (.tmp 37) = .tuple #[.agg #[sl O j.1.1 C,Zi j.1.2.1,Zi j.1.2.2],Zi j.2]),dS⟩,q,-⟩ := hf
   have zc := zp _ _ bj
   obtain ⟨aZ,-⟩ := T
   exact px (or_store (l := #[sl O j.1.1 C,Zi j.1.2.1,Zi j.1.2.2]) (lab := 2865) (lab2 := 2876) ts86 (aZ.trans d3) zc q (by simp) (by kernel_rfl) (mem_of rfl) (by decide) (by kernel_rfl) (fun U a' w' ha hb=>fun _ _ aa=>by cases (bj.symm.trans ((ha 37).symm.trans aa)); exact hb))
  exact sA<|steps_nil
 intro kQ nt sQ wN yo uO lp k5
 obtain ⟨n5,n6,n7,n8⟩ := kt4 uO n2 n3 d3 n4
 have n9 := gv (lp [6] rfl) rfl
 obtain ⟨⟨⟨O,C⟩,(bj : nt.eval (.tmp 37) = .tuple #[.agg #[sl O j.1.1 C,Zi j.1.2.1,Zi j.1.2.2],Zi j.2]),(e3 : RdO kQ [2874,2875,2863,2864,0] sQ R5 O C j.1.1)⟩,(am : ∀ (O : Option Addr) (C : Nat),nt.eval (.tmp 37) = .tuple #[.agg #[sl O j.1.1 C,Zi j.1.2.1,Zi j.1.2.2],Zi j.2] → BlkO kQ 2876 sQ m 86 #[sl O j.1.1 C,Zi j.1.2.1,Zi j.1.2.2]),-⟩ := lp [1,5] rfl
 have e5 := am _ _ bj
 have tA := es_ tz k5
 obtain ⟨e4,e6⟩ := be2 k5 e0 e2
 refine rq_seq 215 kQ (bz 1) [dv [] [] 7 (.slice none 0 0)] yo wN ?_ ?_
 ·exact sO (or_assign rfl)<|steps_nil
 intro xH An A4 wO yp uP t9 i3
 obtain ⟨oa,ob,oc,od,oe⟩ := kt5 uP n5 n6 n7 n8 n9
 have og := gv (t9 [0] rfl) rfl
 have tB := es_ tA i3
 obtain ⟨e8,fa,e9⟩ := be3 i3 e4 e6 e5
 have e7 := RdO.evo rfl i3 e3
 refine fl_seq (fun z1 vd zB=>?_)
 refine rq_seq 215 xH (bz 1) [dv [] [] 8 (Zi 0)] yp wO ?_ ?_
 ·exact sO (or_assign rfl)<|steps_nil
 intro xI Ao A5 wP yq uQ ua i4
 obtain ⟨oh,oi,oj,ok,ol,om⟩ := kt6 uQ oa ob oc od oe og
 have oo := gv (ua [0] rfl) rfl
 have tC := es_ tB i4
 obtain ⟨fc,fe,fd⟩ := be3 i4 e8 fa e9
 have fb := RdO.evo rfl i4 e7
 refine fl_block (fun z2 zy vX zC=>?_)
 refine fl_loop (body := (fun s=>ref27_Open_b1 b1 c j s.1 s.2.1 s.2.2.1 s.2.2.2.1 s.2.2.2.2)) (z := r) (show loopO _ _ = _ from K) (fun (s : (List Int) × Int × Int × (List ByteArray) × Int) a wx=>match s with | (aH,aP,aC,u,ax)=>∃ (ox : Own) (aM : Option Addr) (aO : Nat) (V : Option Addr) (X : Nat),a.defers = [] ∧ a.tmps.size = 215 ∧ a.eval (.tmp 0) = sl aF b1 aI ∧ a.eval (.tmp 2) = pt H 0 ∧ a.eval (.tmp 4) = pt m 0 ∧ a.eval (.tmp 5) = pt M 0 ∧ a.eval (.tmp 6) = Zi j.2 ∧ a.eval (.tmp 7) = sl V u X ∧ a.eval (.tmp 8) = Zi ax ∧ Evo [] (fun _=>0) ox w wx ∧ BlkO ox 2835 wx H 43 #[.string ByteArray.empty,.slice none 0 0] ∧ BlkO ox 2925 wx m 86 #[sl aM aH aO,Zi aP,Zi aC] ∧ RdO ox [0,2929] wx R5 aM aO aH ∧ BlkO ox 2866 wx M 43 #[.string c.2,.slice none 0 0] ∧ RwO ox 2935 [] wx 9 R9 V X u) ?_ ?_
 ·exact ⟨(rl [(2863,2929),(2864,2929),(2874,2929),(2875,2929),(2876,2925)] xI),O,C,none,0,wP,yq,oh,oi,oj,ok,ol,om,oo,(Evo.rl_ tC (fun _=>Nat.le_refl 0) rfl),(BlkO.rl_ fc),(BlkO.rl_ fd),(RdO.more (RdO.rl_ fb) (by decide)),(BlkO.rl_ fe),RwO.nil_⟩
 ·rintro ⟨aH,aP,aC,u,ax⟩ lS Ap A6 ⟨xJ,aM,aO,V,X,wQ,ys,op,oq,jk,os,jl,ot,jm,ti,fh,bw,ff,fi,fg⟩ K z3 ve vD yr
  have K : ref27_Open_b1 b1 c j aH aP aC u ax = some lS := K
  refine fl_seq (fun z4 vf vE=>?_)
  obtain ⟨ye,vY,K⟩ := obind K
  refine rq_seq 215 xJ [0,0,3,7,15,31,63,127] [dv [] [8] 40 (Zi ax),dv [] [6] 41 (Zi j.2),dv [0,1] [] 42 (.bool (decide (ax < j.2))),dv [2] [] 43 (.bool (decide (ax < j.2))),dc [3] [4] (decide (ax < j.2)) 44 (pt m 2),dc [3,4] [] (decide (ax < j.2)) 45 (Zi aC),dc [3,5] [] (decide (ax < j.2)) 46 (.bool (decide (aC = 0))),dv [3,6] [] 47 (.bool ye)] ys wQ ?_ ?_
  ·exact sM jm<|sM jl<|sF (fun f=>or_lss f.1 f.2.1 rfl)<|sV<|cT (fun _ s _ _=>or_field fo86_2 (s.1.trans jk) (by rfl))<|cT (fun f _ hE hg=>ld1 to3 (f.2.1.1 hg) (be_ hE bw))<|cT (fun f _ _ hg=>or_eql (f.2.1.1 hg) rfl rfl)<|sF (fun f=>or_and f.1 (fun hx=>f.2.1.1 hx) rfl (osome vY).symm)<|steps_nil
  intro sa Aq A7 nG sZ uR ub dH
  obtain ⟨jn,jo,c2,jp,ou,jq,ov⟩ := kt7 uR op oq jk os jl ot jm
  have lW := gv (ub [7] rfl) rfl
  have la := es_ ti dH
  obtain ⟨bB,bC,bD⟩ := be3 dH fh bw fi
  have bx := RdO.evo rfl dH ff
  have bA := re_ dH fg
  refine fl_cond lW K (fun wt K=>?_) (fun wt K=>?_)
  ·refine fl_skip ?_
   refine vf _ _ ?_
   refine fl_seq (fun z5 vg zD=>?_)
   refine fl_block (fun z6 vh zU zE=>?_)
   refine rq_seq 215 sa (bz 1) [dv [] [] 9 (.string ByteArray.empty)] sZ nG ?_ ?_
   ·exact sO (or_assign rfl)<|steps_nil
   intro xK Ar A8 wR yt uS zx dI
   obtain ⟨ow,oy,d4,oz,oA,oB,oC⟩ := kt7 uS jn jo c2 jp ou jq ov
   have tD := es_ la dI
   obtain ⟨fl,fm,fn⟩ := be3 dI bB bC bD
   have fj := RdO.evo rfl dI bx
   have fk := re_ dI bA
   obtain ⟨d,vO,K⟩ := obind K
   refine rr_seq 215 [Fct.at_ 2925 m 86 #[sl aM aH aO,Zi aP,Zi aC]] xK [2925] [0,1,3,7,7,15,63] [dv [7] [4] 51 (.agg #[sl aM aH aO,Zi aP,Zi aC]),⟨[0],[],[],Fct.mems [2996,2997,0,2929] 52 (fun (x : Option Addr × Nat)=>.tuple #[.agg #[.slice x.1 d.1.1.length x.2,Zi d.1.2.1,Zi d.1.2.2],.string d.2]) (fun (x : Option Addr × Nat) own w=>RdO own [2996,2997,0,2929] w R5 x.1 x.2 d.1.1) (fun hk he h=>RdO.evo (hits_sub hk (by decide)) he h)⟩,⟨[1],[],[],Fct.rel [50,52] (fun l=>∀ (G : Option Addr) (t : Nat),l.getD 1 undef = .tuple #[.agg #[sl G d.1.1 t,Zi d.1.2.1,Zi d.1.2.2],.string d.2] → l.getD 0 undef = .tuple #[.agg #[sl G d.1.1 t,Zi d.1.2.1,Zi d.1.2.2],.string d.2])⟩,⟨[2,1],[],[],Fct.rel [53,52] (fun l=>∀ (G : Option Addr) (t : Nat),l.getD 1 undef = .tuple #[.agg #[sl G d.1.1 t,Zi d.1.2.1,Zi d.1.2.2],.string d.2] → l.getD 0 undef = .agg #[sl G d.1.1 t,Zi d.1.2.1,Zi d.1.2.2])⟩,dv [2,1] [] 54 (.string d.2),⟨[3,1,7],[4],[2925],Fct.by_ [2998] [52] (fun l own w=>∀ (G : Option Addr) (t : Nat),l.getD 0 undef = .tuple #[.agg #[sl G d.1.1 t,Zi d.1.2.1,Zi d.1.2.2],.string d.2] → BlkO own 2998 w m 86 #[sl G d.1.1 t,Zi d.1.2.1,Zi d.1.2.2]) (fun hk he h _ _ aa=>BlkO.evo (not_hit hk (by decide)) he (h _ _ aa))⟩,dv [4] [] 9 (.string d.2)] yt wR (fm1 fm) ?_ ?_
   ·refine sc (fun own a wx hf T hE=>?_) ?_
    ·obtain ⟨(q : BlkO own 2925 wx m 86 #[sl aM aH aO,Zi aP,Zi aC]),-⟩ := hf
     obtain ⟨aZ,-⟩ := T
     exact px (ldS ta86 (aZ.trans d4) q)
    refine sc (fun own _ _ f _ hE=>px (or_call cf38 (args1 f.1) (ref27_some_w _ (forth own (inL [0,2929])) (aH,aP,aC) aM aO inL_le (RdO.alias_ (La := [0,2929]) (RdO.evo rfl hE fj) (by decide)) d vO) (post_alias (La := [0,2929]) (m' := (look0 [(1,2996),(2,2997)])) (fun U w' a' x ho ef h1 h=>⟨x,h1,RdO.backN_ ho ef h (by decide) (by decide) (by decide)⟩)))) ?_
    refine sc (fun own a wx hf T hE=>?_) ?_
    ·obtain ⟨⟨⟨G,t⟩,(bk : a.eval (.tmp 52) = .tuple #[.agg #[sl G d.1.1 t,Zi d.1.2.1,Zi d.1.2.2],.string d.2]),dT⟩,-⟩ := hf
     exact px (or_mono (f := Fct.val 50 (.tuple #[.agg #[sl G d.1.1 t,Zi d.1.2.1,Zi d.1.2.2],.string d.2])) (or_move bk) (fun U a' w' v' hp h=>fun _ _ aa=>by cases (bk.symm.trans ((hp.2 52 (by decide)).symm.trans aa)); exact h))
    refine sc (fun own a wx hf T hE=>?_) ?_
    ·obtain ⟨(sK : ∀ (G : Option Addr) (t : Nat),a.eval (.tmp 52) = .tuple #[.agg #[sl G d.1.1 t,Zi d.1.2.1,Zi d.1.2.2],.string d.2] → a.eval (.tmp 50) = .tuple #[.agg #[sl G d.1.1 t,Zi d.1.2.1,Zi d.1.2.2],.string d.2]),⟨⟨G,t⟩,(bk : a.eval (.tmp 52) = .tuple #[.agg #[sl G d.1.1 t,Zi d.1.2.1,Zi d.1.2.2],.string d.2]),dT⟩,-⟩ := hf
     have r0 := sK _ _ bk
     exact px (or_mono (f := Fct.val 53 (.agg #[sl G d.1.1 t,Zi d.1.2.1,Zi d.1.2.2])) (ok1 r0) (fun U a' w' v' hp h=>fun _ _ aa=>by cases (bk.symm.trans ((hp.2 52 (by decide)).symm.trans aa)); exact h))
    refine sc (fun own a wx hf T hE=>?_) ?_
    ·obtain ⟨(sK : ∀ (G : Option Addr) (t : Nat),a.eval (.tmp 52) = .tuple #[.agg #[sl G d.1.1 t,Zi d.1.2.1,Zi d.1.2.2],.string d.2] → a.eval (.tmp 50) = .tuple #[.agg #[sl G d.1.1 t,Zi d.1.2.1,Zi d.1.2.2],.string d.2]),⟨⟨G,t⟩,bk,dT⟩,-⟩ := hf
     have r0 := sK _ _ bk
     exact px (ok1 r0)
    refine sc (fun own a wx hf T hE=>?_) ?_
    ·obtain ⟨(zq : ∀ (G : Option Addr) (t : Nat),a.eval (.tmp 52) = .tuple #[.agg #[sl G d.1.1 t,Zi d.1.2.1,Zi d.1.2.2],.string d.2] → a.eval (.tmp 53) = .agg #[sl G d.1.1 t,Zi d.1.2.1,Zi d.1.2.2]),⟨⟨G,t⟩,(bk : a.eval (.tmp 52) = .tuple #[.agg #[sl G d.1.1 t,Zi d.1.2.1,Zi d.1.2.2],.string d.2]),dT⟩,q,-⟩ := hf
     have ze := zq _ _ bk
     obtain ⟨aZ,-⟩ := T
     exact px (or_store (l := #[sl G d.1.1 t,Zi d.1.2.1,Zi d.1.2.2]) (lab := 2925) (lab2 := 2998) ts86 (aZ.trans d4) ze q (by simp) (by kernel_rfl) (mem_of rfl) (by decide) (by kernel_rfl) (fun U a' w' ha hb=>fun _ _ aa=>by cases (bk.symm.trans ((ha 52).symm.trans aa)); exact hb))
    exact sA<|steps_nil
   intro kR nu sR wS yu uT lq i5
   obtain ⟨oD,oE,jr,oF,oG,d5,oH⟩ := kt7 uT ow oy d4 oz oA oB oC
   have js := gv (lq [6] rfl) rfl
   obtain ⟨⟨⟨G,t⟩,(bk : nu.eval (.tmp 52) = .tuple #[.agg #[sl G d.1.1 t,Zi d.1.2.1,Zi d.1.2.2],.string d.2]),(fo : RdO kR [2996,2997,0,2929] sR R5 G t d.1.1)⟩,(am : ∀ (G : Option Addr) (t : Nat),nu.eval (.tmp 52) = .tuple #[.agg #[sl G d.1.1 t,Zi d.1.2.1,Zi d.1.2.2],.string d.2] → BlkO kR 2998 sR m 86 #[sl G d.1.1 t,Zi d.1.2.1,Zi d.1.2.2]),-⟩ := lq [1,5] rfl
   have bF := am _ _ bk
   have tE := es_ tD i5
   obtain ⟨fp,fq⟩ := be2 i5 fl fn
   have bE := re_ i5 fk
   refine fl_seq (fun wg vi zF=>?_)
   have ni : ∀ (aG : Act) (bp : World) (bo : Own) (kC : Int),aG.defers = [] → aG.tmps.size = 215 → aG.eval (.tmp 0) = sl aF b1 aI → aG.eval (.tmp 2) = pt H 0 → aG.eval (.tmp 4) = pt m 0 → aG.eval (.tmp 5) = pt M 0 → aG.eval (.tmp 6) = Zi j.2 → aG.eval (.tmp 7) = sl V u X → aG.eval (.tmp 8) = Zi ax → aG.eval (.tmp 9) = .string d.2 → Evo [] (fun _=>0) bo w bp → BlkO bo 2835 bp H 43 #[.string ByteArray.empty,.slice none 0 0] → BlkO bo 3007 bp m 86 #[sl G d.1.1 t,Zi d.1.2.1,Zi kC] → RdO bo [2996,2997,0,2929] bp R5 G t d.1.1 → BlkO bo 2866 bp M 43 #[.string c.2,.slice none 0 0] → RwO bo 2935 [] bp 9 R9 V X u → ref27_Open_k2 u ax d kC = some lS → wg .normal aG bp := by
    intro aG bp bo kC wT yv oI oJ oK oL oM oN oO oP tj ft fu fs fv fr K
    refine vi _ _ ?_
    obtain ⟨bh,vZ,K⟩ := obind K
    refine rr 215 [Fct.rowAt 2935 [] 9 R9 V X u] bo [2935] [0,0,2,7,15] [dv [] [7] 67 (sl V u X),dv [] [9] 68 (.string d.2),⟨[1],[],[],Fct.row 3014 [] 69 9 R9 [d.2]⟩,⟨[0,2,5],[],[2935],Fct.row 3016 [] 70 9 R9 bh⟩,⟨[3],[],[],Fct.rel [7,70] (fun l=>∀ (aE : Option Addr) (ao : Nat),l.getD 1 undef = sl aE bh ao → l.getD 0 undef = sl aE bh ao)⟩] yv wT (fm1 fr) ?_ ?_
    ·refine sM oN<|sM oP<|sF (fun f=>or_lit (lab := 3014) (e := 9) (cs := #[.string d.2]) (F := E9) (nw1 f.1) rfl rfl (show 1 ≤ maxLen by decide)) ?_
     refine sc (fun own a wx hf T hE=>?_) ?_
     ·obtain ⟨zg,⟨⟨zX,zv⟩,zh,nA⟩,nz,-⟩ := hf
      exact px (or_append (R := R9) (lab := 2935) (lab2 := 3016) (L := []) (L3 := []) tp80 zg nz (by decide) zh (RwO.rd nA) vZ (by decide) (by decide) (mem_of rfl) (.inl (Rep.fl_flat _)))
     refine sc (fun own a wx hf T hE=>?_) ?_
     ·obtain ⟨⟨⟨aE,ao⟩,(k0 : a.eval (.tmp 70) = sl aE bh ao),y2⟩,-⟩ := hf
      exact px (or_mono (f := Fct.val 7 (sl aE bh ao)) (or_assign k0) (fun U a' w' v' hp h=>fun _ _ aa=>by cases (k0.symm.trans ((hp.2 70 (by decide)).symm.trans aa)); exact h))
     exact steps_nil
    intro sd kA xZ wU yw uU uc i6
    obtain ⟨oQ,oR,oS,oT,oU,oW⟩ := kt6 uU oI oJ oK oL oM oO
    obtain ⟨⟨⟨aE,ao⟩,(k0 : kA.eval (.tmp 70) = sl aE bh ao),(fx : RwO sd 3016 [] xZ 9 R9 aE ao bh)⟩,(A2 : ∀ (aE : Option Addr) (ao : Nat),kA.eval (.tmp 70) = sl aE bh ao → kA.eval (.tmp 7) = sl aE bh ao),-⟩ := uc [3,4] rfl
    have oV := A2 _ _ k0
    have tF := es_ tj i6
    obtain ⟨fy,fz,fA⟩ := be3 i6 ft fu fv
    have fw := RdO.evo rfl i6 fs
    refine vh _ _ ?_
    refine vg _ _ ?_
    refine rq 215 sd (bz 3) [dv [] [8] 48 (Zi ax),dv [0] [] 49 (Zi (ad ax 1)),dv [1] [] 8 (Zi (ad ax 1))] yw wU ?_ ?_
    ·exact sM oW<|sF (fun f=>or_add f.1 rfl rfl)<|sA<|steps_nil
    intro xL As A9 wV yx uV ud dJ
    obtain ⟨oX,oY,oZ,o0,o1,o2⟩ := kt6 uV oQ oR oS oT oU oV
    have o3 := gv (ud [2] rfl) rfl
    have tG := es_ tF dJ
    obtain ⟨fD,fE,fF⟩ := be3 dJ fy fz fA
    have fB := RdO.evo rfl dJ fw
    have fC := re_ dJ fx
    exact ve _ _ _ K ⟨(rl [(2996,2929),(2997,2929),(3007,2925),(3016,2935)] xL),G,t,aE,ao,wV,yx,oX,oY,oZ,o0,o1,o2,o3,(Evo.rl_ tG (fun _=>Nat.le_refl 0) rfl),(BlkO.rl_ fD),(BlkO.rl_ fE),(RdO.more (RdO.rl_ fB) (by decide)),(BlkO.rl_ fF),(RwO.rl_ fC)⟩
   obtain ⟨kW,vP,K⟩ := obind K
   obtain ⟨yf,v0,K⟩ := obind K
   refine rq_seq 215 kR [0,1,3,7,15,15,63,15,143,511,1023] [dv [] [4] 55 (pt m 2),dv [0] [] 56 (Zi d.1.2.2),dv [1] [] 57 (.bool (decide (d.1.2.2 = 0))),dv [2] [] 58 (.bool (decide (d.1.2.2 = 0))),dc [3] [7] (decide (d.1.2.2 = 0)) 59 (sl V u X),dc [3] [9] (decide (d.1.2.2 = 0)) 60 (.string d.2),dc [3,4,5] [] (decide (d.1.2.2 = 0)) 61 (Zi kW),dc [3] [7] (decide (d.1.2.2 = 0)) 62 (sl V u X),dc [3,7] [] (decide (d.1.2.2 = 0)) 63 (Zi (u.length : Int)),dc [3,6,8] [] (decide (d.1.2.2 = 0)) 64 (.bool (decide (kW < (u.length : Int)))),dv [3,9] [] 65 (.bool yf)] yu wS ?_ ?_
   ·exact sS (fun s=>or_field fo86_2 (s.1.trans jr) (by rfl))<|sG to3 bF<|sF (fun f=>or_eql f.1 rfl rfl)<|sV<|cT (fun _ s _ _=>or_move (s.1.trans d5))<|cT (fun _ s _ _=>or_move (s.1.trans js))<|cT (fun f _ hE hg=>or_call cf37 (args2 (f.2.1.1 hg) (f.2.2.1.1 hg)) (ref27_place_w _ u V X d.2 (RdO.zero (RwO.rd (re_ hE bE))) kW (gd_t vP hg)) post_val)<|cT (fun _ s _ _=>or_move (s.1.trans d5))<|cT (fun f _ _ hg=>or_len tu80 (f.2.1.1 hg) rfl)<|cT (fun f _ _ hg=>or_lss (f.2.1.1 hg) (f.2.2.1.1 hg) rfl)<|sF (fun f=>or_and f.1 (fun hx=>f.2.1.1 hx) rfl (osome v0).symm)<|steps_nil
   intro se At Ba nH s0 uW ue dK
   obtain ⟨jt,ju,d6,jv,jw,jx,jy,jz⟩ := kt8 uW oD oE jr oF oG d5 oH js
   have lX := gv (ue [10] rfl) rfl
   have lb := es_ tE dK
   obtain ⟨bI,bK,bJ⟩ := be3 dK fp fq bF
   have bG := re_ dK bE
   have bH := RdO.evo rfl dK fo
   refine fl_cond lX K (fun wu K=>?_) (fun wu K=>?_)
   ·refine rr 215 [Fct.at_ 2998 m 86 #[sl G d.1.1 t,Zi d.1.2.1,Zi d.1.2.2]] se [2998] (bz 2) [dv [] [4] 66 (pt m 2),⟨[0,2],[],[2998],Fct.at_ 3024 m 86 #[sl G d.1.1 t,Zi d.1.2.1,Zi 8]⟩] s0 nH (fm1 bJ) ?_ ?_
    ·refine sS (fun s=>or_field fo86_2 (s.1.trans d6) (by rfl)) ?_
     refine sc (fun own a wx hf T hE=>?_) ?_
     ·obtain ⟨zf,q,-⟩ := hf
      exact px (or_store1 (lab := 2998) (lab2 := 3024) ts3 zf rfl q (by simp) rfl (mem_of rfl) (by decide) rfl (fun U a' w' ha hb=>hb))
     exact steps_nil
    intro sf Au x0 wW yy uX uf dL
    obtain ⟨o4,o5,o6,o7,o8,o9,pa,pb⟩ := kt8 uX jt ju d6 jv jw jx jy jz
    obtain ⟨(fJ : BlkO sf 3024 x0 m 86 #[sl G d.1.1 t,Zi d.1.2.1,Zi 8]),-⟩ := uf [1] rfl
    have tH := es_ lb dL
    obtain ⟨fI,fK⟩ := be2 dL bI bK
    have fG := re_ dL bG
    have fH := RdO.evo rfl dL bH
    exact (ni _ _ (rl [(3024,3007)] sf) _ wW yy o4 o5 o6 o7 o8 o9 pa pb (Evo.rl_ tH (fun _=>Nat.le_refl 0) rfl) (BlkO.rl_ fI) (BlkO.rl_ fJ) (RdO.rl_ fH) (BlkO.rl_ fK) (RwO.rl_ fG) K)
   refine fl_skip ?_
   exact (ni _ _ (rl [(2998,3007)] se) _ nH s0 jt ju d6 jv jw jx jy jz (Evo.rl_ lb (fun _=>Nat.le_refl 0) rfl) (BlkO.rl_ bI) (BlkO.rl_ bJ) (RdO.rl_ bH) (BlkO.rl_ bK) (RwO.rl_ bG) K)
  refine fl_exit ?_
  refine vE _ _ _ rfl ?_
  replace K := yr _ K
  refine vD _ _ _ rfl ?_
  refine vX _ _ ?_
  refine vd _ _ ?_
  obtain ⟨i,vQ,K⟩ := obind K
  refine rr_seq 215 [Fct.at_ 2925 m 86 #[sl aM aH aO,Zi aP,Zi aC]] sa [2925] [0,1,3,7,7,15,63] [dv [7] [4] 72 (.agg #[sl aM aH aO,Zi aP,Zi aC]),⟨[0],[],[],Fct.mems [3032,3033,0,2929] 73 (fun (x : Option Addr × Nat)=>.tuple #[.agg #[.slice x.1 i.1.1.length x.2,Zi i.1.2.1,Zi i.1.2.2],Zi i.2]) (fun (x : Option Addr × Nat) own w=>RdO own [3032,3033,0,2929] w R5 x.1 x.2 i.1.1) (fun hk he h=>RdO.evo (hits_sub hk (by decide)) he h)⟩,⟨[1],[],[],Fct.rel [71,73] (fun l=>∀ (P : Option Addr) (D : Nat),l.getD 1 undef = .tuple #[.agg #[sl P i.1.1 D,Zi i.1.2.1,Zi i.1.2.2],Zi i.2] → l.getD 0 undef = .tuple #[.agg #[sl P i.1.1 D,Zi i.1.2.1,Zi i.1.2.2],Zi i.2])⟩,⟨[2,1],[],[],Fct.rel [74,73] (fun l=>∀ (P : Option Addr) (D : Nat),l.getD 1 undef = .tuple #[.agg #[sl P i.1.1 D,Zi i.1.2.1,Zi i.1.2.2],Zi i.2] → l.getD 0 undef = .agg #[sl P i.1.1 D,Zi i.1.2.1,Zi i.1.2.2])⟩,dv [2,1] [] 75 (Zi i.2),⟨[3,1,7],[4],[2925],Fct.by_ [3034] [73] (fun l own w=>∀ (P : Option Addr) (D : Nat),l.getD 0 undef = .tuple #[.agg #[sl P i.1.1 D,Zi i.1.2.1,Zi i.1.2.2],Zi i.2] → BlkO own 3034 w m 86 #[sl P i.1.1 D,Zi i.1.2.1,Zi i.1.2.2]) (fun hk he h _ _ aa=>BlkO.evo (not_hit hk (by decide)) he (h _ _ aa))⟩,dv [4] [] 6 (Zi i.2)] sZ nG (fm1 bC) ?_ ?_
  ·refine sc (fun own a wx hf T hE=>?_) ?_
   ·obtain ⟨(q : BlkO own 2925 wx m 86 #[sl aM aH aO,Zi aP,Zi aC]),-⟩ := hf
    obtain ⟨aZ,-⟩ := T
    exact px (ldS ta86 (aZ.trans c2) q)
   refine sc (fun own _ _ f _ hE=>px (or_call cf39 (args3 f.1 rfl rfl) (ref26_Up_w _ (forth own (inL [0,2929])) (aH,aP,aC) aM aO 341 6 inL_le (RdO.alias_ (La := [0,2929]) (RdO.evo rfl hE bx) (by decide)) i vQ) (post_alias (La := [0,2929]) (m' := (look0 [(1,3032),(2,3033)])) (fun U w' a' x ho ef h1 h=>⟨x,h1,RdO.backN_ ho ef h (by decide) (by decide) (by decide)⟩)))) ?_
   refine sc (fun own a wx hf T hE=>?_) ?_
   ·obtain ⟨⟨⟨P,D⟩,(bl : a.eval (.tmp 73) = .tuple #[.agg #[sl P i.1.1 D,Zi i.1.2.1,Zi i.1.2.2],Zi i.2]),dU⟩,-⟩ := hf
    exact px (or_mono (f := Fct.val 71 (.tuple #[.agg #[sl P i.1.1 D,Zi i.1.2.1,Zi i.1.2.2],Zi i.2])) (or_move bl) (fun U a' w' v' hp h=>fun _ _ aa=>by cases (bl.symm.trans ((hp.2 73 (by decide)).symm.trans aa)); exact h))
   refine sc (fun own a wx hf T hE=>?_) ?_
   ·obtain ⟨(sN : ∀ (P : Option Addr) (D : Nat),a.eval (.tmp 73) = .tuple #[.agg #[sl P i.1.1 D,Zi i.1.2.1,Zi i.1.2.2],Zi i.2] → a.eval (.tmp 71) = .tuple #[.agg #[sl P i.1.1 D,Zi i.1.2.1,Zi i.1.2.2],Zi i.2]),⟨⟨P,D⟩,(bl : a.eval (.tmp 73) = .tuple #[.agg #[sl P i.1.1 D,Zi i.1.2.1,Zi i.1.2.2],Zi i.2]),dU⟩,-⟩ := hf
    have r1 := sN _ _ bl
    exact px (or_mono (f := Fct.val 74 (.agg #[sl P i.1.1 D,Zi i.1.2.1,Zi i.1.2.2])) (ok1 r1) (fun U a' w' v' hp h=>fun _ _ aa=>by cases (bl.symm.trans ((hp.2 73 (by decide)).symm.trans aa)); exact h))
   refine sc (fun own a wx hf T hE=>?_) ?_
   ·obtain ⟨(sN : ∀ (P : Option Addr) (D : Nat),a.eval (.tmp 73) = .tuple #[.agg #[sl P i.1.1 D,Zi i.1.2.1,Zi i.1.2.2],Zi i.2] → a.eval (.tmp 71) = .tuple #[.agg #[sl P i.1.1 D,Zi i.1.2.1,Zi i.1.2.2],Zi i.2]),⟨⟨P,D⟩,bl,dU⟩,-⟩ := hf
    have r1 := sN _ _ bl
    exact px (ok1 r1)
   refine sc (fun own a wx hf T hE=>?_) ?_
   ·obtain ⟨(zr : ∀ (P : Option Addr) (D : Nat),a.eval (.tmp 73) = .tuple #[.agg #[sl P i.1.1 D,Zi i.1.2.1,Zi i.1.2.2],Zi i.2] → a.eval (.tmp 74) = .agg #[sl P i.1.1 D,Zi i.1.2.1,Zi i.1.2.2]),⟨⟨P,D⟩,(bl : a.eval (.tmp 73) = .tuple #[.agg #[sl P i.1.1 D,Zi i.1.2.1,Zi i.1.2.2],Zi i.2]),dU⟩,q,-⟩ := hf
    have zi := zr _ _ bl
    obtain ⟨aZ,-⟩ := T
    exact px (or_store (l := #[sl P i.1.1 D,Zi i.1.2.1,Zi i.1.2.2]) (lab := 2925) (lab2 := 3034) ts86 (aZ.trans c2) zi q (by simp) (by kernel_rfl) (mem_of rfl) (by decide) (by kernel_rfl) (fun U a' w' ha hb=>fun _ _ aa=>by cases (bl.symm.trans ((ha 73).symm.trans aa)); exact hb))
   exact sA<|steps_nil
  intro kS nv sT wX yz uY lr i7
  obtain ⟨pc,pd,pe,pf,ph⟩ := kt5 uY jn jo c2 jp jq
  have pg := gv (lr [6] rfl) rfl
  obtain ⟨⟨⟨P,D⟩,(bl : nv.eval (.tmp 73) = .tuple #[.agg #[sl P i.1.1 D,Zi i.1.2.1,Zi i.1.2.2],Zi i.2]),(fM : RdO kS [3032,3033,0,2929] sT R5 P D i.1.1)⟩,(am : ∀ (P : Option Addr) (D : Nat),nv.eval (.tmp 73) = .tuple #[.agg #[sl P i.1.1 D,Zi i.1.2.1,Zi i.1.2.2],Zi i.2] → BlkO kS 3034 sT m 86 #[sl P i.1.1 D,Zi i.1.2.1,Zi i.1.2.2]),-⟩ := lr [1,5] rfl
  have fO := am _ _ bl
  have tI := es_ la i7
  obtain ⟨fN,fP⟩ := be2 i7 bB bD
  have fL := re_ i7 bA
  refine rq_seq 215 kS (bz 1) [dv [] [] 10 (Zi 0)] yz wX ?_ ?_
  ·exact sO (or_assign rfl)<|steps_nil
  intro xM Av Bb wY yA uZ ug dM
  obtain ⟨pi,pj,pk,pl,pm,pn⟩ := kt6 uZ pc pd pe pf pg ph
  have lY := gv (ug [0] rfl) rfl
  have tJ := es_ tI dM
  obtain ⟨fS,fU,fT⟩ := be3 dM fN fP fO
  have fQ := re_ dM fL
  have fR := RdO.evo rfl dM fM
  refine fl_seq (fun z7 vj zG=>?_)
  refine rq_seq 215 xM (bz 1) [dv [] [] 11 (Zi 0)] yA wY ?_ ?_
  ·exact sO (or_assign rfl)<|steps_nil
  intro xN Aw Bc wZ yB u0 uh dN
  obtain ⟨po,pp,pq,pr,ps,pu,lZ⟩ := kt7 u0 pi pj pk pl pm pn lY
  have l0 := gv (uh [0] rfl) rfl
  have tK := es_ tJ dN
  obtain ⟨fX,fZ,fY⟩ := be3 dN fS fU fT
  have fV := re_ dN fQ
  have fW := RdO.evo rfl dN fR
  refine fl_block (fun z8 zz v1 zH=>?_)
  refine fl_loop (body := (fun s=>ref27_Open_b3 b1 c u i s.1 s.2.1 s.2.2.1 s.2.2.2.1 s.2.2.2.2.1 s.2.2.2.2.2)) (z := r) (show loopO _ _ = _ from K) (fun (s : (List Int) × Int × Int × (List ((Int × Int × Int) × ByteArray)) × Int × Int) a wx=>match s with | (iY,dY,be,J,A,N)=>∃ (ox : Own) (eP : Option Addr) (iX : Nat) (W : Option Addr) (Y : Nat),a.defers = [] ∧ a.tmps.size = 215 ∧ a.eval (.tmp 0) = sl aF b1 aI ∧ a.eval (.tmp 2) = pt H 0 ∧ a.eval (.tmp 4) = pt m 0 ∧ a.eval (.tmp 5) = pt M 0 ∧ a.eval (.tmp 6) = Zi i.2 ∧ a.eval (.tmp 7) = sl V u X ∧ a.eval (.tmp 10) = Zi A ∧ a.eval (.tmp 11) = Zi N ∧ Evo [] (fun _=>0) ox w wx ∧ BlkO ox 2835 wx H 43 #[.string ByteArray.empty,.slice none 0 0] ∧ BlkO ox 3867 wx m 86 #[sl eP iY iX,Zi dY,Zi be] ∧ RdO ox [0,3871] wx R5 eP iX iY ∧ BlkO ox 3874 wx M 43 #[.string c.2,sl W J Y] ∧ RwO ox 3878 [] wx 77 R77 W Y J ∧ RwO ox 2935 [] wx 9 R9 V X u) ?_ ?_
  ·exact ⟨(rl [(2866,3874),(2929,3871),(3032,3871),(3033,3871),(3034,3867)] xN),P,D,none,0,wZ,yB,po,pp,pq,pr,ps,pu,lZ,l0,(Evo.rl_ tK (fun _=>Nat.le_refl 0) rfl),(BlkO.rl_ fX),(BlkO.rl_ fY),(RdO.more (RdO.rl_ fW) (by decide)),(BlkO.rl_ fZ),RwO.nil_,(RwO.rl_ fV)⟩
  ·rintro ⟨iY,dY,be,J,A,N⟩ aL Ax Bd ⟨xO,eP,iX,W,Y,w0,yD,pv,pw,jA,py,jB,pz,l1,ei,tk,f3,bL,f1,f4,f2,f0⟩ K z9 vk vF yC
   have K : ref27_Open_b3 b1 c u i iY dY be J A N = some aL := K
   refine fl_seq (fun Aa vl vG=>?_)
   obtain ⟨yg,v2,K⟩ := obind K
   refine rq_seq 215 xO [0,0,3,7,15,31,63,127] [dv [] [11] 76 (Zi N),dv [] [6] 77 (Zi i.2),dv [0,1] [] 78 (.bool (decide (N < i.2))),dv [2] [] 79 (.bool (decide (N < i.2))),dc [3] [4] (decide (N < i.2)) 80 (pt m 2),dc [3,4] [] (decide (N < i.2)) 81 (Zi be),dc [3,5] [] (decide (N < i.2)) 82 (.bool (decide (be = 0))),dv [3,6] [] 83 (.bool yg)] yD w0 ?_ ?_
   ·exact sM ei<|sM jB<|sF (fun f=>or_lss f.1 f.2.1 rfl)<|sV<|cT (fun _ s _ _=>or_field fo86_2 (s.1.trans jA) (by rfl))<|cT (fun f _ hE hg=>ld1 to3 (f.2.1.1 hg) (be_ hE bL))<|cT (fun f _ _ hg=>or_eql (f.2.1.1 hg) rfl rfl)<|sF (fun f=>or_and f.1 (fun hx=>f.2.1.1 hx) rfl (osome v2).symm)<|steps_nil
   intro sg Ay Be nI s1 u1 ui c5
   obtain ⟨jC,jD,d7,jE,pA,jF,ej,l2⟩ := kt8 u1 pv pw jA py jB pz l1 ei
   have l3 := gv (ui [7] rfl) rfl
   have lc := es_ tk c5
   obtain ⟨bP,ba,bQ⟩ := be3 c5 f3 bL f4
   have bN := RdO.evo rfl c5 f1
   have bO := re_ c5 f2
   have bM := re_ c5 f0
   refine fl_cond l3 K (fun wv K=>?_) (fun wv K=>?_)
   ·refine fl_skip ?_
    refine vl _ _ ?_
    refine fl_seq (fun Ab vm zI=>?_)
    refine fl_block (fun nr vn v3 zJ=>?_)
    have nj : ∀ (ay : Act) (a1 : World) (bg : Own) (i0 : List Int) (kD : Int) (kE : Int) (jd : List ((Int × Int × Int) × ByteArray)) (dC : Int) (eQ : Option Addr) (iZ : Nat) (eR : Option Addr) (i1 : Nat),ay.defers = [] → ay.tmps.size = 215 → ay.eval (.tmp 0) = sl aF b1 aI → ay.eval (.tmp 2) = pt H 0 → ay.eval (.tmp 4) = pt m 0 → ay.eval (.tmp 5) = pt M 0 → ay.eval (.tmp 6) = Zi i.2 → ay.eval (.tmp 7) = sl V u X → ay.eval (.tmp 10) = Zi dC → ay.eval (.tmp 11) = Zi N → Evo [] (fun _=>0) bg w a1 → BlkO bg 2835 a1 H 43 #[.string ByteArray.empty,.slice none 0 0] → BlkO bg 5381 a1 m 86 #[sl eQ i0 iZ,Zi kD,Zi kE] → RdO bg [5356,5357,0,5260] a1 R5 eQ iZ i0 → BlkO bg 5448 a1 M 43 #[.string c.2,sl eR jd i1] → RwO bg 5452 [] a1 77 R77 eR i1 jd → RwO bg 2935 [] a1 9 R9 V X u → ref27_Open_k4 N i0 kD kE jd dC = some aL → (nr .normal ay a1 ∧ nr (.exit 3) ay a1) := by
     intro ay a1 bg i0 kD kE jd dC eQ iZ eR i1 w1 yE pB pC pD pE pF pG l4 l5 tl f8 f9 f6 ga f7 f5 K
     refine and_both (vn _ _) (v3 _ _) ?_
     refine vm _ _ ?_
     refine rq 215 bg (bz 3) [dv [] [11] 84 (Zi N),dv [0] [] 85 (Zi (ad N 1)),dv [1] [] 11 (Zi (ad N 1))] yE w1 ?_ ?_
     ·exact sM l5<|sF (fun f=>or_add f.1 rfl rfl)<|sA<|steps_nil
     intro xP Az Bf w2 yF u2 uj c6
     obtain ⟨pH,pI,pJ,pK,pL,pM,l6⟩ := kt7 u2 pB pC pD pE pF pG l4
     have l7 := gv (uj [2] rfl) rfl
     have tL := es_ tl c6
     obtain ⟨ge,gf,gg⟩ := be3 c6 f8 f9 ga
     have gc := RdO.evo rfl c6 f6
     have gd := re_ c6 f7
     have gb := re_ c6 f5
     exact vk _ _ _ K ⟨(rl [(5260,3871),(5356,3871),(5357,3871),(5381,3867),(5448,3874),(5452,3878)] xP),eQ,iZ,eR,i1,w2,yF,pH,pI,pJ,pK,pL,pM,l6,l7,(Evo.rl_ tL (fun _=>Nat.le_refl 0) rfl),(BlkO.rl_ ge),(BlkO.rl_ gf),(RdO.more (RdO.rl_ gc) (by decide)),(BlkO.rl_ gg),(RwO.rl_ gd),(RwO.rl_ gb)⟩
    refine rq_seq 215 sg (bz 1) [⟨[],[],[],Fct.blk 5458 12 (fun g=>pt g 0) 91 #[.int .u64 0,.int .u64 0,.int .u64 0]⟩] s1 nI ?_ ?_
    ·exact sO (nw0)<|steps_nil
    intro sh wq x1 w3 yG u3 uk c7
    obtain ⟨pN,pO,pP,pQ,pR,pS,l8,l9⟩ := kt8 u3 jC jD d7 jE pA jF ej l2
    obtain ⟨⟨aw,(ma : wq.eval (.tmp 12) = pt aw 0),(gn : BlkO sh 5458 x1 aw 91 #[.int .u64 0,.int .u64 0,.int .u64 0])⟩,-⟩ := uk [0] rfl
    have tM := es_ lc c7
    obtain ⟨gk,gl,gm⟩ := be3 c7 bP ba bQ
    have gi := RdO.evo rfl c7 bN
    have gj := re_ c7 bO
    have gh := re_ c7 bM
    refine fl_seq (fun Ac vo zK=>?_)
    refine rq_seq 215 sh (bz 1) [dv [] [] 13 (Zi 0)] yG w3 ?_ ?_
    ·exact sO (or_assign rfl)<|steps_nil
    intro xQ AA Bg w4 yH lx ul c8
    obtain ⟨pT,pU,pV,pW,pX,pY,mb,mc⟩ := kt8 lx pN pO pP pQ pR pS l8 l9
    have md := kt lx ma
    have me := gv (ul [0] rfl) rfl
    have tN := es_ tM c8
    obtain ⟨gr,gs,gt,gu⟩ := be4 c8 gk gl gm gn
    have gp := RdO.evo rfl c8 gi
    have gq := re_ c8 gj
    have go := re_ c8 gh
    refine fl_block (fun Ad zA v4 zL=>?_)
    refine fl_loop (body := (fun s=>ref27_Open_b5 u J A N s.1 s.2.1 s.2.2.1 s.2.2.2.1 s.2.2.2.2)) (z := aL) (show loopO _ _ = _ from K) (fun (s : (List Int) × Int × Int × (Int × Int × Int) × Int) a wx=>match s with | (Z,ag,ak,y,an)=>∃ (ox : Own) (ae : Option Addr) (af : Nat),a.defers = [] ∧ a.tmps.size = 215 ∧ a.eval (.tmp 0) = sl aF b1 aI ∧ a.eval (.tmp 2) = pt H 0 ∧ a.eval (.tmp 4) = pt m 0 ∧ a.eval (.tmp 5) = pt M 0 ∧ a.eval (.tmp 6) = Zi i.2 ∧ a.eval (.tmp 7) = sl V u X ∧ a.eval (.tmp 10) = Zi A ∧ a.eval (.tmp 11) = Zi N ∧ a.eval (.tmp 12) = pt aw 0 ∧ a.eval (.tmp 13) = Zi an ∧ Evo [] (fun _=>0) ox w wx ∧ BlkO ox 2835 wx H 43 #[.string ByteArray.empty,.slice none 0 0] ∧ BlkO ox 5485 wx m 86 #[sl ae Z af,Zi ag,Zi ak] ∧ RdO ox [0,5489] wx R5 ae af Z ∧ BlkO ox 3874 wx M 43 #[.string c.2,sl W J Y] ∧ RwO ox 3878 [] wx 77 R77 W Y J ∧ RwO ox 2935 [] wx 9 R9 V X u ∧ BlkO ox 5492 wx aw 91 #[.int .u64 y.1,.int .u64 y.2.1,.int .u64 y.2.2]) ?_ ?_
    ·exact ⟨(rl [(3867,5485),(3871,5489),(5458,5492)] xQ),eP,iX,w4,yH,pT,pU,pV,pW,pX,pY,mb,mc,md,me,(Evo.rl_ tN (fun _=>Nat.le_refl 0) rfl),(BlkO.rl_ gr),(BlkO.rl_ gs),(RdO.rl_ gp),(BlkO.rl_ gt),(RwO.rl_ gq),(RwO.rl_ go),(BlkO.rl_ gu)⟩
    ·rintro ⟨Z,ag,ak,y,an⟩ wc AB Bh ⟨xR,ae,af,w5,yJ,pZ,p0,p1,p2,p3,p4,mf,mg,mh,ek,tm,gz,gA,gy,gB,gx,gw,gC⟩ K Ae vp vH yI
     have K : ref27_Open_b5 u J A N Z ag ak y an = some wc := K
     refine fl_seq (fun Af vq vI=>?_)
     refine rq_seq 215 xR (bz 2) [dv [] [13] 86 (Zi an),dv [0] [] 87 (.bool (decide (an < 3)))] yJ w5 ?_ ?_
     ·exact sM ek<|sF (fun f=>or_lss f.1 rfl rfl)<|steps_nil
     intro si AC Bi nJ s2 ly um c9
     obtain ⟨jG,jH,c3,jI,jJ,jK,el,em⟩ := kt8 ly pZ p0 p1 p2 p3 p4 mf mg
     obtain ⟨dw,en⟩ := kt2 ly mh ek
     have mi := gv (um [1] rfl) rfl
     have ld := es_ tm c9
     obtain ⟨bU,bV,bW,bX⟩ := be4 c9 gz gA gB gC
     have bT := RdO.evo rfl c9 gy
     have bS := re_ c9 gx
     have bR := re_ c9 gw
     refine fl_cond mi K (fun ww K=>?_) (fun ww K=>?_)
     ·refine fl_skip ?_
      refine vq _ _ ?_
      refine fl_seq (fun Ag vr zM=>?_)
      refine fl_block (fun Ah vs zV zN=>?_)
      obtain ⟨k,vR,K⟩ := obind K
      obtain ⟨A1,lR,K⟩ := obind K
      refine rr 215 [Fct.at_ 5485 m 86 #[sl ae Z af,Zi ag,Zi ak],Fct.at_ 5492 aw 91 #[.int .u64 y.1,.int .u64 y.2.1,.int .u64 y.2.2]] si [5485,5492] [0,0,2,6,14,14,30,127,255] [dv [] [13] 91 (Zi an),dv [9] [4] 92 (.agg #[sl ae Z af,Zi ag,Zi ak]),⟨[1],[],[],Fct.mems [5539,5540,0,5489] 93 (fun (x : Option Addr × Nat)=>.tuple #[.agg #[.slice x.1 k.1.1.length x.2,Zi k.1.2.1,Zi k.1.2.2],.int .u64 k.2]) (fun (x : Option Addr × Nat) own w=>RdO own [5539,5540,0,5489] w R5 x.1 x.2 k.1.1) (fun hk he h=>RdO.evo (hits_sub hk (by decide)) he h)⟩,⟨[2],[],[],Fct.rel [90,93] (fun l=>∀ (S : Option Addr) (E : Nat),l.getD 1 undef = .tuple #[.agg #[sl S k.1.1 E,Zi k.1.2.1,Zi k.1.2.2],.int .u64 k.2] → l.getD 0 undef = .tuple #[.agg #[sl S k.1.1 E,Zi k.1.2.1,Zi k.1.2.2],.int .u64 k.2])⟩,⟨[3,2],[],[],Fct.rel [94,93] (fun l=>∀ (S : Option Addr) (E : Nat),l.getD 1 undef = .tuple #[.agg #[sl S k.1.1 E,Zi k.1.2.1,Zi k.1.2.2],.int .u64 k.2] → l.getD 0 undef = .agg #[sl S k.1.1 E,Zi k.1.2.1,Zi k.1.2.2])⟩,dv [3,2] [] 95 (.int .u64 k.2),⟨[4,2,9],[4],[5485],Fct.by_ [5541] [93] (fun l own w=>∀ (S : Option Addr) (E : Nat),l.getD 0 undef = .tuple #[.agg #[sl S k.1.1 E,Zi k.1.2.1,Zi k.1.2.2],.int .u64 k.2] → BlkO own 5541 w m 86 #[sl S k.1.1 E,Zi k.1.2.1,Zi k.1.2.2]) (fun hk he h _ _ aa=>BlkO.evo (not_hit hk (by decide)) he (h _ _ aa))⟩,dv [0] [12] 96 (.pointer (some ((⟨aw,0,none⟩ : Addr).add ((an : Int).toNat * 1)))),⟨[7,5,10],[],[5492],Fct.at_ 5543 aw 91 #[.int .u64 (iA an 0 k.2 y.1),.int .u64 (iA an 1 k.2 y.2.1),.int .u64 (iA an 2 k.2 y.2.2)]⟩] s2 nJ (fm2 bV bX) ?_ ?_
      ·refine sM en ?_
       refine sc (fun own a wx hf T hE=>?_) ?_
       ·obtain ⟨(q : BlkO own 5485 wx m 86 #[sl ae Z af,Zi ag,Zi ak]),-⟩ := hf
        obtain ⟨aZ,-⟩ := T
        exact px (ldS ta86 (aZ.trans c3) q)
       refine sc (fun own _ _ f _ hE=>px (or_call cf40 (args1 f.1) (ref26_Take_w _ (forth own (inL [0,5489])) (Z,ag,ak) ae af inL_le (RdO.alias_ (La := [0,5489]) (RdO.evo rfl hE bT) (by decide)) k vR) (post_alias (La := [0,5489]) (m' := (look0 [(1,5539),(2,5540)])) (fun U w' a' x ho ef h1 h=>⟨x,h1,RdO.backN_ ho ef h (by decide) (by decide) (by decide)⟩)))) ?_
       refine sc (fun own a wx hf T hE=>?_) ?_
       ·obtain ⟨⟨⟨S,E⟩,(bm : a.eval (.tmp 93) = .tuple #[.agg #[sl S k.1.1 E,Zi k.1.2.1,Zi k.1.2.2],.int .u64 k.2]),dV⟩,-⟩ := hf
        exact px (or_mono (f := Fct.val 90 (.tuple #[.agg #[sl S k.1.1 E,Zi k.1.2.1,Zi k.1.2.2],.int .u64 k.2])) (or_move bm) (fun U a' w' v' hp h=>fun _ _ aa=>by cases (bm.symm.trans ((hp.2 93 (by decide)).symm.trans aa)); exact h))
       refine sc (fun own a wx hf T hE=>?_) ?_
       ·obtain ⟨(sP : ∀ (S : Option Addr) (E : Nat),a.eval (.tmp 93) = .tuple #[.agg #[sl S k.1.1 E,Zi k.1.2.1,Zi k.1.2.2],.int .u64 k.2] → a.eval (.tmp 90) = .tuple #[.agg #[sl S k.1.1 E,Zi k.1.2.1,Zi k.1.2.2],.int .u64 k.2]),⟨⟨S,E⟩,(bm : a.eval (.tmp 93) = .tuple #[.agg #[sl S k.1.1 E,Zi k.1.2.1,Zi k.1.2.2],.int .u64 k.2]),dV⟩,-⟩ := hf
        have r2 := sP _ _ bm
        exact px (or_mono (f := Fct.val 94 (.agg #[sl S k.1.1 E,Zi k.1.2.1,Zi k.1.2.2])) (ok1 r2) (fun U a' w' v' hp h=>fun _ _ aa=>by cases (bm.symm.trans ((hp.2 93 (by decide)).symm.trans aa)); exact h))
       refine sc (fun own a wx hf T hE=>?_) ?_
       ·obtain ⟨(sP : ∀ (S : Option Addr) (E : Nat),a.eval (.tmp 93) = .tuple #[.agg #[sl S k.1.1 E,Zi k.1.2.1,Zi k.1.2.2],.int .u64 k.2] → a.eval (.tmp 90) = .tuple #[.agg #[sl S k.1.1 E,Zi k.1.2.1,Zi k.1.2.2],.int .u64 k.2]),⟨⟨S,E⟩,bm,dV⟩,-⟩ := hf
        have r2 := sP _ _ bm
        exact px (ok1 r2)
       refine sc (fun own a wx hf T hE=>?_) ?_
       ·obtain ⟨(zs : ∀ (S : Option Addr) (E : Nat),a.eval (.tmp 93) = .tuple #[.agg #[sl S k.1.1 E,Zi k.1.2.1,Zi k.1.2.2],.int .u64 k.2] → a.eval (.tmp 94) = .agg #[sl S k.1.1 E,Zi k.1.2.1,Zi k.1.2.2]),⟨⟨S,E⟩,(bm : a.eval (.tmp 93) = .tuple #[.agg #[sl S k.1.1 E,Zi k.1.2.1,Zi k.1.2.2],.int .u64 k.2]),dV⟩,q,-⟩ := hf
        have zj := zs _ _ bm
        obtain ⟨aZ,-⟩ := T
        exact px (or_store (l := #[sl S k.1.1 E,Zi k.1.2.1,Zi k.1.2.2]) (lab := 5485) (lab2 := 5541) ts86 (aZ.trans c3) zj q (by simp) (by kernel_rfl) (mem_of rfl) (by decide) (by kernel_rfl) (fun U a' w' ha hb=>fun _ _ aa=>by cases (bm.symm.trans ((ha 93).symm.trans aa)); exact hb))
       refine sFS (fun f s=>or_indexArr tr91 ts26 (s.1.trans dw) f.1 (inA_ok lR) rfl) ?_
       refine sc (fun own a wx hf T hE=>?_) ?_
       ·obtain ⟨zl,zk,nD,-⟩ := hf
        exact px (or_storeA3 (lab := 5492) (lab2 := 5543) ts26 zl zk nD lR (mem_of rfl) (by decide) (fun U a' w' ha hb=>hb))
       exact steps_nil
      intro jc nw kY w6 yK lz un dO
      obtain ⟨p5,p6,p7,p8,p9,qa,mj,mk⟩ := kt8 lz jG jH c3 jI jJ jK el em
      obtain ⟨ml,mm⟩ := kt2 lz dw en
      obtain ⟨⟨⟨S,E⟩,(bm : nw.eval (.tmp 93) = .tuple #[.agg #[sl S k.1.1 E,Zi k.1.2.1,Zi k.1.2.2],.int .u64 k.2]),(gF : RdO jc [5539,5540,0,5489] kY R5 S E k.1.1)⟩,(am : ∀ (S : Option Addr) (E : Nat),nw.eval (.tmp 93) = .tuple #[.agg #[sl S k.1.1 E,Zi k.1.2.1,Zi k.1.2.2],.int .u64 k.2] → BlkO jc 5541 kY m 86 #[sl S k.1.1 E,Zi k.1.2.1,Zi k.1.2.2]),(gJ : BlkO jc 5543 kY aw 91 #[.int .u64 (iA an 0 k.2 y.1),.int .u64 (iA an 1 k.2 y.2.1),.int .u64 (iA an 2 k.2 y.2.2)]),-⟩ := un [2,6,8] rfl
      have gH := am _ _ bm
      have tO := es_ ld dO
      obtain ⟨gG,gI⟩ := be2 dO bU bW
      have gE := re_ dO bS
      have gD := re_ dO bR
      refine vs _ _ ?_
      refine vr _ _ ?_
      refine rq 215 jc (bz 3) [dv [] [13] 88 (Zi an),dv [0] [] 89 (Zi (ad an 1)),dv [1] [] 13 (Zi (ad an 1))] yK w6 ?_ ?_
      ·exact sM mm<|sF (fun f=>or_add f.1 rfl rfl)<|sA<|steps_nil
      intro xS AD Bj w7 yL lA uo da
      obtain ⟨qb,qc,qd,qe,qf,qg,mn,mo⟩ := kt8 lA p5 p6 p7 p8 p9 qa mj mk
      have mp := kt lA ml
      have mq := gv (uo [2] rfl) rfl
      have tP := es_ tO da
      obtain ⟨gN,gP,gO,gQ⟩ := be4 da gG gI gH gJ
      have gL := re_ da gE
      have gK := re_ da gD
      have gM := RdO.evo rfl da gF
      exact vp _ _ _ K ⟨(rl [(5539,5489),(5540,5489),(5541,5485),(5543,5492)] xS),S,E,w7,yL,qb,qc,qd,qe,qf,qg,mn,mo,mp,mq,(Evo.rl_ tP (fun _=>Nat.le_refl 0) rfl),(BlkO.rl_ gN),(BlkO.rl_ gO),(RdO.more (RdO.rl_ gM) (by decide)),(BlkO.rl_ gP),(RwO.rl_ gL),(RwO.rl_ gK),(BlkO.rl_ gQ)⟩
     refine fl_exit ?_
     refine vI _ _ _ rfl ?_
     replace K := yI _ K
     refine vH _ _ _ rfl ?_
     refine v4 _ _ ?_
     refine vo _ _ ?_
     refine rp_seq 215 si [5547] [0,0,3] [dv [] [] 97 (.agg #[Zi (-1),Zi 0,Zi 0]),⟨[],[],[],Fct.blk 5547 14 (fun g=>pt g 0) 75 #[Zi 0,Zi 0,Zi 0]⟩,⟨[1,0],[],[5547],Fct.blk 5548 14 (fun g=>pt g 0) 75 #[Zi (-1),Zi 0,Zi 0]⟩] s2 nJ ?_ ?_
     ·refine sO (or_k [] rfl rfl trivial (by kernel_rfl))<|sO (nw0) ?_
      refine sc (fun own a wx hf T hE=>?_) ?_
      ·obtain ⟨⟨aj,wd,dX⟩,zm,-⟩ := hf
       exact px (or_store (l := #[Zi (-1),Zi 0,Zi 0]) (lab := 5547) (lab2 := 5548) ts75 wd zm dX (by simp) (by kernel_rfl) (mem_of rfl) (by decide) (by kernel_rfl) (fun U a' w' ha hb=>⟨_,(ha 14).trans wd,hb⟩))
      exact steps_nil
     intro sj wr x2 w8 yM lB up db
     obtain ⟨qh,qi,qj,qk,ql,qm,mr,ms⟩ := kt8 lB jG jH c3 jI jJ jK el em
     have br := kt lB dw
     obtain ⟨⟨aj,(mt : wr.eval (.tmp 14) = pt aj 0),(gX : BlkO sj 5548 x2 aj 75 #[Zi (-1),Zi 0,Zi 0])⟩,-⟩ := up [2] rfl
     have tQ := es_ ld db
     obtain ⟨gU,gV,gW,aK⟩ := be4 db bU bV bW bX
     have gT := RdO.evo rfl db bT
     have gS := re_ db bS
     have gR := re_ db bR
     refine fl_seq (fun wh vt zO=>?_)
     have nk : ∀ (az : Act) (a2 : World) (aT : Own) (B : Int × Int × Int),az.defers = [] → az.tmps.size = 215 → az.eval (.tmp 0) = sl aF b1 aI → az.eval (.tmp 2) = pt H 0 → az.eval (.tmp 4) = pt m 0 → az.eval (.tmp 5) = pt M 0 → az.eval (.tmp 6) = Zi i.2 → az.eval (.tmp 7) = sl V u X → az.eval (.tmp 10) = Zi A → az.eval (.tmp 11) = Zi N → az.eval (.tmp 14) = pt aj 0 → Evo [] (fun _=>0) aT w a2 → BlkO aT 2835 a2 H 43 #[.string ByteArray.empty,.slice none 0 0] → BlkO aT 5485 a2 m 86 #[sl ae Z af,Zi ag,Zi ak] → RdO aT [0,5489] a2 R5 ae af Z → BlkO aT 3874 a2 M 43 #[.string c.2,sl W J Y] → RwO aT 3878 [] a2 77 R77 W Y J → RwO aT 2935 [] a2 9 R9 V X u → BlkO aT 5557 a2 aj 75 #[Zi B.1,Zi B.2.1,Zi B.2.2] → ref27_Open_k6 u J A N Z ag ak B = some aL → wh .normal az a2 := by
      intro az a2 aT B w9 yN qn qo jL qp qq qr mu mv eo tn g1 bY g0 g2 gZ gY bZ K
      refine vt _ _ ?_
      refine fl_seq (fun wi vu zP=>?_)
      have nl : ∀ (aA : Act) (a3 : World) (aU : Own) (bf : Int),aA.defers = [] → aA.tmps.size = 215 → aA.eval (.tmp 0) = sl aF b1 aI → aA.eval (.tmp 2) = pt H 0 → aA.eval (.tmp 4) = pt m 0 → aA.eval (.tmp 5) = pt M 0 → aA.eval (.tmp 6) = Zi i.2 → aA.eval (.tmp 7) = sl V u X → aA.eval (.tmp 10) = Zi A → aA.eval (.tmp 11) = Zi N → aA.eval (.tmp 14) = pt aj 0 → Evo [] (fun _=>0) aU w a3 → BlkO aU 2835 a3 H 43 #[.string ByteArray.empty,.slice none 0 0] → BlkO aU 5567 a3 m 86 #[sl ae Z af,Zi ag,Zi bf] → RdO aU [0,5489] a3 R5 ae af Z → BlkO aU 3874 a3 M 43 #[.string c.2,sl W J Y] → RwO aU 3878 [] a3 77 R77 W Y J → RwO aU 2935 [] a3 9 R9 V X u → BlkO aU 5557 a3 aj 75 #[Zi B.1,Zi B.2.1,Zi B.2.2] → ref27_Open_k7 u J A N Z ag B bf = some aL → wi .normal aA a3 := by
       intro aA a3 aU bf xa yO qs qt jM jN qu qv mw dx ep tp g5 b0 g4 b2 bb g3 b3 K
       refine vu _ _ ?_
       refine fl_seq (fun wj vv zQ=>?_)
       have nm : ∀ (aB : Act) (a4 : World) (aV : Own) (du : Int),aB.defers = [] → aB.tmps.size = 215 → aB.eval (.tmp 0) = sl aF b1 aI → aB.eval (.tmp 2) = pt H 0 → aB.eval (.tmp 4) = pt m 0 → aB.eval (.tmp 5) = pt M 0 → aB.eval (.tmp 6) = Zi i.2 → aB.eval (.tmp 7) = sl V u X → aB.eval (.tmp 10) = Zi A → aB.eval (.tmp 11) = Zi N → aB.eval (.tmp 14) = pt aj 0 → Evo [] (fun _=>0) aV w a4 → BlkO aV 2835 a4 H 43 #[.string ByteArray.empty,.slice none 0 0] → BlkO aV 5579 a4 m 86 #[sl ae Z af,Zi ag,Zi du] → RdO aV [0,5489] a4 R5 ae af Z → BlkO aV 3874 a4 M 43 #[.string c.2,sl W J Y] → RwO aV 3878 [] a4 77 R77 W Y J → RwO aV 2935 [] a4 9 R9 V X u → BlkO aV 5557 a4 aj 75 #[Zi B.1,Zi B.2.1,Zi B.2.2] → ref27_Open_k8 u J A N Z ag B du = some aL → wj .normal aB a4 := by
        intro aB a4 aV du xb yP qw qx jO qy qz qA mx my mz tq g8 b5 b4 g9 g7 g6 hc K
        refine vv _ _ ?_
        obtain ⟨b,vS,K⟩ := obind K
        refine rp_seq 215 aV [5588] [0,1,3,7,7,0,47,127] [dv [] [4] 151 (.agg #[sl ae Z af,Zi ag,Zi du]),⟨[0],[],[],Fct.mems [5585,5586,0,5489] 152 (fun (x : Option Addr × Nat)=>.tuple #[.agg #[.slice x.1 b.1.1.length x.2,Zi b.1.2.1,Zi b.1.2.2],.int .u64 b.2]) (fun (x : Option Addr × Nat) own w=>RdO own [5585,5586,0,5489] w R5 x.1 x.2 b.1.1) (fun hk he h=>RdO.evo (hits_sub hk (by decide)) he h)⟩,⟨[1],[],[],Fct.rel [150,152] (fun l=>∀ (p : Option Addr) (o : Nat),l.getD 1 undef = .tuple #[.agg #[sl p b.1.1 o,Zi b.1.2.1,Zi b.1.2.2],.int .u64 b.2] → l.getD 0 undef = .tuple #[.agg #[sl p b.1.1 o,Zi b.1.2.1,Zi b.1.2.2],.int .u64 b.2])⟩,⟨[2,1],[],[],Fct.rel [153,152] (fun l=>∀ (p : Option Addr) (o : Nat),l.getD 1 undef = .tuple #[.agg #[sl p b.1.1 o,Zi b.1.2.1,Zi b.1.2.2],.int .u64 b.2] → l.getD 0 undef = .agg #[sl p b.1.1 o,Zi b.1.2.1,Zi b.1.2.2])⟩,dv [2,1] [] 154 (.int .u64 b.2),⟨[],[],[],Fct.blk 5588 15 (fun g=>pt g 0) 86 #[.slice none 0 0,Zi 0,Zi 0]⟩,⟨[5,3,1],[],[5588],Fct.by_ [5589] [15,152] (fun l own w=>∃ dB : Nat,l.getD 0 undef = pt dB 0 ∧ (∀ (p : Option Addr) (o : Nat),l.getD 1 undef = .tuple #[.agg #[sl p b.1.1 o,Zi b.1.2.1,Zi b.1.2.2],.int .u64 b.2] → BlkO own 5589 w dB 86 #[sl p b.1.1 o,Zi b.1.2.1,Zi b.1.2.2])) (fun hk he h=>by obtain ⟨g,e,h⟩ := h; exact ⟨g,e,fun _ _ aa=>BlkO.evo (not_hit hk (by decide)) he (h _ _ aa)⟩)⟩,dv [4] [] 16 (.int .u64 b.2)] yP xb ?_ ?_
        ·refine sL ta86 jO b5 ?_
         refine sc (fun own _ _ f _ hE=>px (or_call cf40 (args1 f.1) (ref26_Take_w _ (forth own (inL [0,5489])) (Z,ag,du) ae af inL_le (RdO.alias_ (La := [0,5489]) (RdO.evo rfl hE b4) (by decide)) b vS) (post_alias (La := [0,5489]) (m' := (look0 [(1,5585),(2,5586)])) (fun U w' a' x ho ef h1 h=>⟨x,h1,RdO.backN_ ho ef h (by decide) (by decide) (by decide)⟩)))) ?_
         refine sc (fun own a wx hf T hE=>?_) ?_
         ·obtain ⟨⟨⟨p,o⟩,(aJ : a.eval (.tmp 152) = .tuple #[.agg #[sl p b.1.1 o,Zi b.1.2.1,Zi b.1.2.2],.int .u64 b.2]),dW⟩,-⟩ := hf
          exact px (or_mono (f := Fct.val 150 (.tuple #[.agg #[sl p b.1.1 o,Zi b.1.2.1,Zi b.1.2.2],.int .u64 b.2])) (or_move aJ) (fun U a' w' v' hp h=>fun _ _ aa=>by cases (aJ.symm.trans ((hp.2 152 (by decide)).symm.trans aa)); exact h))
         refine sc (fun own a wx hf T hE=>?_) ?_
         ·obtain ⟨(kV : ∀ (p : Option Addr) (o : Nat),a.eval (.tmp 152) = .tuple #[.agg #[sl p b.1.1 o,Zi b.1.2.1,Zi b.1.2.2],.int .u64 b.2] → a.eval (.tmp 150) = .tuple #[.agg #[sl p b.1.1 o,Zi b.1.2.1,Zi b.1.2.2],.int .u64 b.2]),⟨⟨p,o⟩,(aJ : a.eval (.tmp 152) = .tuple #[.agg #[sl p b.1.1 o,Zi b.1.2.1,Zi b.1.2.2],.int .u64 b.2]),dW⟩,-⟩ := hf
          have kP := kV _ _ aJ
          exact px (or_mono (f := Fct.val 153 (.agg #[sl p b.1.1 o,Zi b.1.2.1,Zi b.1.2.2])) (ok1 kP) (fun U a' w' v' hp h=>fun _ _ aa=>by cases (aJ.symm.trans ((hp.2 152 (by decide)).symm.trans aa)); exact h))
         refine sc (fun own a wx hf T hE=>?_) ?_
         ·obtain ⟨(kV : ∀ (p : Option Addr) (o : Nat),a.eval (.tmp 152) = .tuple #[.agg #[sl p b.1.1 o,Zi b.1.2.1,Zi b.1.2.2],.int .u64 b.2] → a.eval (.tmp 150) = .tuple #[.agg #[sl p b.1.1 o,Zi b.1.2.1,Zi b.1.2.2],.int .u64 b.2]),⟨⟨p,o⟩,aJ,dW⟩,-⟩ := hf
          have kP := kV _ _ aJ
          exact px (ok1 kP)
         refine sO (nw0) ?_
         refine sc (fun own a wx hf T hE=>?_) ?_
         ·obtain ⟨⟨dB,we,nE⟩,(xU : ∀ (p : Option Addr) (o : Nat),a.eval (.tmp 152) = .tuple #[.agg #[sl p b.1.1 o,Zi b.1.2.1,Zi b.1.2.2],.int .u64 b.2] → a.eval (.tmp 153) = .agg #[sl p b.1.1 o,Zi b.1.2.1,Zi b.1.2.2]),⟨⟨p,o⟩,(aJ : a.eval (.tmp 152) = .tuple #[.agg #[sl p b.1.1 o,Zi b.1.2.1,Zi b.1.2.2],.int .u64 b.2]),dW⟩,-⟩ := hf
          have xv := xU _ _ aJ
          exact px (or_store (l := #[sl p b.1.1 o,Zi b.1.2.1,Zi b.1.2.2]) (lab := 5588) (lab2 := 5589) ts86 we xv nE (by simp) (by kernel_rfl) (mem_of rfl) (by decide) (by kernel_rfl) (fun U a' w' ha hb=>⟨_,(ha 15).trans we,fun _ _ aa=>by cases (aJ.symm.trans ((ha 152).symm.trans aa)); exact hb⟩))
         exact sA<|steps_nil
        intro kT kB sU xc yQ lC ls dd
        obtain ⟨qB,qC,jP,qD,qE,qF,mA,mB⟩ := kt8 lC qw qx jO qy qz qA mx my
        have mC := kt lC mz
        have mE := gv (ls [7] rfl) rfl
        obtain ⟨⟨⟨p,o⟩,(aJ : kB.eval (.tmp 152) = .tuple #[.agg #[sl p b.1.1 o,Zi b.1.2.1,Zi b.1.2.2],.int .u64 b.2]),(hi : RdO kT [5585,5586,0,5489] sU R5 p o b.1.1)⟩,⟨dB,(mD : kB.eval (.tmp 15) = pt dB 0),(lU : ∀ (p : Option Addr) (o : Nat),kB.eval (.tmp 152) = .tuple #[.agg #[sl p b.1.1 o,Zi b.1.2.1,Zi b.1.2.2],.int .u64 b.2] → BlkO kT 5589 sU dB 86 #[sl p b.1.1 o,Zi b.1.2.1,Zi b.1.2.2])⟩,-⟩ := ls [1,6] rfl
        have hq := lU _ _ aJ
        have tR := es_ tq dd
        obtain ⟨hj,hl,hm,hn⟩ := be4 dd g8 b5 g9 hc
        have td := RdO.evo rfl dd b4
        have hh := re_ dd g7
        have hd := re_ dd g6
        refine rr_seq 215 [Fct.at_ 5579 m 86 #[sl ae Z af,Zi ag,Zi du]] kT [5579] (bz 2) [dv [] [15] 155 (.agg #[sl p b.1.1 o,Zi b.1.2.1,Zi b.1.2.2]),⟨[0,2],[4],[5579],Fct.at_ 5591 m 86 #[sl p b.1.1 o,Zi b.1.2.1,Zi b.1.2.2]⟩] yQ xc (fm1 hl) ?_ ?_
        ·refine sL ta86 mD hq ?_
         refine sc (fun own a wx hf T hE=>?_) ?_
         ·obtain ⟨xw,q,-⟩ := hf
          obtain ⟨aZ,-⟩ := T
          exact px (or_store (l := #[sl p b.1.1 o,Zi b.1.2.1,Zi b.1.2.2]) (lab := 5579) (lab2 := 5591) ts86 (aZ.trans jP) xw q (by simp) (by kernel_rfl) (mem_of rfl) (by decide) (by kernel_rfl) (fun U a' w' ha hb=>hb))
         exact steps_nil
        intro sk AE x3 xd yR lD uq de
        obtain ⟨qG,qH,jQ,qI,qJ,jR,mF,mG⟩ := kt8 lD qB qC jP qD qE qF mA mB
        obtain ⟨mH,eq⟩ := kt2 lD mC mE
        obtain ⟨(b6 : BlkO sk 5591 x3 m 86 #[sl p b.1.1 o,Zi b.1.2.1,Zi b.1.2.2]),-⟩ := uq [1] rfl
        have tS := es_ tR de
        obtain ⟨hv,hw,hy⟩ := be3 de hj hm hn
        have ht := re_ de hh
        have hr := re_ de hd
        have hu := RdO.evo rfl de hi
        refine fl_seq (fun wk vw zR=>?_)
        have nn : ∀ (ap : Act) (a5 : World) (aW : Own) (aQ : Int),ap.defers = [] → ap.tmps.size = 215 → ap.eval (.tmp 0) = sl aF b1 aI → ap.eval (.tmp 2) = pt H 0 → ap.eval (.tmp 4) = pt m 0 → ap.eval (.tmp 5) = pt M 0 → ap.eval (.tmp 6) = Zi i.2 → ap.eval (.tmp 7) = sl V u X → ap.eval (.tmp 10) = Zi A → ap.eval (.tmp 11) = Zi N → ap.eval (.tmp 14) = pt aj 0 → ap.eval (.tmp 16) = .int .u64 b.2 → Evo [] (fun _=>0) aW w a5 → BlkO aW 2835 a5 H 43 #[.string ByteArray.empty,.slice none 0 0] → BlkO aW 5600 a5 m 86 #[sl p b.1.1 o,Zi b.1.2.1,Zi aQ] → RdO aW [5585,5586,0,5489] a5 R5 p o b.1.1 → BlkO aW 3874 a5 M 43 #[.string c.2,sl W J Y] → RwO aW 3878 [] a5 77 R77 W Y J → RwO aW 2935 [] a5 9 R9 V X u → BlkO aW 5557 a5 aj 75 #[Zi B.1,Zi B.2.1,Zi B.2.2] → ref27_Open_k9 u J A N B b aQ = some aL → wk .normal ap a5 := by
         intro ap a5 aW aQ xe yS qK qL jS qM qN qO er mI mJ es tr hC b7 hB hD hA hz hF K
         refine vw _ _ ?_
         refine fl_seq (fun wl vx zS=>?_)
         have np : ∀ (aq : Act) (a6 : World) (aX : Own) (bt : Int),aq.defers = [] → aq.tmps.size = 215 → aq.eval (.tmp 0) = sl aF b1 aI → aq.eval (.tmp 2) = pt H 0 → aq.eval (.tmp 4) = pt m 0 → aq.eval (.tmp 5) = pt M 0 → aq.eval (.tmp 6) = Zi i.2 → aq.eval (.tmp 7) = sl V u X → aq.eval (.tmp 10) = Zi A → aq.eval (.tmp 11) = Zi N → aq.eval (.tmp 14) = pt aj 0 → aq.eval (.tmp 16) = .int .u64 b.2 → Evo [] (fun _=>0) aX w a6 → BlkO aX 2835 a6 H 43 #[.string ByteArray.empty,.slice none 0 0] → BlkO aX 5610 a6 m 86 #[sl p b.1.1 o,Zi b.1.2.1,Zi bt] → RdO aX [5585,5586,0,5489] a6 R5 p o b.1.1 → BlkO aX 3874 a6 M 43 #[.string c.2,sl W J Y] → RwO aX 3878 [] a6 77 R77 W Y J → RwO aX 2935 [] a6 9 R9 V X u → BlkO aX 5557 a6 aj 75 #[Zi B.1,Zi B.2.1,Zi B.2.2] → ref27_Open_k10 u J A N B b bt = some aL → wl .normal aq a6 := by
          intro aq a6 aX bt xf yT qP qQ jT qR qS qT mK mL mM mN ts hJ b8 hI hK hH hG hL K
          refine vx _ _ ?_
          refine rq_seq 215 aX (bz 3) [dv [] [4] 177 (pt m 2),dv [0] [] 178 (Zi bt),dv [1] [] 179 (.bool (decide (bt = 0)))] yT xf ?_ ?_
          ·exact sS (fun s=>or_field fo86_2 (s.1.trans jT) (by rfl))<|sG to3 b8<|sF (fun f=>or_eql f.1 rfl rfl)<|steps_nil
          intro sm AF Bk nK s3 lE ur df
          obtain ⟨jU,jV,jW,jX,jY,jZ,dy,et⟩ := kt8 lE qP qQ jT qR qS qT mK mL
          obtain ⟨mO,eu⟩ := kt2 lE mM mN
          have kF := gv (ur [2] rfl) rfl
          have le := es_ ts df
          obtain ⟨cc,cd,ce,hM⟩ := be4 df hJ b8 hK hL
          have cb := RdO.evo rfl df hI
          have ca := re_ df hH
          have b9 := re_ df hG
          refine fl_cond kF K (fun wy K=>?_) (fun wy K=>?_)
          ·refine fl_seq (fun wm vy zT=>?_)
           have nq : ∀ (ar : Act) (a7 : World) (aY : Own) (dD : Int),ar.defers = [] → ar.tmps.size = 215 → ar.eval (.tmp 0) = sl aF b1 aI → ar.eval (.tmp 2) = pt H 0 → ar.eval (.tmp 4) = pt m 0 → ar.eval (.tmp 5) = pt M 0 → ar.eval (.tmp 6) = Zi i.2 → ar.eval (.tmp 7) = sl V u X → ar.eval (.tmp 10) = Zi dD → ar.eval (.tmp 11) = Zi N → ar.eval (.tmp 14) = pt aj 0 → ar.eval (.tmp 16) = .int .u64 b.2 → Evo [] (fun _=>0) aY w a7 → BlkO aY 2835 a7 H 43 #[.string ByteArray.empty,.slice none 0 0] → BlkO aY 5610 a7 m 86 #[sl p b.1.1 o,Zi b.1.2.1,Zi bt] → RdO aY [5585,5586,0,5489] a7 R5 p o b.1.1 → BlkO aY 3874 a7 M 43 #[.string c.2,sl W J Y] → RwO aY 3878 [] a7 77 R77 W Y J → RwO aY 2935 [] a7 9 R9 V X u → BlkO aY 5557 a7 aj 75 #[Zi B.1,Zi B.2.1,Zi B.2.2] → ref27_Open_k11 u J N B b bt dD = some aL → wm .normal ar a7 := by
            intro ar a7 aY dD xg yU qU qV qW d8 qX j0 mP mQ mR mS tt hP hQ hO hR hN bc hS K
            refine vy _ _ ?_
            obtain ⟨jh,i9,K⟩ := obind K
            obtain ⟨bq,v5,K⟩ := obind K
            refine rd_ g_mixed 215 [Fct.rowAt 3878 [] 77 R77 W Y J,Fct.at_ 3874 M 43 #[.string c.2,sl W J Y]] aY [3878,3874] [0,1,0,0,0,24,56,124,252,511,1023,2047] [dv [] [5] 186 (pt M 1),dv [0,13] [] 187 (sl W J Y),dv [] [14] 188 (.agg #[Zi B.1,Zi B.2.1,Zi B.2.2]),dv [] [7] 189 (sl V u X),dv [] [16] 190 (.int .u64 b.2),dv [3,4] [] 191 (.pointer (some ((adr V).add ((b.2 : Int).toNat * R9.s)))),dv [5] [] 192 (.string jh),dv [2,6] [] 193 (.agg #[Zi B.1,Zi B.2.1,Zi B.2.2,.string jh]),⟨[7],[],[],Fct.row 5634 [] 194 77 R77 [(B,jh)]⟩,⟨[1,8,12],[],[3878],Fct.row 5636 [] 195 77 R77 bq⟩,dv [] [5] 196 (pt M 1),⟨[10,9,13],[],[3874],Fct.by_ [5638] [195] (fun l own w=>∀ (aN : Option Addr) (av : Nat),l.getD 0 undef = sl aN bq av → BlkO own 5638 w M 43 #[.string c.2,sl aN bq av]) (fun hk he h _ _ aa=>BlkO.evo (not_hit hk (by decide)) he (h _ _ aa))⟩] yU xg (fm2 hN hR) ?_ ?_
            ·refine sS (fun s=>or_field fo43_1 (s.1.trans d8) (by rfl)) ?_
             refine sc (fun own a wx hf T hE=>?_) ?_
             ·obtain ⟨xz,(bn : BlkO own 3874 wx M 43 #[.string c.2,sl W J Y]),-⟩ := hf
              exact px (ld1 to41 xz bn)
             refine sL ta75 mR hS<|sM j0<|sM mS<|sF (fun f=>or_index (R := R9) (l := u) tl80 f.1 f.2.1 (RdO.some_ (RwO.rd bc) i9) i9)<|sFE (fun f hE=>or_load1 to9 f.1 (CellsAt.zero (RdO.cells (F := E9) (RwO.rd (re_ hE bc)) i9) rfl))<|sF (fun f=>ok2 f.1 f.2.1)<|sF (fun f=>or_lit (lab := 5634) (e := 77) (cs := #[Zi B.1,Zi B.2.1,Zi B.2.2,.string jh]) (F := E77) (nw1 f.1) rfl rfl (show 1 ≤ maxLen by decide)) ?_
             refine sc (fun own a wx hf T hE=>?_) ?_
             ·obtain ⟨xA,⟨⟨zY,zw⟩,xB,nC⟩,nB,-⟩ := hf
              exact px (or_append (R := R77) (lab := 3878) (lab2 := 5636) (L := []) (L3 := []) tp41 xA nB (by decide) xB (RwO.rd nC) v5 (by decide) (by decide) (mem_of rfl) (.inl (Rep.fl_flat _)))
             refine sS (fun s=>or_field fo43_1 (s.1.trans d8) (by rfl)) ?_
             refine sc (fun own a wx hf T hE=>?_) ?_
             ·obtain ⟨xC,⟨⟨aN,av⟩,(i2 : a.eval (.tmp 195) = sl aN bq av),y3⟩,bn,-⟩ := hf
              exact px (or_store1 (lab := 3874) (lab2 := 5638) ts41 xC i2 bn (by simp) rfl (mem_of rfl) (by decide) rfl (fun U a' w' ha hb=>fun _ _ aa=>by cases (i2.symm.trans ((ha 195).symm.trans aa)); exact hb))
             exact steps_nil
            intro kU nx sW xh yV u4 us dP
            obtain ⟨qY,qZ,q0,q1,q2,q3,mT,mU⟩ := kt8 u4 qU qV qW d8 qX j0 mP mQ
            obtain ⟨⟨⟨aN,av⟩,(i2 : nx.eval (.tmp 195) = sl aN bq av),(hV : RwO kU 5636 [] sW 77 R77 aN av bq)⟩,(lT : ∀ (aN : Option Addr) (av : Nat),nx.eval (.tmp 195) = sl aN bq av → BlkO kU 5638 sW M 43 #[.string c.2,sl aN bq av]),-⟩ := us [9,11] rfl
            have hY := lT _ _ i2
            have tT := es_ tt dP
            obtain ⟨hW,hX⟩ := be2 dP hP hQ
            have hU := RdO.evo rfl dP hO
            have hT := re_ dP bc
            exact (nj _ _ (rl [(5489,5356),(5585,5356),(5586,5356),(5610,5381),(5636,5452),(5638,5448)] kU) _ _ _ _ _ p o aN av xh yV qY qZ q0 q1 q2 q3 mT mU (Evo.rl_ tT (fun _=>Nat.le_refl 0) rfl) (BlkO.rl_ hW) (BlkO.rl_ hX) (RdO.more (RdO.rl_ hU) (by decide)) (BlkO.rl_ hY) (RwO.rl_ hV) (RwO.rl_ hT) K).1
           refine rq_seq 215 sm [0,1,0,7] [dv [] [16] 180 (.int .u64 b.2),dv [0] [] 181 (Zi (IntKind.i64.wrap b.2)),dv [] [10] 182 (Zi A),dv [1,2] [] 183 (.bool (decide ((IntKind.i64.wrap b.2) = A)))] s3 nK ?_ ?_
           ·exact sM eu<|sF (fun f=>or_conv f.1 tn26 tn3 rfl)<|sM dy<|sF (fun f=>or_eql f.1 f.2.1 rfl)<|steps_nil
           intro sn AG Bl nL s4 lF ut dg
           obtain ⟨j1,j2,j3,j4,j5,j6,ev,ew⟩ := kt8 lF jU jV jW jX jY jZ dy et
           obtain ⟨ex,ey⟩ := kt2 lF mO eu
           have kG := gv (ut [3] rfl) rfl
           have lf := es_ le dg
           obtain ⟨ci,cj,ck,cl⟩ := be4 dg cc cd ce hM
           have ch := RdO.evo rfl dg cb
           have cg := re_ dg ca
           have cf := re_ dg b9
           refine fl_cond kG K (fun wz K=>?_) (fun wz K=>?_)
           ·refine rq 215 sn (bz 3) [dv [] [10] 184 (Zi A),dv [0] [] 185 (Zi (ad A 1)),dv [1] [] 10 (Zi (ad A 1))] s4 nL ?_ ?_
            ·exact sM ev<|sF (fun f=>or_add f.1 rfl rfl)<|sA<|steps_nil
            intro xT AH Bm xi yW lG uu dh
            obtain ⟨q4,q5,q6,q7,q8,q9,mW,mX⟩ := kt8 lG j1 j2 j3 j4 j5 j6 ew ex
            have mY := kt lG ey
            have mV := gv (uu [2] rfl) rfl
            have tU := es_ lf dh
            obtain ⟨h3,h4,h5,h6⟩ := be4 dh ci cj ck cl
            have h2 := RdO.evo rfl dh ch
            have h0 := re_ dh cg
            have hZ := re_ dh cf
            exact (nq _ _ xT _ xi yW q4 q5 q6 q7 q8 q9 mV mW mX mY tU h3 h4 h2 h5 h0 hZ h6 K)
           refine fl_skip ?_
           exact (nq _ _ sn _ nL s4 j1 j2 j3 j4 j5 j6 ev ew ex ey lf ci cj ch ck cg cf cl K)
          refine fl_skip ?_
          exact (nj _ _ (rl [(3874,5448),(3878,5452),(5489,5356),(5585,5356),(5586,5356),(5610,5381)] sm) _ _ _ _ _ p o W Y nK s3 jU jV jW jX jY jZ dy et (Evo.rl_ le (fun _=>Nat.le_refl 0) rfl) (BlkO.rl_ cc) (BlkO.rl_ cd) (RdO.more (RdO.rl_ cb) (by decide)) (BlkO.rl_ ce) (RwO.rl_ ca) (RwO.rl_ b9) K).1
         obtain ⟨yh,v6,K⟩ := obind K
         refine rq_seq 215 aW [0,1,3,7,15,31,15,127,255] [dv [] [4] 167 (pt m 2),dv [0] [] 168 (Zi aQ),dv [1] [] 169 (.bool (decide (aQ = 0))),dv [2] [] 170 (.bool (decide (aQ = 0))),dc [3] [16] (decide (aQ = 0)) 171 (.int .u64 b.2),dc [3,4] [] (decide (aQ = 0)) 172 (Zi (IntKind.i64.wrap b.2)),dc [3] [10] (decide (aQ = 0)) 173 (Zi A),dc [3,5,6] [] (decide (aQ = 0)) 174 (.bool (decide (A < (IntKind.i64.wrap b.2)))),dv [3,7] [] 175 (.bool yh)] yS xe ?_ ?_
         ·exact sS (fun s=>or_field fo86_2 (s.1.trans jS) (by rfl))<|sG to3 b7<|sF (fun f=>or_eql f.1 rfl rfl)<|sV<|cT (fun _ s _ _=>or_move (s.1.trans es))<|cT (fun f _ _ hg=>or_conv (f.2.1.1 hg) tn26 tn3 rfl)<|cT (fun _ s _ _=>or_move (s.1.trans er))<|cT (fun f _ _ hg=>or_gtr (f.2.1.1 hg) (f.2.2.1.1 hg) rfl)<|sF (fun f=>or_and f.1 (fun hx=>f.2.1.1 hx) rfl (osome v6).symm)<|steps_nil
         intro so AI Bn nM s5 lH uv di
         obtain ⟨j7,j8,d9,j9,ka,kb,ez,eA⟩ := kt8 lH qK qL jS qM qN qO er mI
         obtain ⟨eB,eC⟩ := kt2 lH mJ es
         have kH := gv (uv [8] rfl) rfl
         have lg := es_ tr di
         obtain ⟨cp,cq,cr,ct⟩ := be4 di hC b7 hD hF
         have co := RdO.evo rfl di hB
         have cn := re_ di hA
         have cm := re_ di hz
         refine fl_cond kH K (fun wA K=>?_) (fun wA K=>?_)
         ·refine rr 215 [Fct.at_ 5600 m 86 #[sl p b.1.1 o,Zi b.1.2.1,Zi aQ]] so [5600] (bz 2) [dv [] [4] 176 (pt m 2),⟨[0,2],[],[5600],Fct.at_ 5646 m 86 #[sl p b.1.1 o,Zi b.1.2.1,Zi 18]⟩] s5 nM (fm1 cq) ?_ ?_
          ·refine sS (fun s=>or_field fo86_2 (s.1.trans d9) (by rfl)) ?_
           refine sc (fun own a wx hf T hE=>?_) ?_
           ·obtain ⟨xy,q,-⟩ := hf
            exact px (or_store1 (lab := 5600) (lab2 := 5646) ts3 xy rfl q (by simp) rfl (mem_of rfl) (by decide) rfl (fun U a' w' ha hb=>hb))
           exact steps_nil
          intro sp AJ x4 xj yX lI uw dj
          obtain ⟨ra,rb,rc,re,rf,rg,mZ,m0⟩ := kt8 lI j7 j8 d9 j9 ka kb ez eA
          obtain ⟨m1,m2⟩ := kt2 lI eB eC
          obtain ⟨(ib : BlkO sp 5646 x4 m 86 #[sl p b.1.1 o,Zi b.1.2.1,Zi 18]),-⟩ := uw [1] rfl
          have tV := es_ lg dj
          obtain ⟨ia,ic,id⟩ := be3 dj cp cr ct
          have h9 := RdO.evo rfl dj co
          have h8 := re_ dj cn
          have h7 := re_ dj cm
          exact (np _ _ (rl [(5646,5610)] sp) _ xj yX ra rb rc re rf rg mZ m0 m1 m2 (Evo.rl_ tV (fun _=>Nat.le_refl 0) rfl) (BlkO.rl_ ia) (BlkO.rl_ ib) (RdO.rl_ h9) (BlkO.rl_ ic) (RwO.rl_ h8) (RwO.rl_ h7) (BlkO.rl_ id) K)
         refine fl_skip ?_
         exact (np _ _ (rl [(5600,5610)] so) _ nM s5 j7 j8 d9 j9 ka kb ez eA eB eC (Evo.rl_ lg (fun _=>Nat.le_refl 0) rfl) (BlkO.rl_ cp) (BlkO.rl_ cq) (RdO.rl_ co) (BlkO.rl_ cr) (RwO.rl_ cn) (RwO.rl_ cm) (BlkO.rl_ ct) K)
        obtain ⟨sX,v7,K⟩ := obind K
        obtain ⟨yi,v8,K⟩ := obind K
        refine rq_seq 215 sk [0,1,3,7,15,15,47,111,255,511] [dv [] [4] 156 (pt m 2),dv [0] [] 157 (Zi b.1.2.2),dv [1] [] 158 (.bool (decide (b.1.2.2 = 0))),dv [2] [] 159 (.bool (decide (b.1.2.2 = 0))),dc [3] [16] (decide (b.1.2.2 = 0)) 160 (.int .u64 b.2),dc [3] [7] (decide (b.1.2.2 = 0)) 161 (sl V u X),dc [3,5] [] (decide (b.1.2.2 = 0)) 162 (Zi (u.length : Int)),dc [3,6] [] (decide (b.1.2.2 = 0)) 163 (.int .u64 sX),dc [3,4,7] [] (decide (b.1.2.2 = 0)) 164 (.bool (decide (sX ≤ b.2))),dv [3,8] [] 165 (.bool yi)] yR xd ?_ ?_
        ·exact sS (fun s=>or_field fo86_2 (s.1.trans jQ) (by rfl))<|sG to3 b6<|sF (fun f=>or_eql f.1 rfl rfl)<|sV<|cT (fun _ s _ _=>or_move (s.1.trans eq))<|cT (fun _ s _ _=>or_move (s.1.trans jR))<|cT (fun f _ _ hg=>or_len tu80 (f.2.1.1 hg) rfl)<|cT (fun f _ _ hg=>or_conv (f.2.1.1 hg) tn3 tn26 (osome v7).symm)<|cT (fun f _ _ hg=>or_geq (f.2.1.1 hg) (f.2.2.1.1 hg) rfl)<|sF (fun f=>or_and f.1 (fun hx=>f.2.1.1 hx) rfl (osome v8).symm)<|steps_nil
        intro sq AK Bo nN s6 lJ ux dk
        obtain ⟨kc,kd,ea,ke,kf,kg,eD,eE⟩ := kt8 lJ qG qH jQ qI qJ jR mF mG
        obtain ⟨eF,eG⟩ := kt2 lJ mH eq
        have kI := gv (ux [9] rfl) rfl
        have lh := es_ tS dk
        obtain ⟨cx,cz,cA,cy⟩ := be4 dk hv hw hy b6
        have cv := re_ dk ht
        have cu := re_ dk hr
        have cw := RdO.evo rfl dk hu
        refine fl_cond kI K (fun wB K=>?_) (fun wB K=>?_)
        ·refine rr 215 [Fct.at_ 5591 m 86 #[sl p b.1.1 o,Zi b.1.2.1,Zi b.1.2.2]] sq [5591] (bz 2) [dv [] [4] 166 (pt m 2),⟨[0,2],[],[5591],Fct.at_ 5652 m 86 #[sl p b.1.1 o,Zi b.1.2.1,Zi 5]⟩] s6 nN (fm1 cy) ?_ ?_
         ·refine sS (fun s=>or_field fo86_2 (s.1.trans ea) (by rfl)) ?_
          refine sc (fun own a wx hf T hE=>?_) ?_
          ·obtain ⟨xx,q,-⟩ := hf
           exact px (or_store1 (lab := 5591) (lab2 := 5652) ts3 xx rfl q (by simp) rfl (mem_of rfl) (by decide) rfl (fun U a' w' ha hb=>hb))
          exact steps_nil
         intro sr AL x5 xk yY lK uy dl
         obtain ⟨rh,ri,rj,rk,rm,rn,m3,m4⟩ := kt8 lK kc kd ea ke kf kg eD eE
         obtain ⟨m5,m6⟩ := kt2 lK eF eG
         obtain ⟨(ij : BlkO sr 5652 x5 m 86 #[sl p b.1.1 o,Zi b.1.2.1,Zi 5]),-⟩ := uy [1] rfl
         have tW := es_ lh dl
         obtain ⟨ii,ik,il⟩ := be3 dl cx cz cA
         have ig := re_ dl cv
         have ie := re_ dl cu
         have ih := RdO.evo rfl dl cw
         exact (nn _ _ (rl [(5652,5600)] sr) _ xk yY rh ri rj rk rm rn m3 m4 m5 m6 (Evo.rl_ tW (fun _=>Nat.le_refl 0) rfl) (BlkO.rl_ ii) (BlkO.rl_ ij) (RdO.rl_ ih) (BlkO.rl_ ik) (RwO.rl_ ig) (RwO.rl_ ie) (BlkO.rl_ il) K)
        refine fl_skip ?_
        exact (nn _ _ (rl [(5591,5600)] sq) _ nN s6 kc kd ea ke kf kg eD eE eF eG (Evo.rl_ lh (fun _=>Nat.le_refl 0) rfl) (BlkO.rl_ cx) (BlkO.rl_ cy) (RdO.rl_ cw) (BlkO.rl_ cz) (RwO.rl_ cv) (RwO.rl_ cu) (BlkO.rl_ cA) K)
       obtain ⟨aD,v9,K⟩ := obind K
       obtain ⟨bu,ja,K⟩ := obind K
       obtain ⟨je,vT,K⟩ := obind K
       refine rd_seq g_mixed 215 [] aU [] [0,1,3,7,15,31,63,127,255,511,255,1279,4095,8191,16383,255,65535,131071,262143] [dv [] [4] 130 (pt m 2),dv [0] [] 131 (Zi bf),dv [1] [] 132 (.bool (decide (bf = 0))),dv [2] [] 133 (.bool (decide (bf = 0))),dc [3] [11] (decide (bf = 0)) 134 (Zi N),dc [3,4] [] (decide (bf = 0)) 135 (.bool (decide (0 < N))),dv [3,5] [] 136 (.bool aD),dv [6] [] 137 (.bool aD),dc [7] [5] aD 138 (pt M 1),dc [7,8] [] aD 139 (sl W J Y),dc [7] [11] aD 140 (Zi N),dc [7,10] [] aD 141 (Zi (sb N 1)),dc [7,9,11] [] aD 142 (.pointer (some ((adr W).add ((sb N 1 : Int).toNat * R77.s)))),dc [7,12] [] aD 143 (.pointer (some ((adr W).add ((sb N 1 : Int).toNat * R77.s)))),dc [7,13] [] aD 144 (.agg #[Zi bu.1.1,Zi bu.1.2.1,Zi bu.1.2.2]),dc [7] [14] aD 145 (.agg #[Zi B.1,Zi B.2.1,Zi B.2.2]),dc [7,14,15] [] aD 146 (.bool je),dc [7,16] [] aD 147 (.bool (!je)),dv [7,17] [] 148 (.bool (aD && (!je)))] yO xa nm_ ?_ ?_
       ·exact sS (fun s=>or_field fo86_2 (s.1.trans jM) (by rfl))<|sG to3 b0<|sF (fun f=>or_eql f.1 rfl rfl)<|sV<|cT (fun _ s _ _=>or_move (s.1.trans dx))<|cT (fun f _ _ hg=>or_gtr (f.2.1.1 hg) rfl rfl)<|sF (fun f=>or_and f.1 (fun hx=>f.2.1.1 hx) rfl (osome v9).symm)<|sV<|cT (fun _ s _ _=>or_field fo43_1 (s.1.trans jN) (by rfl))<|cT (fun f _ hE hg=>ld1 to41 (f.2.1.1 hg) (be_ hE b2))<|cT (fun _ s _ _=>or_move (s.1.trans dx))<|cT (fun f _ _ hg=>or_sub (f.2.1.1 hg) rfl rfl)<|cT (fun f _ _ hg=>or_index (R := R77) (l := J) tl41 (f.2.1.1 hg) (f.2.2.1.1 hg) (RdO.some_ (RwO.rd bb) (gd_t ja hg)) (gd_t ja hg))<|cT (fun f _ _ hg=>or_field fo77_0 (f.2.1.1 hg) (Addr.add_zero' _))<|cT (fun f _ hE hg=>or_load (l := [Zi bu.1.1,Zi bu.1.2.1,Zi bu.1.2.2]) ta75 (f.2.1.1 hg) (CellsAt.head_ (RdO.cells (F := E77) (RwO.rd (re_ hE bb)) (gd_t ja hg)) rfl) rfl)<|cTL ta75 ep b3<|cT (fun f _ _ hg=>or_call cf33 (args2 (f.2.1.1 hg) (f.2.2.1.1 hg)) (ref20_Less_w _ bu.1 B  je (gd_t vT hg)) post_val)<|cT (fun f _ _ hg=>or_not (f.2.1.1 hg) rfl)<|sF (fun f=>or_and f.1 (fun hx=>f.2.1.1 hx) rfl rfl)<|steps_nil
       intro ss AM Bp nO s7 lL uz dm
       obtain ⟨kh,ki,eb,kj,kk,kl,eH,eI⟩ := kt8 lL qs qt jM jN qu qv mw dx
       have eJ := kt lL ep
       have kJ := gv (uz [18] rfl) rfl
       have li := es_ tp dm
       obtain ⟨cE,cG,cH,cI⟩ := be4 dm g5 b0 b2 b3
       have cD := RdO.evo rfl dm g4
       have cC := re_ dm bb
       have cB := re_ dm g3
       refine fl_cond kJ K (fun wC K=>?_) (fun wC K=>?_)
       ·refine rr 215 [Fct.at_ 5567 m 86 #[sl ae Z af,Zi ag,Zi bf]] ss [5567] (bz 2) [dv [] [4] 149 (pt m 2),⟨[0,2],[],[5567],Fct.at_ 5659 m 86 #[sl ae Z af,Zi ag,Zi 18]⟩] s7 nO (fm1 cG) ?_ ?_
        ·refine sS (fun s=>or_field fo86_2 (s.1.trans eb) (by rfl)) ?_
         refine sc (fun own a wx hf T hE=>?_) ?_
         ·obtain ⟨xu,q,-⟩ := hf
          exact px (or_store1 (lab := 5567) (lab2 := 5659) ts3 xu rfl q (by simp) rfl (mem_of rfl) (by decide) rfl (fun U a' w' ha hb=>hb))
         exact steps_nil
        intro st AN x6 xl yZ lM uA dn
        obtain ⟨ro,rp,rs,rt,ru,rv,m7,m8⟩ := kt8 lM kh ki eb kj kk kl eH eI
        have m9 := kt lM eJ
        obtain ⟨(ir : BlkO st 5659 x6 m 86 #[sl ae Z af,Zi ag,Zi 18]),-⟩ := uA [1] rfl
        have tX := es_ li dn
        obtain ⟨iq,it,iu⟩ := be3 dn cE cH cI
        have ip := RdO.evo rfl dn cD
        have io := re_ dn cC
        have im := re_ dn cB
        exact (nm _ _ (rl [(5659,5579)] st) _ xl yZ ro rp rs rt ru rv m7 m8 m9 (Evo.rl_ tX (fun _=>Nat.le_refl 0) rfl) (BlkO.rl_ iq) (BlkO.rl_ ir) (RdO.rl_ ip) (BlkO.rl_ it) (RwO.rl_ io) (RwO.rl_ im) (BlkO.rl_ iu) K)
       refine fl_skip ?_
       exact (nm _ _ (rl [(5567,5579)] ss) _ nO s7 kh ki eb kj kk kl eH eI eJ (Evo.rl_ li (fun _=>Nat.le_refl 0) rfl) (BlkO.rl_ cE) (BlkO.rl_ cG) (RdO.rl_ cD) (BlkO.rl_ cH) (RwO.rl_ cC) (RwO.rl_ cB) (BlkO.rl_ cI) K)
      obtain ⟨jf,vU,K⟩ := obind K
      refine rq_seq 215 aT (bz 8) [dv [] [4] 121 (pt m 2),dv [0] [] 122 (Zi ak),dv [1] [] 123 (.bool (decide (ak = 0))),dv [2] [] 124 (.bool (decide (ak = 0))),dc [3] [14] (decide (ak = 0)) 125 (.agg #[Zi B.1,Zi B.2.1,Zi B.2.2]),dc [3,4] [] (decide (ak = 0)) 126 (.bool jf),dc [3,5] [] (decide (ak = 0)) 127 (.bool (!jf)),dv [3,6] [] 128 (.bool ((decide (ak = 0)) && (!jf)))] yN w9 ?_ ?_
      ·exact sS (fun s=>or_field fo86_2 (s.1.trans jL) (by rfl))<|sG to3 bY<|sF (fun f=>or_eql f.1 rfl rfl)<|sV<|cTL ta75 eo bZ<|cT (fun f _ _ hg=>or_call cf32 (args1 (f.2.1.1 hg)) (ref20_Right_w _ B  jf (gd_t vU hg)) post_val)<|cT (fun f _ _ hg=>or_not (f.2.1.1 hg) rfl)<|sF (fun f=>or_and f.1 (fun hx=>f.2.1.1 hx) rfl rfl)<|steps_nil
      intro su AO Bq nP s8 lN uB dp
      obtain ⟨km,kn,ec,ko,kp,kq,eK,eL⟩ := kt8 lN qn qo jL qp qq qr mu mv
      have eM := kt lN eo
      have kK := gv (uB [7] rfl) rfl
      have lj := es_ tn dp
      obtain ⟨cM,cN,cO,cP⟩ := be4 dp g1 bY g2 bZ
      have cL := RdO.evo rfl dp g0
      have cK := re_ dp gZ
      have cJ := re_ dp gY
      refine fl_cond kK K (fun wD K=>?_) (fun wD K=>?_)
      ·refine rr 215 [Fct.at_ 5485 m 86 #[sl ae Z af,Zi ag,Zi ak]] su [5485] (bz 2) [dv [] [4] 129 (pt m 2),⟨[0,2],[],[5485],Fct.at_ 5664 m 86 #[sl ae Z af,Zi ag,Zi 5]⟩] s8 nP (fm1 cN) ?_ ?_
       ·refine sS (fun s=>or_field fo86_2 (s.1.trans ec) (by rfl)) ?_
        refine sc (fun own a wx hf T hE=>?_) ?_
        ·obtain ⟨xt,q,-⟩ := hf
         exact px (or_store1 (lab := 5485) (lab2 := 5664) ts3 xt rfl q (by simp) rfl (mem_of rfl) (by decide) rfl (fun U a' w' ha hb=>hb))
        exact steps_nil
       intro sv AP x7 xm y0 lO uC dq
       obtain ⟨rx,ry,rz,rA,rB,rC,na,nb⟩ := kt8 lO km kn ec ko kp kq eK eL
       have nc := kt lO eM
       obtain ⟨(iz : BlkO sv 5664 x7 m 86 #[sl ae Z af,Zi ag,Zi 5]),-⟩ := uC [1] rfl
       have tY := es_ lj dq
       obtain ⟨iy,iB,iC⟩ := be3 dq cM cO cP
       have ix := RdO.evo rfl dq cL
       have iw := re_ dq cK
       have iv := re_ dq cJ
       exact (nl _ _ (rl [(5664,5567)] sv) _ xm y0 rx ry rz rA rB rC na nb nc (Evo.rl_ tY (fun _=>Nat.le_refl 0) rfl) (BlkO.rl_ iy) (BlkO.rl_ iz) (RdO.rl_ ix) (BlkO.rl_ iB) (RwO.rl_ iw) (RwO.rl_ iv) (BlkO.rl_ iC) K)
      refine fl_skip ?_
      exact (nl _ _ (rl [(5485,5567)] su) _ nP s8 km kn ec ko kp kq eK eL eM (Evo.rl_ lj (fun _=>Nat.le_refl 0) rfl) (BlkO.rl_ cM) (BlkO.rl_ cN) (RdO.rl_ cL) (BlkO.rl_ cO) (RwO.rl_ cK) (RwO.rl_ cJ) (BlkO.rl_ cP) K)
     obtain ⟨eg,wa,K⟩ := obind K
     obtain ⟨yj,wb,K⟩ := obind K
     refine rq_seq 215 sj (bz 13) [dv [] [12] 98 (pt aw 0),dv [0] [] 99 (.int .u64 y.1),dv [1] [] 100 (.bool (decide (y.1 < 100))),dv [2] [] 101 (.bool (decide (y.1 < 100))),dc [3] [12] (decide (y.1 < 100)) 102 (pt aw 1),dc [3,4] [] (decide (y.1 < 100)) 103 (.int .u64 y.2.1),dc [3,5] [] (decide (y.1 < 100)) 104 (.bool (decide (y.2.1 < 100))),dv [3,6] [] 105 (.bool eg),dv [7] [] 106 (.bool eg),dc [8] [12] eg 107 (pt aw 2),dc [8,9] [] eg 108 (.int .u64 y.2.2),dc [8,10] [] eg 109 (.bool (decide (y.2.2 < 100))),dv [8,11] [] 110 (.bool yj)] yM w8 ?_ ?_
     ·exact sS (fun s=>ok1 (s.1.trans br))<|sG to26 aK<|sF (fun f=>or_lss f.1 rfl rfl)<|sV<|cT (fun _ s _ _=>ok1 (s.1.trans br))<|cT (fun f _ hE hg=>ld1 to26 (f.2.1.1 hg) (be_ hE aK))<|cT (fun f _ _ hg=>or_lss (f.2.1.1 hg) rfl rfl)<|sF (fun f=>or_and f.1 (fun hx=>f.2.1.1 hx) rfl (osome wa).symm)<|sV<|cT (fun _ s _ _=>ok1 (s.1.trans br))<|cT (fun f _ hE hg=>ld1 to26 (f.2.1.1 hg) (be_ hE aK))<|cT (fun f _ _ hg=>or_lss (f.2.1.1 hg) rfl rfl)<|sF (fun f=>or_and f.1 (fun hx=>f.2.1.1 hx) rfl (osome wb).symm)<|steps_nil
     intro sw AQ Br nQ s9 lP uD dr
     obtain ⟨kr,ks,ku,kv,kw,kx,eN,eO⟩ := kt8 lP qh qi qj qk ql qm mr ms
     obtain ⟨dz,dA⟩ := kt2 lP br mt
     have kL := gv (uD [12] rfl) rfl
     have lk := es_ tQ dr
     obtain ⟨cU,cV,cW,bd,cX⟩ := be5 dr gU gV gW aK gX
     have cS := RdO.evo rfl dr gT
     have cR := re_ dr gS
     have cQ := re_ dr gR
     refine fl_cond kL K (fun wE K=>?_) (fun wE K=>?_)
     ·refine rr 215 [Fct.at_ 5548 aj 75 #[Zi (-1),Zi 0,Zi 0]] sw [5548] [0,1,3,0,8,24,0,64,192,511,1023] [dv [] [12] 111 (pt aw 0),dv [0] [] 112 (.int .u64 y.1),dv [1] [] 113 (Zi (IntKind.i64.wrap y.1)),dv [] [12] 114 (pt aw 1),dv [3] [] 115 (.int .u64 y.2.1),dv [4] [] 116 (Zi (IntKind.i64.wrap y.2.1)),dv [] [12] 117 (pt aw 2),dv [6] [] 118 (.int .u64 y.2.2),dv [7] [] 119 (Zi (IntKind.i64.wrap y.2.2)),dv [2,5,8] [] 120 (.agg #[Zi (IntKind.i64.wrap y.1),Zi (IntKind.i64.wrap y.2.1),Zi (IntKind.i64.wrap y.2.2)]),⟨[9,11],[14],[5548],Fct.at_ 5670 aj 75 #[Zi (IntKind.i64.wrap y.1),Zi (IntKind.i64.wrap y.2.1),Zi (IntKind.i64.wrap y.2.2)]⟩] s9 nQ (fm1 cX) ?_ ?_
      ·refine sS (fun s=>ok1 (s.1.trans dz))<|sG to26 bd<|sF (fun f=>or_conv f.1 tn26 tn3 rfl)<|sS (fun s=>ok1 (s.1.trans dz))<|sG to26 bd<|sF (fun f=>or_conv f.1 tn26 tn3 rfl)<|sS (fun s=>ok1 (s.1.trans dz))<|sG to26 bd<|sF (fun f=>or_conv f.1 tn26 tn3 rfl)<|sF (fun f=>ok3 f.1 f.2.1 f.2.2.1) ?_
       refine sc (fun own a wx hf T hE=>?_) ?_
       ·obtain ⟨xs,dX,-⟩ := hf
        obtain ⟨zt,-⟩ := T
        exact px (or_store (l := #[Zi (IntKind.i64.wrap y.1),Zi (IntKind.i64.wrap y.2.1),Zi (IntKind.i64.wrap y.2.2)]) (lab := 5548) (lab2 := 5670) ts75 (zt.trans dA) xs dX (by simp) (by kernel_rfl) (mem_of rfl) (by decide) (by kernel_rfl) (fun U a' w' ha hb=>hb))
       exact steps_nil
      intro sx AR x8 xn y1 lQ uE ds
      obtain ⟨rD,rE,rF,rG,rH,rI,nd,ne⟩ := kt8 lQ kr ks ku kv kw kx eN eO
      have nf := kt lQ dA
      obtain ⟨(iJ : BlkO sx 5670 x8 aj 75 #[Zi (IntKind.i64.wrap y.1),Zi (IntKind.i64.wrap y.2.1),Zi (IntKind.i64.wrap y.2.2)]),-⟩ := uE [10] rfl
      have tZ := es_ lk ds
      obtain ⟨iG,iH,iI⟩ := be3 ds cU cV cW
      have iF := RdO.evo rfl ds cS
      have iE := re_ ds cR
      have iD := re_ ds cQ
      exact (nk _ _ (rl [(5670,5557)] sx) (IntKind.i64.wrap y.1,IntKind.i64.wrap y.2.1,IntKind.i64.wrap y.2.2) xn y1 rD rE rF rG rH rI nd ne nf (Evo.rl_ tZ (fun _=>Nat.le_refl 0) rfl) (BlkO.rl_ iG) (BlkO.rl_ iH) (RdO.rl_ iF) (BlkO.rl_ iI) (RwO.rl_ iE) (RwO.rl_ iD) (BlkO.rl_ iJ) K)
     refine fl_skip ?_
     exact (nk _ _ (rl [(5548,5557)] sw) ((-1),0,0) nQ s9 kr ks ku kv kw kx eN eO dA (Evo.rl_ lk (fun _=>Nat.le_refl 0) rfl) (BlkO.rl_ cU) (BlkO.rl_ cV) (RdO.rl_ cS) (BlkO.rl_ cW) (RwO.rl_ cR) (RwO.rl_ cQ) (BlkO.rl_ cX) K)
   refine fl_exit ?_
   refine vG _ _ _ rfl ?_
   replace K := yC _ K
   refine vF _ _ _ rfl ?_
   refine v1 _ _ ?_
   refine vj _ _ ?_
   refine fl_seq (fun Ai vz vJ=>?_)
   refine rq_seq 215 sg (bz 3) [dv [] [4] 197 (pt m 2),dv [0] [] 198 (Zi be),dv [1] [] 199 (.bool (!decide (be = 0)))] s1 nI ?_ ?_
   ·exact sS (fun s=>or_field fo86_2 (s.1.trans d7) (by rfl))<|sG to3 ba<|sF (fun f=>or_neq f.1 rfl rfl)<|steps_nil
   intro sy AS Bs nR ta u5 uF dt
   obtain ⟨rJ,ed,ky,rK,rL,ng⟩ := kt6 u5 jC jD d7 jE jF ej
   have kM := gv (uF [2] rfl) rfl
   have ll := es_ lc dt
   obtain ⟨cY,cZ,iM⟩ := be3 dt bP ba bQ
   have iK := RdO.evo rfl dt bN
   have iL := re_ dt bO
   have te := re_ dt bM
   refine fl_cond kM K (fun wF K=>?_) (fun wF K=>?_)
   ·refine rd_seq g_mixed 215 [Fct.at_ 2835 H 43 #[.string ByteArray.empty,.slice none 0 0]] sy [2835] [0,0,2,1,15] [dv [] [] 200 (.agg #[.string ByteArray.empty,.slice none 0 0]),dv [] [4] 201 (pt m 2),dv [1] [] 202 (Zi be),⟨[0,5],[2],[2835],Fct.at_ 5675 H 43 #[.string ByteArray.empty,.slice none 0 0]⟩,dv [2] [] 3 (Zi be)] ta nR (fm1 cY) ?_ ?_
    ·refine sO (or_k [] rfl rfl trivial (by kernel_rfl))<|sS (fun s=>or_field fo86_2 (s.1.trans ky) (by rfl))<|sG to3 cZ ?_
     refine sc (fun own a wx hf T hE=>?_) ?_
     ·obtain ⟨xD,au,-⟩ := hf
      obtain ⟨jg,-⟩ := T
      exact px (or_store (l := #[.string ByteArray.empty,.slice none 0 0]) (lab := 2835) (lab2 := 5675) ts43 (jg.trans ed) xD au (by simp) (by kernel_rfl) (mem_of rfl) (by decide) (by kernel_rfl) (fun U a' w' ha hb=>hb))
     exact sA<|steps_nil
    intro sz AT x9 xo Bw u6 lt tu
    have rM := kt u6 ed
    have rN := gv (lt [4] rfl) rfl
    obtain ⟨(iN : BlkO sz 5675 x9 H 43 #[.string ByteArray.empty,.slice none 0 0]),-⟩ := lt [3] rfl
    have t0 := es_ ll tu
    refine fl_ret ?_
    refine vJ _ _ _ rfl ?_
    obtain rfl := osome K
    exact kz _ _ _ _ (.inl rfl) xo (results2_ rfl (RVal.cell_ rM (run_loadVarAgg (l := [.string ByteArray.empty,.slice none 0 0]) ta43 (Blk.cellsFrom iN.2 0 rfl) rfl)) (RVal.tmp_ rN)) ⟨sz,(none,0),rfl,t0,RwO.nil_⟩
   refine fl_skip ?_
   refine vz _ _ ?_
   refine fl_seq (fun Aj vA vK=>?_)
   refine rq_seq 215 sy [0,0,2,7] [dv [] [10] 203 (Zi A),dv [] [7] 204 (sl V u X),dv [1] [] 205 (Zi (u.length : Int)),dv [0,2] [] 206 (.bool (decide (A < (u.length : Int))))] ta nR ?_ ?_
   ·exact sM ng<|sM rL<|sF (fun f=>or_len tu80 f.1 rfl)<|sF (fun f=>or_lss f.1 f.2.1 rfl)<|steps_nil
   intro sB AU Bt nS tb u7 uG dQ
   obtain ⟨rO,ee,rP,rQ⟩ := kt4 u7 rJ ed ky rK
   have kN := gv (uG [3] rfl) rfl
   have lm := es_ ll dQ
   obtain ⟨c0,iP,iQ⟩ := be3 dQ cY cZ iM
   have tf := RdO.evo rfl dQ iK
   have iO := re_ dQ iL
   refine fl_cond kN K (fun wG K=>?_) (fun wG K=>?_)
   ·refine rr_seq 215 [Fct.at_ 2835 H 43 #[.string ByteArray.empty,.slice none 0 0]] sB [2835] (bz 3) [dv [] [] 207 (.agg #[.string ByteArray.empty,.slice none 0 0]),⟨[0,3],[2],[2835],Fct.at_ 5680 H 43 #[.string ByteArray.empty,.slice none 0 0]⟩,dv [] [] 3 (Zi 7)] tb nS (fm1 c0) ?_ ?_
    ·refine sO (or_k [] rfl rfl trivial (by kernel_rfl)) ?_
     refine sc (fun own a wx hf T hE=>?_) ?_
     ·obtain ⟨xE,au,-⟩ := hf
      obtain ⟨jg,-⟩ := T
      exact px (or_store (l := #[.string ByteArray.empty,.slice none 0 0]) (lab := 2835) (lab2 := 5680) ts43 (jg.trans ee) xE au (by simp) (by kernel_rfl) (mem_of rfl) (by decide) (by kernel_rfl) (fun U a' w' ha hb=>hb))
     exact sO (or_assign rfl)<|steps_nil
    intro sC AV ya xp Bx u8 lu tv
    have rR := kt u8 ee
    have rS := gv (lu [2] rfl) rfl
    obtain ⟨(iR : BlkO sC 5680 ya H 43 #[.string ByteArray.empty,.slice none 0 0]),-⟩ := lu [1] rfl
    have t1 := es_ lm tv
    refine fl_ret ?_
    refine vK _ _ _ rfl ?_
    obtain rfl := osome K
    exact kz _ _ _ _ (.inl rfl) xp (results2_ rfl (RVal.cell_ rR (run_loadVarAgg (l := [.string ByteArray.empty,.slice none 0 0]) ta43 (Blk.cellsFrom iR.2 0 rfl) rfl)) (RVal.tmp_ rS)) ⟨sC,(none,0),rfl,t1,RwO.nil_⟩
   refine fl_skip ?_
   refine vA _ _ ?_
   refine fl_seq (fun Ak vB vL=>?_)
   refine rq_seq 215 sB [0,1,0,4,15] [dv [] [4] 208 (pt m 1),dv [0] [] 209 (Zi dY),dv [] [0] 210 (sl aF b1 aI),dv [2] [] 211 (Zi (b1.length : Int)),dv [1,3] [] 212 (.bool (decide (dY < (b1.length : Int))))] tb nS ?_ ?_
   ·exact sS (fun s=>or_field fo86_1 (s.1.trans rP) (by rfl))<|sG to3 iP<|sM rO<|sF (fun f=>or_len tu22 f.1 rfl)<|sF (fun f=>or_lss f.1 f.2.1 rfl)<|steps_nil
   intro sD AW Bu nT tc u9 uH i8
   obtain ⟨c4,rT⟩ := kt2 u9 ee rQ
   have kO := gv (uH [4] rfl) rfl
   have ln := es_ lm i8
   obtain ⟨c1,iT⟩ := be2 i8 c0 iQ
   have iS := re_ i8 iO
   refine fl_cond kO K (fun wH K=>?_) (fun wH K=>?_)
   ·refine rr_seq 215 [Fct.at_ 2835 H 43 #[.string ByteArray.empty,.slice none 0 0]] sD [2835] (bz 3) [dv [] [] 213 (.agg #[.string ByteArray.empty,.slice none 0 0]),⟨[0,3],[2],[2835],Fct.at_ 5685 H 43 #[.string ByteArray.empty,.slice none 0 0]⟩,dv [] [] 3 (Zi 3)] tc nT (fm1 c1) ?_ ?_
    ·refine sO (or_k [] rfl rfl trivial (by kernel_rfl)) ?_
     refine sc (fun own a wx hf T hE=>?_) ?_
     ·obtain ⟨xF,au,-⟩ := hf
      obtain ⟨jg,-⟩ := T
      exact px (or_store (l := #[.string ByteArray.empty,.slice none 0 0]) (lab := 2835) (lab2 := 5685) ts43 (jg.trans c4) xF au (by simp) (by kernel_rfl) (mem_of rfl) (by decide) (by kernel_rfl) (fun U a' w' ha hb=>hb))
     exact sO (or_assign rfl)<|steps_nil
    intro sE AX yb xq By va lv tw
    have rU := kt va c4
    have rV := gv (lv [2] rfl) rfl
    obtain ⟨(iU : BlkO sE 5685 yb H 43 #[.string ByteArray.empty,.slice none 0 0]),-⟩ := lv [1] rfl
    have t2 := es_ ln tw
    refine fl_ret ?_
    refine vL _ _ _ rfl ?_
    obtain rfl := osome K
    exact kz _ _ _ _ (.inl rfl) xq (results2_ rfl (RVal.cell_ rU (run_loadVarAgg (l := [.string ByteArray.empty,.slice none 0 0]) ta43 (Blk.cellsFrom iU.2 0 rfl) rfl)) (RVal.tmp_ rV)) ⟨sE,(none,0),rfl,t2,RwO.nil_⟩
   refine fl_skip ?_
   refine vB _ _ ?_
   refine rr_seq 215 [Fct.at_ 2835 H 43 #[.string ByteArray.empty,.slice none 0 0]] sD [2835] (bz 3) [dv [] [5] 214 (.agg #[.string c.2,sl W J Y]),⟨[0,3],[2],[2835],Fct.at_ 5687 H 43 #[.string c.2,sl W J Y]⟩,dv [] [] 3 (Zi 0)] tc nT (fm1 c1) ?_ ?_
   ·refine sL ta43 rT iT ?_
    refine sc (fun own a wx hf T hE=>?_) ?_
    ·obtain ⟨xG,au,-⟩ := hf
     obtain ⟨jg,-⟩ := T
     exact px (or_store (l := #[.string c.2,sl W J Y]) (lab := 2835) (lab2 := 5687) ts43 (jg.trans c4) xG au (by simp) (by kernel_rfl) (mem_of rfl) (by decide) (by kernel_rfl) (fun U a' w' ha hb=>hb))
    exact sO (or_assign rfl)<|steps_nil
   intro sH AY yc xr Bz vb lw k6
   have rW := kt vb c4
   have rX := gv (lw [2] rfl) rfl
   obtain ⟨(iW : BlkO sH 5687 yc H 43 #[.string c.2,sl W J Y]),-⟩ := lw [1] rfl
   have t3 := es_ ln k6
   have iV := re_ k6 iS
   refine fl_ret ?_
   obtain rfl := osome K
   exact kz _ _ _ _ (.inl rfl) xr (results2_ rfl (RVal.cell_ rW (run_loadVarAgg (l := [.string c.2,sl W J Y]) ta43 (Blk.cellsFrom iW.2 0 rfl) rfl)) (RVal.tmp_ rX)) ⟨(rl [(3878,1)] sH),(W,Y),rfl,(Evo.rl_ t3 (fun _=>Nat.le_refl 0) rfl),(RwO.rl_ iV)⟩
end Go.Proofs.Ytnmkonlfnpcoiaa
