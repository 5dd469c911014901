import Derived.Test.YtnmkonlfnpcoiaaWp4
import Derived.Test.YtnmkonlfnpcoiaaSp5
namespace Go.Proofs.Ytnmkonlfnpcoiaa
open Go.RowKit
set_option linter.unusedVariables false
set_option maxRecDepth 10000
theorem pack_reader_whole_w (w : World) (own : Own) (r1 : (List Int) × Int) (d : Nat) (s : TypeId) (B : Option Addr) (C : Nat) (j : ∀ b,own b ≤ 2) (bt : BlkO own 1 w d s #[sl B r1.1 C,Zi r1.2]) (aA : RdO own [2] w R5 B C r1.1) (r : (List Int) × ((List Int) × Int)) (E : pack_reader_whole r1 = some r) :
  Calls Try.prog 28 #[pt d 0] w fun e w'=>∃ (t : Own) (x : (Option Addr × Nat) × (Option Addr × Nat)),e = .returned (.slice x.1.1 r.1.length x.1.2) ∧ Evo [1] own t w w' ∧ RwO t 3 [] w' 5 R5 x.1.1 x.1.2 r.1 ∧ RdO t [2] w' R5 x.2.1 x.2.2 r.2.1 ∧ BlkO t 1 w' d s #[.slice x.2.1 r.2.1.length x.2.2,Zi r.2.2] := by
 refine fl_enter (n := 42) rfl rfl rfl (Nat.le_of_ble_eq_true rfl) ?_
 intro a0 Q d0 z0 aH ax
 have cj := aH 0 _ rfl
 clear aH
 have ci : Evo [1] own own w w := Evo.refl _ _ _
 refine rq_seq 42 own (bz 1) [dv [] [] 2 (.slice none 0 0)] z0 d0 ?_ ?_
 ·exact sO (or_assign rfl)<|steps_nil
 intro cl cC cL b6 cs bu cy aB
 have ak := kt bu cj
 have aE := Evo.step ci j aB rfl
 have S := be_ aB bt
 obtain ⟨c,bI,E⟩ := obind E
 refine rr_seq 42 [Fct.at_ 1 d s #[sl B r1.1 C,Zi r1.2]] cl [1] (bz 3) [dv [] [0] 5 (pt d 0),⟨[0,3],[],[1],Fct.mems [2,45] 6 (fun (x : Option Addr × Nat)=>.int .u64 c.1) (fun (x : Option Addr × Nat) own w=>RdO own [2] w R5 x.1 x.2 c.2.1 ∧ BlkO own 45 w d s #[.slice x.1 c.2.1.length x.2,Zi c.2.2]) (fun hk he h=>⟨RdO.evo (hits_sub hk (by decide)) he h.1,BlkO.evo (not_hit hk (by decide)) he h.2⟩)⟩,dv [1] [] 3 (.int .u64 c.1)] cs b6 (fm1 S) ?_ ?_
 ·refine sM ak ?_
  refine sc (fun own a wx O P hE=>?_) ?_
  ·obtain ⟨ch,k,-⟩ := O
   exact px (or_call cf50 (args1 ch) (pack_reader_number_w _ (forth own (look0 [(1,1),(2,2)])) r1 d s B C (look0_le rfl) (BlkO.forth_ (m := (look0 [(1,1),(2,2)])) k) (RdO.forth_ (m := (look0 [(1,1),(2,2)])) (RdO.evo rfl hE (RdO.evo rfl aE aA))) c bI) (post_mems (m := (look0 [(1,1),(2,2)])) (m' := (look0 [(1,45),(2,2)])) (hm_of2 rfl) (fun t w' a' x h1 h=>⟨x,h1,⟨RdO.back_ h.1 (by decide),BlkO.back_ h.2 (by decide)⟩⟩)))
  refine sc (fun own a wx O P hE=>?_) ?_
  ·obtain ⟨⟨⟨q,i⟩,bc,b1,k⟩,-⟩ := O
   exact px (or_assign bc)
  exact steps_nil
 intro aY b0 bR b7 ct bv aI bd
 have al := kt bv ak
 have aO := gv (aI [2] rfl) rfl
 obtain ⟨⟨⟨q,i⟩,(bc : b0.eval (.tmp 6) = .int .u64 c.1),(T : RdO aY [2] bR R5 q i c.2.1),(F : BlkO aY 45 bR d s #[sl q c.2.1 i,Zi c.2.2])⟩,-⟩ := aI [1] rfl
 have be := Evo.step aE j bd rfl
 refine fl_seq (fun cA bG aJ=>?_)
 refine fl_block (fun cB bH cz aK=>?_)
 refine rq_seq 42 aY (bz 6) [dv [] [0] 8 (pt d 0),dv [0] [] 9 (pt d 0),dv [1] [] 10 (pt d 1),dv [2] [] 11 (Zi c.2.2),dv [3] [] 12 (.bool (!decide (c.2.2 = 0))),dv [4] [] 7 (.bool (!decide (c.2.2 = 0)))] ct b7 ?_ ?_
 ·exact sM al<|sF (fun f=>ok1 f.1)<|sF (fun f=>or_field fo70_1 f.1 (by rfl))<|sG to31 F<|sF (fun f=>or_neq f.1 rfl rfl)<|sA<|steps_nil
 intro bN cD cM a6 bU bw bl aq
 obtain ⟨I,am⟩ := kt2 bw al aO
 have aP := gv (bl [5] rfl) rfl
 have aF := Evo.step be j aq rfl
 have y := be_ aq F
 have G := RdO.evo rfl aq T
 refine fl_cond aP E (fun b4 E=>?_) (fun b4 E=>?_)
 ·refine rq_seq 42 bN (bz 1) [dv [] [] 2 (.slice none 0 0)] bU a6 ?_ ?_
  ·exact sO (or_assign rfl)<|steps_nil
  intro cm cE cN b8 cS bx bm ar
  have ce := kt bx I
  have aQ := gv (bm [0] rfl) rfl
  have bf := Evo.step aF j ar rfl
  have V := be_ ar y
  have U := RdO.evo rfl ar G
  refine fl_ret ?_
  refine aK _ _ _ rfl ?_
  refine aJ _ _ _ rfl ?_
  obtain rfl := osome E
  exact ax _ _ _ _ (.inl rfl) b8 (results1_ rfl (RVal.tmp_ aQ)) ⟨(rl [(45,1)] cm),((none,0),(q,i)),rfl,(Evo.rl_ bf j rfl),RwO.nil_,(RdO.rl_ U),(BlkO.rl_ V)⟩
 obtain ⟨a3,bK,E⟩ := obind E
 refine rq_seq 42 bN [0,0,2,6,14,30,62,127,255] [dv [] [3] 14 (.int .u64 c.1),dv [] [0] 15 (pt d 0),dv [1] [] 16 (pt d 0),dv [2] [] 17 (pt d 0),dv [3] [] 18 (sl q c.2.1 i),dv [4] [] 19 (Zi (c.2.1.length : Int)),dv [5] [] 20 (.int .u64 a3),dv [0,6] [] 21 (.bool (decide (a3 < c.1))),dv [7] [] 13 (.bool (decide (a3 < c.1)))] bU a6 ?_ ?_
 ·exact sM am<|sM I<|sF (fun f=>ok1 f.1)<|sF (fun f=>or_field fo70_0 f.1 (by rfl))<|sG to22 y<|sF (fun f=>or_len tu22 f.1 rfl)<|sF (fun f=>or_conv f.1 tn3 tn26 (osome bK).symm)<|sF (fun f=>or_gtr f.1 f.2.1 rfl)<|sA<|steps_nil
 intro bO cF cO a7 bV bA bn au
 obtain ⟨D,an⟩ := kt2 bA I am
 have az := gv (bn [8] rfl) rfl
 have aG := Evo.step aF j au rfl
 have A := be_ au y
 have z := RdO.evo rfl au G
 refine fl_cond az E (fun b5 E=>?_) (fun b5 E=>?_)
 ·refine rr_seq 42 [Fct.at_ 45 d s #[sl q c.2.1 i,Zi c.2.2]] bO [45] (bz 4) [dv [] [0] 22 (pt d 0),dv [0] [] 23 (pt d 0),dv [1] [] 24 (pt d 1),⟨[2,4],[],[45],Fct.at_ 55 d s #[sl q c.2.1 i,Zi 4]⟩] bV a7 (fm1 A) ?_ ?_
  ·refine sM D<|sF (fun f=>ok1 f.1)<|sF (fun f=>or_field fo70_1 f.1 (by rfl)) ?_
   refine sc (fun own a wx O P hE=>?_) ?_
   ·obtain ⟨a8,k,-⟩ := O
    exact px (or_store1 (lab := 45) (lab2 := 55) ts31 a8 rfl k (by simp) rfl (mem_of rfl) (by decide) rfl (fun t a' w' ha hb=>hb))
   exact steps_nil
  intro bP cG cq b9 cu bB bo aC
  have aR := kt bB D
  obtain ⟨(X : BlkO bP 55 cq d s #[sl q c.2.1 i,Zi 4]),-⟩ := bo [3] rfl
  have bg := Evo.step aG j aC rfl
  have W := RdO.evo rfl aC z
  refine rq_seq 42 bP (bz 1) [dv [] [] 2 (.slice none 0 0)] cu b9 ?_ ?_
  ·exact sO (or_assign rfl)<|steps_nil
  intro cn cH cP ca cT bC bp av
  have cf := kt bC aR
  have aS := gv (bp [0] rfl) rfl
  have bh := Evo.step bg j av rfl
  have Z := be_ av X
  have Y := RdO.evo rfl av W
  refine fl_ret ?_
  refine aK _ _ _ rfl ?_
  refine aJ _ _ _ rfl ?_
  obtain rfl := osome E
  exact ax _ _ _ _ (.inl rfl) ca (results1_ rfl (RVal.tmp_ aS)) ⟨(rl [(55,1)] cn),((none,0),(q,i)),rfl,(Evo.rl_ bh j rfl),RwO.nil_,(RdO.rl_ Y),(BlkO.rl_ Z)⟩
 refine fl_skip ?_
 refine bH _ _ ?_
 refine bG _ _ ?_
 obtain ⟨bT,bL,E⟩ := obind E
 obtain ⟨u,bJ,E⟩ := obind E
 refine rq_seq 42 bO [0,1,3,7,0,31,63,127] [dv [] [0] 25 (pt d 0),dv [0] [] 26 (pt d 0),dv [1] [] 27 (pt d 0),dv [2] [] 28 (sl q c.2.1 i),dv [] [3] 29 (.int .u64 c.1),⟨[3,4],[],[],Fct.view [2] 30 R5 bT⟩,⟨[5],[],[],Fct.row 62 [] 31 5 R5 u⟩,⟨[6],[],[],Fct.rel [4,31] (fun l=>∀ (p : Option Addr) (g : Nat),l.getD 1 undef = sl p u g → l.getD 0 undef = sl p u g)⟩] bV a7 ?_ ?_
 ·refine sM D<|sF (fun f=>ok1 f.1)<|sF (fun f=>or_field fo70_0 f.1 (by rfl))<|sG to22 A<|sM an<|sFE (fun f hE=>or_view (R := R5) (l := c.2.1) (L := [2]) tu22 ts5 f.1 Bnd.none_ (Bnd.some_ f.2.1) Bnd.none_ (RdO.evo rfl hE z) bL (.inl rfl) (by simp)) ?_
  refine sc (fun own a wx O P hE=>?_) ?_
  ·obtain ⟨⟨⟨bY,a5⟩,a9,aN⟩,-⟩ := O
   exact px (or_call cf41 (args1 a9) (bytes_Clone_w _ bT bY a5 (RdO.zero aN) u bJ) (post_row (m' := (look0 [(1,62)])) (.inl (Rep.fl_flat _)) rfl rfl (fun _=>rfl)))
  refine sc (fun own a wx O P hE=>?_) ?_
  ·obtain ⟨⟨⟨p,g⟩,(K : a.eval (.tmp 31) = sl p u g),b2⟩,-⟩ := O
   exact px (or_mono (f := Fct.val 4 (sl p u g)) (or_assign K) (fun t a' w' v' hp h=>fun _ _ ao=>by cases (K.symm.trans ((hp.2 31 (by decide)).symm.trans ao)); exact h))
  exact steps_nil
 intro bQ aM cr cb cv bD bq aw
 obtain ⟨J,aT⟩ := kt2 bD D an
 obtain ⟨⟨⟨p,g⟩,(K : aM.eval (.tmp 31) = sl p u g),(ab : RwO bQ 62 [] cr 5 R5 p g u)⟩,(cp : ∀ (p : Option Addr) (g : Nat),aM.eval (.tmp 31) = sl p u g → aM.eval (.tmp 4) = sl p u g),-⟩ := bq [6,7] rfl
 have aU := cp _ _ K
 have bi := Evo.step aG j aw rfl
 have ad := be_ aw A
 have aa := RdO.evo rfl aw z
 obtain ⟨H,bM,E⟩ := obind E
 refine rr_seq 42 [Fct.at_ 45 d s #[sl q c.2.1 i,Zi c.2.2]] bQ [45] [0,0,2,6,14,0,62,127,255,511] [dv [] [0] 32 (pt d 0),dv [] [0] 33 (pt d 0),dv [1] [] 34 (pt d 0),dv [2] [] 35 (pt d 0),dv [3,10] [] 36 (sl q c.2.1 i),dv [] [3] 37 (.int .u64 c.1),⟨[4,5],[],[],Fct.view [2] 38 R5 H⟩,dv [0] [] 39 (pt d 0),dv [7] [] 40 (pt d 0),⟨[8,6,10],[],[45],Fct.by_ [68] [38] (fun l own w=>∀ (v : Option Addr) (o : Nat),l.getD 0 undef = sl v H o → BlkO own 68 w d s #[sl v H o,Zi c.2.2]) (fun hk he h _ _ ao=>BlkO.evo (not_hit hk (by decide)) he (h _ _ ao))⟩] cv cb (fm1 ad) ?_ ?_
 ·refine sM J<|sM J<|sF (fun f=>ok1 f.1)<|sF (fun f=>or_field fo70_0 f.1 (by rfl)) ?_
  refine sc (fun own a wx O P hE=>?_) ?_
  ·obtain ⟨ba,(k : BlkO own 45 wx d s #[sl q c.2.1 i,Zi c.2.2]),-⟩ := O
   exact px (ld1 to22 ba k)
  refine sM aT<|sFE (fun f hE=>or_view (R := R5) (l := c.2.1) (L := [2]) tu22 ts5 f.1 (Bnd.some_ f.2.1) Bnd.none_ Bnd.none_ (RdO.evo rfl hE aa) bM (.inl rfl) (by simp))<|sF (fun f=>ok1 f.1)<|sF (fun f=>or_field fo70_0 f.1 (by rfl)) ?_
  refine sc (fun own a wx O P hE=>?_) ?_
  ·obtain ⟨bb,⟨⟨v,o⟩,(M : a.eval (.tmp 38) = sl v H o),b3⟩,k,-⟩ := O
   exact px (or_store1 (lab := 45) (lab2 := 68) ts22 bb M k (by simp) rfl (mem_of rfl) (by decide) rfl (fun t a' w' ha hb=>fun _ _ ao=>by cases (M.symm.trans ((ha 38).symm.trans ao)); exact hb))
  exact steps_nil
 intro aZ a4 bS cc cw bE br aD
 obtain ⟨aV,aW⟩ := kt2 bE J aU
 obtain ⟨⟨⟨v,o⟩,(M : a4.eval (.tmp 38) = sl v H o),(af : RdO aZ [2] bS R5 v o H)⟩,(ay : ∀ (v : Option Addr) (o : Nat),a4.eval (.tmp 38) = sl v H o → BlkO aZ 68 bS d s #[sl v H o,Zi c.2.2]),-⟩ := br [6,9] rfl
 have ag := ay _ _ M
 have bj := Evo.step bi j aD rfl
 have ae := re_ aD ab
 refine rq_seq 42 aZ (bz 2) [dv [] [4] 41 (sl p u g),dv [0] [] 2 (sl p u g)] cw cc ?_ ?_
 ·exact sM aW<|sA<|steps_nil
 intro co cI cQ cd cU bF bs N
 have cg := kt bF aV
 have aX := gv (bs [1] rfl) rfl
 have bk := Evo.step bj j N rfl
 have aj := be_ N ag
 have ah := re_ N ae
 have ai := RdO.evo rfl N af
 refine fl_ret ?_
 obtain rfl := osome E
 exact ax _ _ _ _ (.inl rfl) cd (results1_ rfl (RVal.tmp_ aX)) ⟨(rl [(62,3),(68,1)] co),((p,g),(v,o)),rfl,(Evo.rl_ bk j rfl),(RwO.rl_ ah),(RdO.rl_ ai),(BlkO.rl_ aj)⟩
theorem pack_reader_count_w (w : World) (own : Own) (r1 : (List Int) × Int) (d : Nat) (j : TypeId) (l : Option Addr) (p : Nat) (i : ∀ b,own b ≤ 2) (ay : BlkO own 1 w d j #[sl l r1.1 p,Zi r1.2]) (T : RdO own [2] w R5 l p r1.1) (r : Int × ((List Int) × Int)) (O : pack_reader_count r1 = some r) :
  Calls Try.prog 29 #[pt d 0] w fun e w'=>∃ (v : Own) (x : Option Addr × Nat),e = .returned (Zi r.1) ∧ Evo [1] own v w w' ∧ RdO v [2] w' R5 x.1 x.2 r.2.1 ∧ BlkO v 1 w' d j #[.slice x.1 r.2.1.length x.2,Zi r.2.2] := by
 refine fl_enter (n := 21) rfl rfl rfl (Nat.le_of_ble_eq_true rfl) ?_
 intro a0 Q d0 z0 Y aG
 have a2 := Y 0 _ rfl
 clear Y
 have a1 : Evo [1] own own w w := Evo.refl _ _ _
 refine rq_seq 21 own (bz 1) [dv [] [] 2 (Zi 0)] z0 d0 ?_ ?_
 ·exact sO (or_assign rfl)<|steps_nil
 intro a3 bh bp aS a7 az bc U
 have I := kt az a2
 have W := Evo.step a1 i U rfl
 have A := be_ U ay
 obtain ⟨c,aF,O⟩ := obind O
 refine rr_seq 21 [Fct.at_ 1 d j #[sl l r1.1 p,Zi r1.2]] a3 [1] (bz 3) [dv [] [0] 4 (pt d 0),⟨[0,3],[],[1],Fct.mems [2,37] 5 (fun (x : Option Addr × Nat)=>.int .u64 c.1) (fun (x : Option Addr × Nat) own w=>RdO own [2] w R5 x.1 x.2 c.2.1 ∧ BlkO own 37 w d j #[.slice x.1 c.2.1.length x.2,Zi c.2.2]) (fun hk he h=>⟨RdO.evo (hits_sub hk (by decide)) he h.1,BlkO.evo (not_hit hk (by decide)) he h.2⟩)⟩,dv [1] [] 3 (.int .u64 c.1)] a7 aS (fm1 A) ?_ ?_
 ·refine sM I ?_
  refine sc (fun own a wx hf aH hE=>?_) ?_
  ·obtain ⟨aY,o,-⟩ := hf
   exact px (or_call cf50 (args1 aY) (pack_reader_number_w _ (forth own (look0 [(1,1),(2,2)])) r1 d j l p (look0_le rfl) (BlkO.forth_ (m := (look0 [(1,1),(2,2)])) o) (RdO.forth_ (m := (look0 [(1,1),(2,2)])) (RdO.evo rfl hE (RdO.evo rfl W T))) c aF) (post_mems (m := (look0 [(1,1),(2,2)])) (m' := (look0 [(1,37),(2,2)])) (hm_of2 rfl) (fun v w' a' x h1 h=>⟨x,h1,⟨RdO.back_ h.1 (by decide),BlkO.back_ h.2 (by decide)⟩⟩)))
  refine sc (fun own a wx hf aH hE=>?_) ?_
  ·obtain ⟨⟨⟨k,g⟩,am,aQ,o⟩,-⟩ := hf
   exact px (or_assign am)
  exact steps_nil
 intro ag aP aM aT a8 aA Z an
 have J := kt aA I
 have K := gv (Z [2] rfl) rfl
 obtain ⟨⟨⟨k,g⟩,(am : aP.eval (.tmp 5) = .int .u64 c.1),(B : RdO ag [2] aM R5 k g c.2.1),(q : BlkO ag 37 aM d j #[sl k c.2.1 g,Zi c.2.2])⟩,-⟩ := Z [1] rfl
 have ap := Evo.step W i an rfl
 refine fl_seq (fun aO aE be=>?_)
 have aj : ∀ (z : Act) (R : World) (P : Own) (ai : Int),z.defers = [] → z.tmps.size = 21 → z.eval (.tmp 0) = pt d 0 → z.eval (.tmp 3) = .int .u64 c.1 → Evo [1] own P w R → BlkO P 45 R d j #[sl k c.2.1 g,Zi ai] → RdO P [2] R R5 k g c.2.1 → pack_reader_count_k1 c ai = some r → aO .normal z R := by
  intro z R P ai aU a9 aa ab ao D C O
  refine aE _ _ ?_
  refine rq_seq 21 P (bz 4) [dv [] [3] 18 (.int .u64 c.1),dv [0] [] 19 (.int .u64 (mn c.1 341)),dv [1] [] 20 (Zi (IntKind.i64.wrap (mn c.1 341))),dv [2] [] 2 (Zi (IntKind.i64.wrap (mn c.1 341)))] a9 aU ?_ ?_
  ·exact sM ab<|sF (fun f=>or_min f.1 rfl)<|sF (fun f=>or_conv f.1 tn26 tn3 rfl)<|sA<|steps_nil
  intro a4 bi bq aV bt aB av M
  have aX := kt aB aa
  have ad := gv (av [3] rfl) rfl
  have aq := Evo.step ao i M rfl
  have F := be_ M D
  have E := RdO.evo rfl M C
  refine fl_ret ?_
  obtain rfl := osome O
  exact aG _ _ _ _ (.inl rfl) aV (results1_ rfl (RVal.tmp_ ad)) ⟨(rl [(45,1)] a4),(k,g),rfl,(Evo.rl_ aq i rfl),(RdO.rl_ E),(BlkO.rl_ F)⟩
 obtain ⟨a6,aI,O⟩ := obind O
 refine rq_seq 21 ag (bz 9) [dv [] [0] 6 (pt d 0),dv [0] [] 7 (pt d 0),dv [1] [] 8 (pt d 1),dv [2] [] 9 (Zi c.2.2),dv [3] [] 10 (.bool (decide (c.2.2 = 0))),dv [4] [] 11 (.bool (decide (c.2.2 = 0))),dc [5] [3] (decide (c.2.2 = 0)) 12 (.int .u64 c.1),dc [5,6] [] (decide (c.2.2 = 0)) 13 (.bool (decide (341 < c.1))),dv [5,7] [] 14 (.bool a6)] a8 aT ?_ ?_
 ·exact sM J<|sF (fun f=>ok1 f.1)<|sF (fun f=>or_field fo70_1 f.1 (by rfl))<|sG to31 q<|sF (fun f=>or_eql f.1 rfl rfl)<|sV<|cT (fun _ s _ _=>or_move (s.1.trans K))<|cT (fun f _ _ hg=>or_gtr (f.2.1.1 hg) rfl rfl)<|sF (fun f=>or_and f.1 (fun hx=>f.2.1.1 hx) rfl (osome aI).symm)<|steps_nil
 intro aJ bj br ak aN aC aw N
 obtain ⟨y,L⟩ := kt2 aC J K
 have S := gv (aw [8] rfl) rfl
 have X := Evo.step ap i N rfl
 have u := be_ N q
 have t := RdO.evo rfl N B
 refine fl_cond S O (fun aR O=>?_) (fun aR O=>?_)
 ·refine rr 21 [Fct.at_ 37 d j #[sl k c.2.1 g,Zi c.2.2]] aJ [37] (bz 4) [dv [] [0] 15 (pt d 0),dv [0] [] 16 (pt d 0),dv [1] [] 17 (pt d 1),⟨[2,4],[],[37],Fct.at_ 53 d j #[sl k c.2.1 g,Zi 6]⟩] aN ak (fm1 u) ?_ ?_
  ·refine sM y<|sF (fun f=>ok1 f.1)<|sF (fun f=>or_field fo70_1 f.1 (by rfl)) ?_
   refine sc (fun own a wx hf aH hE=>?_) ?_
   ·obtain ⟨al,o,-⟩ := hf
    exact px (or_store1 (lab := 37) (lab2 := 53) ts31 al rfl o (by simp) rfl (mem_of rfl) (by decide) rfl (fun v a' w' ha hb=>hb))
   exact steps_nil
  intro aK bk a5 aW ba aD ax V
  obtain ⟨ae,af⟩ := kt2 aD y L
  obtain ⟨(H : BlkO aK 53 a5 d j #[sl k c.2.1 g,Zi 6]),-⟩ := ax [3] rfl
  have ar := Evo.step X i V rfl
  have G := RdO.evo rfl V t
  exact (aj _ _ (rl [(53,45)] aK) _ aW ba ae af (Evo.rl_ ar i rfl) (BlkO.rl_ H) (RdO.rl_ G) O)
 refine fl_skip ?_
 exact (aj _ _ (rl [(37,45)] aJ) _ ak aN y L (Evo.rl_ X i rfl) (BlkO.rl_ u) (RdO.rl_ t) O)
theorem pack_reader_tile_w (w : World) (own : Own) (r1 : (List Int) × Int) (i : Nat) (v : TypeId) (W : Option Addr) (X : Nat) (o : Int × Int × Int) (k : Bool) (u : ∀ b,own b ≤ 2) (c6 : BlkO own 1 w i v #[sl W r1.1 X,Zi r1.2]) (bJ : RdO own [2] w R5 W X r1.1) (r : (Int × Int × Int) × ((List Int) × Int)) (E : pack_reader_tile r1 o k = some r) :
  Calls Try.prog 30 #[pt i 0,.agg #[Zi o.1,Zi o.2.1,Zi o.2.2],.bool k] w fun e w'=>∃ (y : Own) (x : Option Addr × Nat),e = .returned (.agg #[Zi r.1.1,Zi r.1.2.1,Zi r.1.2.2]) ∧ Evo [1] own y w w' ∧ RdO y [2] w' R5 x.1 x.2 r.2.1 ∧ BlkO y 1 w' i v #[.slice x.1 r.2.1.length x.2,Zi r.2.2] := by
 refine fl_enter (n := 53) rfl rfl rfl (Nat.le_of_ble_eq_true rfl) ?_
 intro a0 Q d0 z0 aK c9
 have dr := aK 0 _ rfl
 have ds := aK 1 _ rfl
 have dt := aK 2 _ rfl
 clear aK
 have dq : Evo [1] own own w w := Evo.refl _ _ _
 refine rq_seq 53 own [0,0] [⟨[],[1],[],Fct.blk 94 4 (fun g=>pt g 0) 28 #[Zi o.1,Zi o.2.1,Zi o.2.2]⟩,⟨[],[],[],Fct.blk 96 6 (fun g=>pt g 0) 28 #[Zi 0,Zi 0,Zi 0]⟩] z0 d0 ?_ ?_
 ·exact sS (fun s=>nw1 (s.1.trans ds))<|sO (nw0)<|steps_nil
 intro cE cJ df dp dy c7 c4 bQ
 obtain ⟨aa,b8⟩ := kt2 c7 dr dt
 obtain ⟨⟨c2,(b9 : cJ.eval (.tmp 4) = pt c2 0),(a3 : BlkO cE 94 df c2 28 #[Zi o.1,Zi o.2.1,Zi o.2.2])⟩,⟨ar,(ca : cJ.eval (.tmp 6) = pt ar 0),(a4 : BlkO cE 96 df ar 28 #[Zi 0,Zi 0,Zi 0])⟩,-⟩ := c4 [0,1] rfl
 have bR := Evo.step dq u bQ rfl
 have a5 := be_ bQ c6
 obtain ⟨p,c8,E⟩ := obind E
 obtain ⟨d,cz,E⟩ := obind E
 obtain ⟨c,cA,E⟩ := obind E
 refine rr_seq 53 [Fct.at_ 1 i v #[sl W r1.1 X,Zi r1.2]] cE [1,100,103] [0,1,0,7,0,31,63,127,255] [dv [] [0] 11 (pt i 0),⟨[0,9],[],[1],Fct.mems [2,100] 12 (fun (x : Option Addr × Nat)=>.int .u64 p.1) (fun (x : Option Addr × Nat) own w=>RdO own [2] w R5 x.1 x.2 p.2.1 ∧ BlkO own 100 w i v #[.slice x.1 p.2.1.length x.2,Zi p.2.2]) (fun hk he h=>⟨RdO.evo (hits_sub hk (by decide)) he h.1,BlkO.evo (not_hit hk (by decide)) he h.2⟩)⟩,dv [] [0] 13 (pt i 0),⟨[2,1],[],[100],Fct.andv (Fct.mems [2,103] 14 (fun (x : Option Addr × Nat)=>.int .u64 d.1) (fun (x : Option Addr × Nat) own w=>RdO own [2] w R5 x.1 x.2 d.2.1 ∧ BlkO own 103 w i v #[.slice x.1 d.2.1.length x.2,Zi d.2.2]) (fun hk he h=>⟨RdO.evo (hits_sub hk (by decide)) he h.1,BlkO.evo (not_hit hk (by decide)) he h.2⟩)) 12 (.int .u64 p.1)⟩,dv [] [0] 15 (pt i 0),⟨[4,3],[],[103],Fct.andv (Fct.andv (Fct.mems [2,106] 16 (fun (x : Option Addr × Nat)=>.int .u64 c.1) (fun (x : Option Addr × Nat) own w=>RdO own [2] w R5 x.1 x.2 c.2.1 ∧ BlkO own 106 w i v #[.slice x.1 c.2.1.length x.2,Zi c.2.2]) (fun hk he h=>⟨RdO.evo (hits_sub hk (by decide)) he h.1,BlkO.evo (not_hit hk (by decide)) he h.2⟩)) 12 (.int .u64 p.1)) 14 (.int .u64 d.1)⟩,dv [5] [] 7 (.int .u64 p.1),dv [5] [] 8 (.int .u64 d.1),dv [5] [] 9 (.int .u64 c.1)] dy dp (fm1 a5) ?_ ?_
 ·refine sM aa ?_
  refine sc (fun own a wx hf M hE=>?_) ?_
  ·obtain ⟨cV,q,-⟩ := hf
   exact px (or_call cf50 (args1 cV) (pack_reader_number_w _ (forth own (look0 [(1,1),(2,2)])) r1 i v W X (look0_le rfl) (BlkO.forth_ (m := (look0 [(1,1),(2,2)])) q) (RdO.forth_ (m := (look0 [(1,1),(2,2)])) (RdO.evo rfl hE (RdO.evo rfl bR bJ))) p c8) (post_mems (m := (look0 [(1,1),(2,2)])) (m' := (look0 [(1,100),(2,2)])) (hm_of2 rfl) (fun y w' a' x h1 h=>⟨x,h1,⟨RdO.back_ h.1 (by decide),BlkO.back_ h.2 (by decide)⟩⟩)))
  refine sM aa ?_
  refine sc (fun own a wx hf M hE=>?_) ?_
  ·obtain ⟨cW,⟨⟨dn,cN⟩,C,b5,q⟩,-⟩ := hf
   exact px (or_andv (by decide) C (or_call cf50 (args1 cW) (pack_reader_number_w _ (forth own (look0 [(2,2),(100,1)])) p.2 i v dn cN (look0_le rfl) (BlkO.forth_ (m := (look0 [(2,2),(100,1)])) q) (RdO.forth_ (m := (look0 [(2,2),(100,1)])) b5) d cz) (post_mems (m := (look0 [(2,2),(100,1)])) (m' := (look0 [(1,103),(2,2)])) (hm_of2 rfl) (fun y w' a' x h1 h=>⟨x,h1,⟨RdO.back_ h.1 (by decide),BlkO.back_ h.2 (by decide)⟩⟩))))
  refine sM aa ?_
  refine sc (fun own a wx hf M hE=>?_) ?_
  ·obtain ⟨cX,⟨C,⟨⟨cH,b7⟩,V,bl,q⟩⟩,-⟩ := hf
   exact px (or_andv (by decide) V (or_andv (by decide) C (or_call cf50 (args1 cX) (pack_reader_number_w _ (forth own (look0 [(2,2),(103,1)])) d.2 i v cH b7 (look0_le rfl) (BlkO.forth_ (m := (look0 [(2,2),(103,1)])) q) (RdO.forth_ (m := (look0 [(2,2),(103,1)])) bl) c cA) (post_mems (m := (look0 [(2,2),(103,1)])) (m' := (look0 [(1,106),(2,2)])) (hm_of2 rfl) (fun y w' a' x h1 h=>⟨x,h1,⟨RdO.back_ h.1 (by decide),BlkO.back_ h.2 (by decide)⟩⟩)))))
  refine sc (fun own a wx hf M hE=>?_) ?_
  ·obtain ⟨⟨V,⟨C,⟨⟨t,j⟩,aJ,aC,q⟩⟩⟩,-⟩ := hf
   exact px (or_assign C)
  refine sc (fun own a wx hf M hE=>?_) ?_
  ·obtain ⟨⟨V,⟨C,⟨⟨t,j⟩,aJ,aC,q⟩⟩⟩,-⟩ := hf
   exact px (or_assign V)
  refine sc (fun own a wx hf M hE=>?_) ?_
  ·obtain ⟨⟨V,⟨C,⟨⟨t,j⟩,aJ,aC,q⟩⟩⟩,-⟩ := hf
   exact px (or_assign aJ)
  exact steps_nil
 intro bh a2 b1 cO dg cp ad bd
 obtain ⟨bn,bo,bp,bq⟩ := kt4 cp aa b8 b9 ca
 have br := gv (ad [6] rfl) rfl
 have bs := gv (ad [7] rfl) rfl
 have bt := gv (ad [8] rfl) rfl
 obtain ⟨⟨(V : a2.eval (.tmp 14) = .int .u64 d.1),⟨(C : a2.eval (.tmp 12) = .int .u64 p.1),⟨⟨t,j⟩,(aJ : a2.eval (.tmp 16) = .int .u64 c.1),(ah : RdO bh [2] b1 R5 t j c.2.1),(aO : BlkO bh 106 b1 i v #[sl t c.2.1 j,Zi c.2.2])⟩⟩⟩,-⟩ := ad [5] rfl
 have cc := Evo.step bR u bd rfl
 obtain ⟨aM,aN⟩ := be2 bd a3 a4
 refine rp_seq 53 bh [109] [0,1,3,0,8,24,0,64,192,511,0,2047] [dv [] [7] 17 (.int .u64 p.1),dv [0] [] 18 (.int .u64 (mn p.1 1048576)),dv [1] [] 19 (Zi (IntKind.i64.wrap (mn p.1 1048576))),dv [] [8] 20 (.int .u64 d.1),dv [3] [] 21 (.int .u64 (mn d.1 1048576)),dv [4] [] 22 (Zi (IntKind.i64.wrap (mn d.1 1048576))),dv [] [9] 23 (.int .u64 c.1),dv [6] [] 24 (.int .u64 (mn c.1 1048576)),dv [7] [] 25 (Zi (IntKind.i64.wrap (mn c.1 1048576))),dv [2,5,8] [] 26 (.agg #[Zi (IntKind.i64.wrap (mn p.1 1048576)),Zi (IntKind.i64.wrap (mn d.1 1048576)),Zi (IntKind.i64.wrap (mn c.1 1048576))]),⟨[],[],[],Fct.blk 109 10 (fun g=>pt g 0) 28 #[Zi 0,Zi 0,Zi 0]⟩,⟨[10,9],[],[109],Fct.blk 110 10 (fun g=>pt g 0) 28 #[Zi (IntKind.i64.wrap (mn p.1 1048576)),Zi (IntKind.i64.wrap (mn d.1 1048576)),Zi (IntKind.i64.wrap (mn c.1 1048576))]⟩] dg cO ?_ ?_
 ·refine sM br<|sF (fun f=>or_min f.1 rfl)<|sF (fun f=>or_conv f.1 tn26 tn3 rfl)<|sM bs<|sF (fun f=>or_min f.1 rfl)<|sF (fun f=>or_conv f.1 tn26 tn3 rfl)<|sM bt<|sF (fun f=>or_min f.1 rfl)<|sF (fun f=>or_conv f.1 tn26 tn3 rfl)<|sF (fun f=>ok3 f.1 f.2.1 f.2.2.1)<|sO (nw0) ?_
  refine sc (fun own a wx hf M hE=>?_) ?_
  ·obtain ⟨⟨af,bP,bm⟩,cY,-⟩ := hf
   exact px (or_store (l := #[Zi (IntKind.i64.wrap (mn p.1 1048576)),Zi (IntKind.i64.wrap (mn d.1 1048576)),Zi (IntKind.i64.wrap (mn c.1 1048576))]) (lab := 109) (lab2 := 110) ts28 bP cY bm (by simp) (by kernel_rfl) (mem_of rfl) (by decide) (by kernel_rfl) (fun y a' w' ha hb=>⟨_,(ha 10).trans bP,hb⟩))
  exact steps_nil
 intro bU cI da cP dh cq ci au
 obtain ⟨aD,bu,bv,bw⟩ := kt4 cq bn bo bp bq
 obtain ⟨⟨af,(a6 : cI.eval (.tmp 10) = pt af 0),(aj : BlkO bU 110 da af 28 #[Zi (IntKind.i64.wrap (mn p.1 1048576)),Zi (IntKind.i64.wrap (mn d.1 1048576)),Zi (IntKind.i64.wrap (mn c.1 1048576))])⟩,-⟩ := ci [11] rfl
 have cd := Evo.step cc u au rfl
 obtain ⟨aP,aQ,N⟩ := be3 au aM aN aO
 have ai := RdO.evo rfl au ah
 refine fl_seq (fun dz cx du=>?_)
 refine fl_block (fun bL cy cD dw=>?_)
 have aB : ∀ (B : Act) (D : World) (L : Own) (bi : Int),B.defers = [] → B.tmps.size = 53 → B.eval (.tmp 0) = pt i 0 → B.eval (.tmp 6) = pt ar 0 → B.eval (.tmp 10) = pt af 0 → Evo [1] own L w D → BlkO L 155 D i v #[sl t c.2.1 j,Zi bi] → RdO L [2] D R5 t j c.2.1 → BlkO L 96 D ar 28 #[Zi 0,Zi 0,Zi 0] → BlkO L 110 D af 28 #[Zi (IntKind.i64.wrap (mn p.1 1048576)),Zi (IntKind.i64.wrap (mn d.1 1048576)),Zi (IntKind.i64.wrap (mn c.1 1048576))] → pack_reader_tile_k1 p d c bi = some r → (bL .normal B D ∧ bL (.exit 0) B D) := by
  intro B D L bi cQ di bx aE a7 cb aS ak aR al E
  refine and_both (cy _ _) (cD _ _) ?_
  refine cx _ _ ?_
  refine rr_seq 53 [Fct.at_ 96 ar 28 #[Zi 0,Zi 0,Zi 0]] L [96] (bz 2) [dv [] [10] 52 (.agg #[Zi (IntKind.i64.wrap (mn p.1 1048576)),Zi (IntKind.i64.wrap (mn d.1 1048576)),Zi (IntKind.i64.wrap (mn c.1 1048576))]),⟨[0,2],[6],[96],Fct.at_ 159 ar 28 #[Zi (IntKind.i64.wrap (mn p.1 1048576)),Zi (IntKind.i64.wrap (mn d.1 1048576)),Zi (IntKind.i64.wrap (mn c.1 1048576))]⟩] di cQ (fm1 aR) ?_ ?_
  ·refine sL ta28 a7 al ?_
   refine sc (fun own a wx hf M hE=>?_) ?_
   ·obtain ⟨c1,b6,-⟩ := hf
    obtain ⟨dx,-⟩ := M
    exact px (or_store (l := #[Zi (IntKind.i64.wrap (mn p.1 1048576)),Zi (IntKind.i64.wrap (mn d.1 1048576)),Zi (IntKind.i64.wrap (mn c.1 1048576))]) (lab := 96) (lab2 := 159) ts28 (dx.trans aE) c1 b6 (by simp) (by kernel_rfl) (mem_of rfl) (by decide) (by kernel_rfl) (fun y a' w' ha hb=>hb))
   exact steps_nil
  intro bV dA db cR dJ cr cj av
  obtain ⟨dl,bA⟩ := kt2 cr bx aE
  obtain ⟨(aT : BlkO bV 159 db ar 28 #[Zi (IntKind.i64.wrap (mn p.1 1048576)),Zi (IntKind.i64.wrap (mn d.1 1048576)),Zi (IntKind.i64.wrap (mn c.1 1048576))]),-⟩ := cj [1] rfl
  have ce := Evo.step cb u av rfl
  have aU := be_ av aS
  have am := RdO.evo rfl av ak
  refine fl_ret ?_
  obtain rfl := osome E
  exact c9 _ _ _ _ (.inl rfl) cR (results1_ rfl (RVal.cell_ bA (run_loadVarAgg (l := [Zi (IntKind.i64.wrap (mn p.1 1048576)),Zi (IntKind.i64.wrap (mn d.1 1048576)),Zi (IntKind.i64.wrap (mn c.1 1048576))]) ta28 (Blk.cellsFrom aT.2 0 rfl) rfl))) ⟨(rl [(155,1)] bV),(t,j),rfl,(Evo.rl_ ce u rfl),(RdO.rl_ am),(BlkO.rl_ aU)⟩
 refine rq_seq 53 bU (bz 6) [dv [] [0] 28 (pt i 0),dv [0] [] 29 (pt i 0),dv [1] [] 30 (pt i 1),dv [2] [] 31 (Zi c.2.2),dv [3] [] 32 (.bool (!decide (c.2.2 = 0))),dv [4] [] 27 (.bool (!decide (c.2.2 = 0)))] dh cP ?_ ?_
 ·exact sM aD<|sF (fun f=>ok1 f.1)<|sF (fun f=>or_field fo70_1 f.1 (by rfl))<|sG to31 N<|sF (fun f=>or_neq f.1 rfl rfl)<|sA<|steps_nil
 intro bW dB dG bM b2 cs ck aw
 obtain ⟨aF,bB,bC,aG,J⟩ := kt5 cs aD bu bv bw a6
 have a8 := gv (ck [5] rfl) rfl
 have be := Evo.step cd u aw rfl
 obtain ⟨aV,O,P,z⟩ := be4 aw aP aQ N aj
 have F := RdO.evo rfl aw ai
 refine fl_cond a8 E (fun cK E=>?_) (fun cK E=>?_)
 ·refine fl_skip ?_
  exact (aB _ _ (rl [(106,155)] bW) _ bM b2 aF aG J (Evo.rl_ be u rfl) (BlkO.rl_ P) (RdO.rl_ F) (BlkO.rl_ O) (BlkO.rl_ z) E).1
 obtain ⟨aL,cB,E⟩ := obind E
 refine rq_seq 53 bW (bz 4) [dv [] [10] 34 (.agg #[Zi (IntKind.i64.wrap (mn p.1 1048576)),Zi (IntKind.i64.wrap (mn d.1 1048576)),Zi (IntKind.i64.wrap (mn c.1 1048576))]),dv [0] [] 35 (.bool aL),dv [1] [] 36 (.bool (!aL)),dv [2] [] 33 (.bool (!aL))] b2 bM ?_ ?_
 ·exact sL ta28 J z<|sF (fun f=>or_call cf45 (args1 f.1) (window_Right_w _ (IntKind.i64.wrap (mn p.1 1048576),IntKind.i64.wrap (mn d.1 1048576),IntKind.i64.wrap (mn c.1 1048576))  aL cB) post_val)<|sF (fun f=>or_not f.1 rfl)<|sA<|steps_nil
 intro bX dC dH bN b3 ct cl ax
 obtain ⟨Y,bD,bE,aH,K⟩ := kt5 ct aF bB bC aG J
 have a9 := gv (cl [3] rfl) rfl
 have bf := Evo.step be u ax rfl
 obtain ⟨aW,R,S,A⟩ := be4 ax aV O P z
 have G := RdO.evo rfl ax F
 refine fl_cond a9 E (fun cL E=>?_) (fun cL E=>?_)
 ·refine rr 53 [Fct.at_ 106 i v #[sl t c.2.1 j,Zi c.2.2]] bX [106] (bz 4) [dv [] [0] 37 (pt i 0),dv [0] [] 38 (pt i 0),dv [1] [] 39 (pt i 1),⟨[2,4],[],[106],Fct.at_ 166 i v #[sl t c.2.1 j,Zi 5]⟩] b3 bN (fm1 S) ?_ ?_
  ·refine sM Y<|sF (fun f=>ok1 f.1)<|sF (fun f=>or_field fo70_1 f.1 (by rfl)) ?_
   refine sc (fun own a wx hf M hE=>?_) ?_
   ·obtain ⟨cZ,q,-⟩ := hf
    exact px (or_store1 (lab := 106) (lab2 := 166) ts31 cZ rfl q (by simp) rfl (mem_of rfl) (by decide) rfl (fun y a' w' ha hb=>hb))
   exact steps_nil
  intro bY dD dd cS dj cu cm ay
  obtain ⟨bF,bG,ba⟩ := kt3 cu Y aH K
  obtain ⟨(aY : BlkO bY 166 dd i v #[sl t c.2.1 j,Zi 5]),-⟩ := cm [3] rfl
  have cf := Evo.step bf u ay rfl
  obtain ⟨aX,ao⟩ := be2 ay R A
  have an := RdO.evo rfl ay G
  exact (aB _ _ (rl [(166,155)] bY) _ cS dj bF bG ba (Evo.rl_ cf u rfl) (BlkO.rl_ aY) (RdO.rl_ an) (BlkO.rl_ aX) (BlkO.rl_ ao) E).1
 obtain ⟨ag,cC,E⟩ := obind E
 refine rq_seq 53 bX [0,1,3,7,7,31,63,127,255] [dv [] [2] 41 (.bool k),dv [0] [] 42 (.bool (!k)),dv [1] [] 43 (.bool (!k)),dc [2] [4] (!k) 44 (.agg #[Zi o.1,Zi o.2.1,Zi o.2.2]),dc [2] [10] (!k) 45 (.agg #[Zi (IntKind.i64.wrap (mn p.1 1048576)),Zi (IntKind.i64.wrap (mn d.1 1048576)),Zi (IntKind.i64.wrap (mn c.1 1048576))]),dc [2,3,4] [] (!k) 46 (.bool ag),dc [2,5] [] (!k) 47 (.bool (!ag)),dv [2,6] [] 48 (.bool ((!k) && (!ag))),dv [7] [] 40 (.bool ((!k) && (!ag)))] b3 bN ?_ ?_
 ·exact sM bD<|sF (fun f=>or_not f.1 rfl)<|sV<|cTL ta28 bE aW<|cTL ta28 K A<|cT (fun f _ _ hg=>or_call cf44 (args2 (f.2.1.1 hg) (f.2.2.1.1 hg)) (window_Less_w _ o (IntKind.i64.wrap (mn p.1 1048576),IntKind.i64.wrap (mn d.1 1048576),IntKind.i64.wrap (mn c.1 1048576))  ag (gd_t cC hg)) post_val)<|cT (fun f _ _ hg=>or_not (f.2.1.1 hg) rfl)<|sF (fun f=>or_and f.1 (fun hx=>f.2.1.1 hx) rfl rfl)<|sA<|steps_nil
 intro bZ dE dI bO b4 cv cn az
 obtain ⟨Z,aI,ae⟩ := kt3 cv Y aH K
 have bb := gv (cn [8] rfl) rfl
 have bg := Evo.step bf u az rfl
 obtain ⟨T,U,I⟩ := be3 az R S A
 have H := RdO.evo rfl az G
 refine fl_cond bb E (fun cM E=>?_) (fun cM E=>?_)
 ·refine rr 53 [Fct.at_ 106 i v #[sl t c.2.1 j,Zi c.2.2]] bZ [106] (bz 4) [dv [] [0] 49 (pt i 0),dv [0] [] 50 (pt i 0),dv [1] [] 51 (pt i 1),⟨[2,4],[],[106],Fct.at_ 171 i v #[sl t c.2.1 j,Zi 18]⟩] b4 bO (fm1 U) ?_ ?_
  ·refine sM Z<|sF (fun f=>ok1 f.1)<|sF (fun f=>or_field fo70_1 f.1 (by rfl)) ?_
   refine sc (fun own a wx hf M hE=>?_) ?_
   ·obtain ⟨c0,q,-⟩ := hf
    exact px (or_store1 (lab := 106) (lab2 := 171) ts31 c0 rfl q (by simp) rfl (mem_of rfl) (by decide) rfl (fun y a' w' ha hb=>hb))
   exact steps_nil
  intro b0 dF de cU dk cw co aA
  obtain ⟨bH,bI,bc⟩ := kt3 cw Z aI ae
  obtain ⟨(a1 : BlkO b0 171 de i v #[sl t c.2.1 j,Zi 18]),-⟩ := co [3] rfl
  have cg := Evo.step bg u aA rfl
  obtain ⟨aZ,aq⟩ := be2 aA T I
  have ap := RdO.evo rfl aA H
  exact (aB _ _ (rl [(171,155)] b0) _ cU dk bH bI bc (Evo.rl_ cg u rfl) (BlkO.rl_ a1) (RdO.rl_ ap) (BlkO.rl_ aZ) (BlkO.rl_ aq) E).1
 refine fl_skip ?_
 exact (aB _ _ (rl [(106,155)] bZ) _ bO b4 Z aI ae (Evo.rl_ bg u rfl) (BlkO.rl_ U) (RdO.rl_ H) (BlkO.rl_ T) (BlkO.rl_ I) E).1
theorem pack_reader_blob_w (w : World) (own : Own) (r1 : (List Int) × Int) (d : Nat) (l : TypeId) (C : Option Addr) (D : Nat) (q : Int) (p : Int) (g : ∀ b,own b ≤ 2) (bR : BlkO own 1 w d l #[sl C r1.1 D,Zi r1.2]) (aK : RdO own [2] w R5 C D r1.1) (r : Int × ((List Int) × Int)) (H : pack_reader_blob r1 q p = some r) :
  Calls Try.prog 31 #[pt d 0,Zi q,Zi p] w fun e w'=>∃ (A : Own) (x : Option Addr × Nat),e = .returned (Zi r.1) ∧ Evo [1] own A w w' ∧ RdO A [2] w' R5 x.1 x.2 r.2.1 ∧ BlkO A 1 w' d l #[.slice x.1 r.2.1.length x.2,Zi r.2.2] := by
 refine fl_enter (n := 34) rfl rfl rfl (Nat.le_of_ble_eq_true rfl) ?_
 intro a0 Q d0 z0 U ax
 have cf := U 0 _ rfl
 have cg := U 1 _ rfl
 have ch := U 2 _ rfl
 clear U
 have ce : Evo [1] own own w w := Evo.refl _ _ _
 refine rq_seq 34 own (bz 1) [dv [] [] 6 (Zi 0)] z0 d0 ?_ ?_
 ·exact sO (or_assign rfl)<|steps_nil
 intro cj cJ cM cb cl bS cx aQ
 obtain ⟨an,a3,a4⟩ := kt3 bS cf cg ch
 have aR := Evo.step ce g aQ rfl
 have ai := be_ aQ bR
 obtain ⟨c,bV,H⟩ := obind H
 refine rr_seq 34 [Fct.at_ 1 d l #[sl C r1.1 D,Zi r1.2]] cj [1] (bz 3) [dv [] [0] 8 (pt d 0),⟨[0,3],[],[1],Fct.mems [2,81] 9 (fun (x : Option Addr × Nat)=>.int .u64 c.1) (fun (x : Option Addr × Nat) own w=>RdO own [2] w R5 x.1 x.2 c.2.1 ∧ BlkO own 81 w d l #[.slice x.1 c.2.1.length x.2,Zi c.2.2]) (fun hk he h=>⟨RdO.evo (hits_sub hk (by decide)) he h.1,BlkO.evo (not_hit hk (by decide)) he h.2⟩)⟩,dv [1] [] 7 (.int .u64 c.1)] cl cb (fm1 ai) ?_ ?_
 ·refine sM an ?_
  refine sc (fun own a wx hf bw hE=>?_) ?_
  ·obtain ⟨cd,k,-⟩ := hf
   exact px (or_call cf50 (args1 cd) (pack_reader_number_w _ (forth own (look0 [(1,1),(2,2)])) r1 d l C D (look0_le rfl) (BlkO.forth_ (m := (look0 [(1,1),(2,2)])) k) (RdO.forth_ (m := (look0 [(1,1),(2,2)])) (RdO.evo rfl hE (RdO.evo rfl aR aK))) c bV) (post_mems (m := (look0 [(1,1),(2,2)])) (m' := (look0 [(1,81),(2,2)])) (hm_of2 rfl) (fun A w' a' x h1 h=>⟨x,h1,⟨RdO.back_ h.1 (by decide),BlkO.back_ h.2 (by decide)⟩⟩)))
  refine sc (fun own a wx hf bw hE=>?_) ?_
  ·obtain ⟨⟨⟨j,i⟩,bO,ca,k⟩,-⟩ := hf
   exact px (or_assign bO)
  exact steps_nil
 intro bA b9 b1 cc cm bT aS bP
 obtain ⟨ao,a5,a6⟩ := kt3 bT an a3 a4
 have a7 := gv (aS [2] rfl) rfl
 obtain ⟨⟨⟨j,i⟩,(bO : b9.eval (.tmp 9) = .int .u64 c.1),(aj : RdO bA [2] b1 R5 j i c.2.1),(G : BlkO bA 81 b1 d l #[sl j c.2.1 i,Zi c.2.2])⟩,-⟩ := aS [1] rfl
 have bQ := Evo.step aR g bP rfl
 refine fl_seq (fun cI bU aT=>?_)
 refine fl_block (fun aM bv bx aw=>?_)
 have aL : ∀ (o : Act) (B : World) (I : Own) (ay : Int),o.defers = [] → o.tmps.size = 34 → o.eval (.tmp 0) = pt d 0 → o.eval (.tmp 7) = .int .u64 c.1 → Evo [1] own I w B → BlkO I 126 B d l #[sl j c.2.1 i,Zi ay] → RdO I [2] B R5 j i c.2.1 → pack_reader_blob_k1 c ay = some r → (aM .normal o B ∧ aM (.exit 0) o B) := by
  intro o B I ay bG b2 az aA a8 W V H
  refine and_both (bv _ _) (bx _ _) ?_
  refine bU _ _ ?_
  refine rq_seq 34 I (bz 3) [dv [] [7] 32 (.int .u64 c.1),dv [0] [] 33 (Zi (IntKind.i64.wrap c.1)),dv [1] [] 6 (Zi (IntKind.i64.wrap c.1))] b2 bG ?_ ?_
  ·exact sM aA<|sF (fun f=>or_conv f.1 tn26 tn3 rfl)<|sA<|steps_nil
  intro bW co cz bH cF bn bf J
  have b5 := kt bn az
  have aB := gv (bf [2] rfl) rfl
  have a9 := Evo.step a8 g J rfl
  have Y := be_ J W
  have X := RdO.evo rfl J V
  refine fl_ret ?_
  obtain rfl := osome H
  exact ax _ _ _ _ (.inl rfl) bH (results1_ rfl (RVal.tmp_ aB)) ⟨(rl [(126,1)] bW),(j,i),rfl,(Evo.rl_ a9 g rfl),(RdO.rl_ X),(BlkO.rl_ Y)⟩
 refine rq_seq 34 bA (bz 6) [dv [] [0] 11 (pt d 0),dv [0] [] 12 (pt d 0),dv [1] [] 13 (pt d 1),dv [2] [] 14 (Zi c.2.2),dv [3] [] 15 (.bool (!decide (c.2.2 = 0))),dv [4] [] 10 (.bool (!decide (c.2.2 = 0)))] cm cc ?_ ?_
 ·exact sM ao<|sF (fun f=>ok1 f.1)<|sF (fun f=>or_field fo70_1 f.1 (by rfl))<|sG to31 G<|sF (fun f=>or_neq f.1 rfl rfl)<|sA<|steps_nil
 intro aU cp cA aN aZ bo bg K
 obtain ⟨P,aC,aD,R⟩ := kt4 bo ao a5 a6 a7
 have ak := gv (bg [5] rfl) rfl
 have ar := Evo.step bQ g K rfl
 have t := be_ K G
 have s := RdO.evo rfl K aj
 refine fl_cond ak H (fun bD H=>?_) (fun bD H=>?_)
 ·refine rq_seq 34 aU (bz 1) [dv [] [] 6 (Zi 0)] aZ aN ?_ ?_
  ·exact sO (or_assign rfl)<|steps_nil
  intro bX cq cB bI cG bp bh L
  have b6 := kt bp P
  have aE := gv (bh [0] rfl) rfl
  have ba := Evo.step ar g L rfl
  have aa := be_ L t
  have Z := RdO.evo rfl L s
  refine fl_ret ?_
  refine aw _ _ _ rfl ?_
  refine aT _ _ _ rfl ?_
  obtain rfl := osome H
  exact ax _ _ _ _ (.inl rfl) bI (results1_ rfl (RVal.tmp_ aE)) ⟨(rl [(81,1)] bX),(j,i),rfl,(Evo.rl_ ba g rfl),(RdO.rl_ Z),(BlkO.rl_ aa)⟩
 refine rq_seq 34 aU [0,0,2,7,15] [dv [] [7] 17 (.int .u64 c.1),dv [] [1] 18 (Zi q),dv [1] [] 19 (.int .u64 (IntKind.u64.wrap q)),dv [0,2] [] 20 (.bool (decide ((IntKind.u64.wrap q) ≤ c.1))),dv [3] [] 16 (.bool (decide ((IntKind.u64.wrap q) ≤ c.1)))] aZ aN ?_ ?_
 ·exact sM R<|sM aC<|sF (fun f=>or_conv f.1 tn3 tn26 rfl)<|sF (fun f=>or_geq f.1 f.2.1 rfl)<|sA<|steps_nil
 intro aV cr cC aO a1 bq bi M
 obtain ⟨E,aF,S⟩ := kt3 bq P aD R
 have al := gv (bi [4] rfl) rfl
 have au := Evo.step ar g M rfl
 have v := be_ M t
 have u := RdO.evo rfl M s
 refine fl_cond al H (fun bE H=>?_) (fun bE H=>?_)
 ·refine rr_seq 34 [Fct.at_ 81 d l #[sl j c.2.1 i,Zi c.2.2]] aV [81] (bz 4) [dv [] [0] 21 (pt d 0),dv [0] [] 22 (pt d 0),dv [1] [] 23 (pt d 1),⟨[2,4],[],[81],Fct.at_ 136 d l #[sl j c.2.1 i,Zi 5]⟩] a1 aO (fm1 v) ?_ ?_
  ·refine sM E<|sF (fun f=>ok1 f.1)<|sF (fun f=>or_field fo70_1 f.1 (by rfl)) ?_
   refine sc (fun own a wx hf bw hE=>?_) ?_
   ·obtain ⟨bM,k,-⟩ := hf
    exact px (or_store1 (lab := 81) (lab2 := 136) ts31 bM rfl k (by simp) rfl (mem_of rfl) (by decide) rfl (fun A a' w' ha hb=>hb))
   exact steps_nil
  intro aW cs bZ bJ b3 br bj ap
  have aG := kt br E
  obtain ⟨(ad : BlkO aW 136 bZ d l #[sl j c.2.1 i,Zi 5]),-⟩ := bj [3] rfl
  have bb := Evo.step au g ap rfl
  have ab := RdO.evo rfl ap u
  refine rq_seq 34 aW (bz 1) [dv [] [] 6 (Zi 0)] b3 bJ ?_ ?_
  ·exact sO (or_assign rfl)<|steps_nil
  intro bY ct cD bK cH bs bk N
  have b7 := kt bs aG
  have aH := gv (bk [0] rfl) rfl
  have bc := Evo.step bb g N rfl
  have af := be_ N ad
  have ae := RdO.evo rfl N ab
  refine fl_ret ?_
  refine aw _ _ _ rfl ?_
  refine aT _ _ _ rfl ?_
  obtain rfl := osome H
  exact ax _ _ _ _ (.inl rfl) bK (results1_ rfl (RVal.tmp_ aH)) ⟨(rl [(136,1)] bY),(j,i),rfl,(Evo.rl_ bc g rfl),(RdO.rl_ ae),(BlkO.rl_ af)⟩
 refine rq_seq 34 aV [0,1,0,7,15] [dv [] [7] 25 (.int .u64 c.1),dv [0] [] 26 (Zi (IntKind.i64.wrap c.1)),dv [] [2] 27 (Zi p),dv [1,2] [] 28 (.bool (decide (p < (IntKind.i64.wrap c.1)))),dv [3] [] 24 (.bool (decide (p < (IntKind.i64.wrap c.1))))] a1 aO ?_ ?_
 ·exact sM S<|sF (fun f=>or_conv f.1 tn26 tn3 rfl)<|sM aF<|sF (fun f=>or_gtr f.1 f.2.1 rfl)<|sA<|steps_nil
 intro aX cu cE aP a2 bt bl O
 obtain ⟨F,T⟩ := kt2 bt E S
 have am := gv (bl [4] rfl) rfl
 have av := Evo.step au g O rfl
 have z := be_ O v
 have y := RdO.evo rfl O u
 refine fl_cond am H (fun bF H=>?_) (fun bF H=>?_)
 ·refine rr 34 [Fct.at_ 81 d l #[sl j c.2.1 i,Zi c.2.2]] aX [81] (bz 4) [dv [] [0] 29 (pt d 0),dv [0] [] 30 (pt d 0),dv [1] [] 31 (pt d 1),⟨[2,4],[],[81],Fct.at_ 141 d l #[sl j c.2.1 i,Zi 18]⟩] a2 aP (fm1 z) ?_ ?_
  ·refine sM F<|sF (fun f=>ok1 f.1)<|sF (fun f=>or_field fo70_1 f.1 (by rfl)) ?_
   refine sc (fun own a wx hf bw hE=>?_) ?_
   ·obtain ⟨bN,k,-⟩ := hf
    exact px (or_store1 (lab := 81) (lab2 := 141) ts31 bN rfl k (by simp) rfl (mem_of rfl) (by decide) rfl (fun A a' w' ha hb=>hb))
   exact steps_nil
  intro aY cv b0 bL b4 bu bm aq
  obtain ⟨aI,aJ⟩ := kt2 bu F T
  obtain ⟨(ah : BlkO aY 141 b0 d l #[sl j c.2.1 i,Zi 18]),-⟩ := bm [3] rfl
  have bd := Evo.step av g aq rfl
  have ag := RdO.evo rfl aq y
  exact (aL _ _ (rl [(141,126)] aY) _ bL b4 aI aJ (Evo.rl_ bd g rfl) (BlkO.rl_ ah) (RdO.rl_ ag) H).1
 refine fl_skip ?_
 exact (aL _ _ (rl [(81,126)] aX) _ aP a2 F T (Evo.rl_ av g rfl) (BlkO.rl_ z) (RdO.rl_ y) H).1
set_option maxHeartbeats 2000000 in
theorem pack_Open_z (w : World) (b1 : List Int) (ex : Option Addr) (i6 : Nat) (yR : RdO (fun _=>0) [0] w R5 ex i6 b1) (r : (((List Int) × (List (List Int)) × (List ((Int × Int × Int) × Int))) × Int) ⊕ (Unit × Int)) (o : pack_Open b1 = some r) :
  Calls Try.prog 12 #[sl ex b1 i6] w fun e w'=>match r with
   | .inl r=>∃ (E : Own) (x : (Option Addr × Nat) × (Option Addr × Nat) × (Option Addr × Nat) × (Option Addr × Nat)),e = .returned (.tuple #[.pointer (some ⟨x.1.2,0,none⟩),Zi r.2]) ∧ Evo [] (fun _=>0) E w w' ∧ RwO E 2 [] w' 5 R5 x.2.1.1 x.2.1.2 r.1.1 ∧ RwO E 3 [4] w' 22 R22 x.2.2.1.1 x.2.2.1.2 r.1.2.1 ∧ RwO E 5 [] w' 66 R66 x.2.2.2.1 x.2.2.2.2 r.1.2.2 ∧ BlkO E 1 w' x.1.2 64 #[.slice x.2.1.1 r.1.1.length x.2.1.2,.slice x.2.2.1.1 r.1.2.1.length x.2.2.1.2,.slice x.2.2.2.1 r.1.2.2.length x.2.2.2.2]
   | .inr x=>∃ E : Own,e = .returned (.tuple #[.pointer none,Zi x.2]) ∧ Evo [] (fun _=>0) E w w' := by
 refine fl_enter (n := 146) rfl rfl rfl (Nat.le_of_ble_eq_true rfl) ?_
 intro a0 Q d0 z0 vP bl
 have Av := vP 0 _ rfl
 clear vP
 have Au : Evo [] (fun _=>0) (fun _=>0) w w := Evo.refl _ _ _
 refine rq_seq 146 (fun _=>0) (bz 2) [dv [] [] 2 (.pointer none),dv [] [] 3 (Zi 0)] z0 d0 ?_ ?_
 ·exact sO (or_assign rfl)<|sO (or_assign rfl)<|steps_nil
 intro yS Bq Br yL yT xb Aw w9
 have sa := kt xb Av
 have xa := es_ Au w9
 refine fl_scope (S := ((List Int) × (List (List Int)) × (List (ByteArray × Bool)) × (List Int) × Int × Int × Int) ⊕ ((List Int) × (List (List Int)) × (List ((Int × Int × Int) × Int)) × (List Int) × Int × Int × Int × Int × (Int × Int × Int))) (body := (Sum.elim (fun s=>pack_Open_b1_0 s.1 s.2.1 s.2.2.1 s.2.2.2.1 s.2.2.2.2.1 s.2.2.2.2.2.1 s.2.2.2.2.2.2) (fun s=>pack_Open_b1_1 s.1 s.2.1 s.2.2.1 s.2.2.2.1 s.2.2.2.2.1 s.2.2.2.2.2.1 s.2.2.2.2.2.2.1 s.2.2.2.2.2.2.2.1 s.2.2.2.2.2.2.2.2))) (z := r) (Sum.elim (fun _=>0) (fun _=>1)) ?_ (fun s a wx=>((Sum.elim (fun (s : (List Int) × (List (List Int)) × (List (ByteArray × Bool)) × (List Int) × Int × Int × Int)=>match s with | (al,O,a3,bu,bf,ak,az)=>∃ (ox : Own) (p : Nat) (am : Option Addr) (an : Nat) (ai : Option Addr) (aj : Nat) (aS : Nat) (c : Nat) (bM : Option Addr) (bP : Nat) (aT : Nat),a.defers = [] ∧ a.tmps.size = 146 ∧ a.eval (.tmp 4) = pt p 0 ∧ a.eval (.tmp 5) = .map (some aS) ∧ a.eval (.tmp 6) = pt c 0 ∧ a.eval (.tmp 7) = Zi 0 ∧ a.eval (.tmp 8) = Zi ak ∧ a.eval (.tmp 9) = Zi az ∧ a.eval (.tmp 10) = pt aT 0 ∧ Evo [] (fun _=>0) ox w wx ∧ BlkO ox 1125 wx p 64 #[sl am al an,sl ai O aj,.slice none 0 0] ∧ RwO ox 841 [] wx 5 R5 am an al ∧ RwN ox 1132 1133 [] wx 22 5 R5 ai aj O ∧ MpO ox 1135 wx aS vv9 vv4 a3 ∧ BlkO ox 1138 wx c 70 #[sl bM bu bP,Zi bf] ∧ RdO ox [0] wx R5 bM bP bu ∧ BlkO ox 820 wx aT 28 #[Zi 0,Zi 0,Zi 0]) (fun (s : (List Int) × (List (List Int)) × (List ((Int × Int × Int) × Int)) × (List Int) × Int × Int × Int × Int × (Int × Int × Int))=>match s with | (be,ao,bt,aY,aG,V,ah,aF,I)=>∃ (ox : Own) (N : Nat) (a4 : Option Addr) (ba : Nat) (aK : Option Addr) (aR : Nat) (bn : Option Addr) (bq : Nat) (J : Nat) (dn : Option Addr) (ds : Nat) (bs : Nat),a.defers = [] ∧ a.tmps.size = 146 ∧ a.eval (.tmp 4) = pt N 0 ∧ a.eval (.tmp 6) = pt J 0 ∧ a.eval (.tmp 7) = Zi V ∧ a.eval (.tmp 8) = Zi ah ∧ a.eval (.tmp 9) = Zi aF ∧ a.eval (.tmp 10) = pt bs 0 ∧ Evo [] (fun _=>0) ox w wx ∧ BlkO ox 1147 wx N 64 #[sl a4 be ba,sl aK ao aR,sl bn bt bq] ∧ RwO ox 841 [] wx 5 R5 a4 ba be ∧ RwN ox 1154 1155 [] wx 22 5 R5 aK aR ao ∧ RwO ox 1159 [] wx 66 R66 bn bq bt ∧ BlkO ox 1161 wx J 70 #[sl dn aY ds,Zi aG] ∧ RdO ox [0] wx R5 dn ds aY ∧ BlkO ox 1170 wx bs 28 #[Zi I.1,Zi I.2.1,Zi I.2.2])) : (((List Int) × (List (List Int)) × (List (ByteArray × Bool)) × (List Int) × Int × Int × Int) ⊕ ((List Int) × (List (List Int)) × (List ((Int × Int × Int) × Int)) × (List Int) × Int × Int × Int × Int × (Int × Int × Int))) → Prop) s) ?_ ?_
 ·intro s; rcases s with s | s <;> rfl
 ·intro zr lY dN
  refine rq_seq 146 yS (bz 3) [dv [] [] 13 (.agg #[.slice none 0 0,.slice none 0 0,.slice none 0 0]),⟨[0],[],[],Fct.blk 1464 14 (fun g=>pt g 0) 64 #[.slice none 0 0,.slice none 0 0,.slice none 0 0]⟩,⟨[1],[],[],Fct.rel [4,14] (fun l=>∀ (d : Nat),l.getD 1 undef = pt d 0 → l.getD 0 undef = pt d 0)⟩] yT yL ?_ ?_
  ·refine sO (or_k [] rfl rfl trivial (by kernel_rfl))<|sF (fun f=>nw1 f.1) ?_
   refine sc (fun own a wx K H U=>?_) ?_
   ·obtain ⟨⟨d,(ll : a.eval (.tmp 14) = pt d 0),ap⟩,-⟩ := K
    exact px (or_mono (f := Fct.val 4 (pt d 0)) (or_assign ll) (fun E a' w' v' hp h=>fun _ ag=>by cases (ll.symm.trans ((hp.2 14 (by decide)).symm.trans ag)); exact h))
   exact steps_nil
  intro ro kQ xD wK x7 uw tJ so
  have ph := kt uw sa
  obtain ⟨⟨d,(ll : kQ.eval (.tmp 14) = pt d 0),(g5 : BlkO ro 1464 xD d 64 #[.slice none 0 0,.slice none 0 0,.slice none 0 0])⟩,(Ax : ∀ (d : Nat),kQ.eval (.tmp 14) = pt d 0 → kQ.eval (.tmp 4) = pt d 0),-⟩ := tJ [1,2] rfl
  have pi := Ax _ ll
  have sY := es_ xa so
  refine rq_seq 146 ro (bz 2) [⟨[],[],[],Fct.map_ 1467 15 vv9 vv4 ([] : List (ByteArray × Bool))⟩,⟨[0],[],[],Fct.rel [5,15] (fun l=>∀ (aa : Nat),l.getD 1 undef = .map (some aa) → l.getD 0 undef = .map (some aa))⟩] x7 wK ?_ ?_
  ·refine sO (or_makeMap) ?_
   refine sc (fun own a wx K H U=>?_) ?_
   ·obtain ⟨⟨aa,(lm : a.eval (.tmp 15) = .map (some aa)),jB⟩,-⟩ := K
    exact px (or_mono (f := Fct.val 5 (.map (some aa))) (or_assign lm) (fun E a' w' v' hp h=>fun _ ag=>by cases (lm.symm.trans ((hp.2 15 (by decide)).symm.trans ag)); exact h))
   exact steps_nil
  intro rp kR xE wL x8 ux tK lq
  obtain ⟨kb,pj⟩ := kt2 ux ph pi
  obtain ⟨⟨aa,(lm : kR.eval (.tmp 15) = .map (some aa)),(g7 : MpO rp 1467 xE aa vv9 vv4 ([] : List (ByteArray × Bool)))⟩,(Ay : ∀ (aa : Nat),kR.eval (.tmp 15) = .map (some aa) → kR.eval (.tmp 5) = .map (some aa)),-⟩ := tK [0,1] rfl
  have pk := Ay _ lm
  have sZ := es_ sY lq
  have g6 := be_ lq g5
  refine rq_seq 146 rp (bz 4) [dv [] [0] 16 (sl ex b1 i6),dv [0] [] 17 (.agg #[sl ex b1 i6,Zi 0]),⟨[1],[],[],Fct.blk 1470 18 (fun g=>pt g 0) 70 #[sl ex b1 i6,Zi 0]⟩,⟨[2],[],[],Fct.rel [6,18] (fun l=>∀ (b : Nat),l.getD 1 undef = pt b 0 → l.getD 0 undef = pt b 0)⟩] x8 wL ?_ ?_
  ·refine sM kb<|sF (fun f=>ok1 f.1)<|sF (fun f=>nw1 f.1) ?_
   refine sc (fun own a wx K H U=>?_) ?_
   ·obtain ⟨⟨b,(ln : a.eval (.tmp 18) = pt b 0),y⟩,-⟩ := K
    exact px (or_mono (f := Fct.val 6 (pt b 0)) (or_assign ln) (fun E a' w' v' hp h=>fun _ ag=>by cases (ln.symm.trans ((hp.2 18 (by decide)).symm.trans ag)); exact h))
   exact steps_nil
  intro rq kS xF wM x9 uy tL i7
  obtain ⟨pl,pm,pn⟩ := kt3 uy kb pj pk
  obtain ⟨⟨b,(ln : kS.eval (.tmp 18) = pt b 0),(hc : BlkO rq 1470 xF b 70 #[sl ex b1 i6,Zi 0])⟩,(Az : ∀ (b : Nat),kS.eval (.tmp 18) = pt b 0 → kS.eval (.tmp 6) = pt b 0),-⟩ := tL [2,3] rfl
  have po := Az _ ln
  have s0 := es_ sZ i7
  have g8 := be_ i7 g6
  have g9 := MpO.evo (by decide) i7 g7
  refine rq_seq 146 rq (bz 3) [dv [] [] 7 (Zi 0),dv [] [] 8 (Zi 0),dv [] [] 9 (Zi 0)] x9 wM ?_ ?_
  ·exact sO (or_assign rfl)<|sO (or_assign rfl)<|sO (or_assign rfl)<|steps_nil
  intro xs Ad AZ wN ya uz lR i8
  obtain ⟨pp,pq,pr,ps⟩ := kt4 uz pl pm pn po
  have pu := gv (lR [0] rfl) rfl
  have pv := gv (lR [1] rfl) rfl
  have s1 := es_ s0 i8
  obtain ⟨hd,hi⟩ := be2 i8 g8 hc
  have hh := MpO.evo (by decide) i8 g9
  refine rp_seq 146 xs [1474] [0,0,3] [dv [] [] 19 (.agg #[Zi 0,Zi 0,Zi 0]),⟨[],[],[],Fct.blk 1474 10 (fun g=>pt g 0) 28 #[Zi 0,Zi 0,Zi 0]⟩,⟨[1,0],[],[1474],Fct.blk 1475 10 (fun g=>pt g 0) 28 #[Zi 0,Zi 0,Zi 0]⟩] ya wN ?_ ?_
  ·refine sO (or_k [] rfl rfl trivial (by kernel_rfl))<|sO (nw0) ?_
   refine sc (fun own a wx K H U=>?_) ?_
   ·obtain ⟨⟨aU,vN,bp⟩,yM,-⟩ := K
    exact px (or_store (l := #[Zi 0,Zi 0,Zi 0]) (lab := 1474) (lab2 := 1475) ts28 vN yM bp (by simp) (by kernel_rfl) (mem_of rfl) (by decide) (by kernel_rfl) (fun E a' w' ha hb=>⟨_,(ha 10).trans vN,hb⟩))
   exact steps_nil
  intro rs vX xG wO yb uA tM i9
  obtain ⟨kc,pw,py,pz,pA,pB⟩ := kt6 uA pp pq pr ps pu pv
  obtain ⟨⟨aU,(mu : vX.eval (.tmp 10) = pt aU 0),(hn : BlkO rs 1475 xG aU 28 #[Zi 0,Zi 0,Zi 0])⟩,-⟩ := tM [2] rfl
  have lB := es_ s1 i9
  obtain ⟨hj,hm⟩ := be2 i9 hd hi
  have hl := MpO.evo (by decide) i9 hh
  refine fl_seq (fun zE u7 vk=>?_)
  obtain ⟨lf,vt,o⟩ := obind o
  refine rq_seq 146 rs (bz 4) [dv [] [0] 20 (sl ex b1 i6),dv [0] [] 21 (.string (bsS b1)),dv [1] [] 22 (.bool lf),dv [2] [] 23 (.bool (!lf))] yb wO ?_ ?_
  ·exact sM kc<|sFE (fun f U=>or_convBS tu22 tn5 tS9 f.1 (RdO.evo rfl U (RdO.evo rfl lB yR)))<|sF (fun f=>or_call cf27 (args2 f.1 rfl) (strings_HasPrefix_w _ (bsS b1) (⟨#[71,82,84,49]⟩ : ByteArray)  lf vt) post_val)<|sF (fun f=>or_not f.1 rfl)<|steps_nil
  intro rt Ae A0 nk r1 uB tN ja
  obtain ⟨pC,pD,pE,kd,pF,pG,mv⟩ := kt7 uB kc pw py pz pA pB mu
  have mw := gv (tN [3] rfl) rfl
  have ji := es_ lB ja
  obtain ⟨ho,hr,ht⟩ := be3 ja hj hm hn
  have hq := MpO.evo (by decide) ja hl
  refine fl_cond mw o (fun wc o=>?_) (fun wc o=>?_)
  ·refine rq_seq 146 rt (bz 2) [dv [] [] 2 (.pointer none),dv [] [] 3 (Zi 17)] r1 nk ?_ ?_
   ·exact sO (or_assign rfl)<|sO (or_assign rfl)<|steps_nil
   intro xt Af A1 wP Bm y7 lS sp
   have pH := gv (lS [0] rfl) rfl
   have pI := gv (lS [1] rfl) rfl
   have s2 := es_ ji sp
   refine fl_ret ?_
   refine vk _ _ _ rfl ?_
   refine dN.leaves _ _ _ rfl ?_
   obtain rfl := osome o
   exact bl _ _ _ _ (.inl rfl) wP (results2_ rfl (RVal.tmp_ pH) (RVal.tmp_ pI)) ⟨xt,rfl,s2⟩
  refine fl_skip ?_
  refine u7 _ _ ?_
  obtain ⟨a1,vH,o⟩ := obind o
  refine rr_seq 146 [Fct.at_ 1470 b 70 #[sl ex b1 i6,Zi 0]] rt [1470] [0,0,2,7,15,31] [dv [] [6] 24 (pt b 0),dv [] [0] 25 (sl ex b1 i6),⟨[1],[],[],Fct.view [0] 26 R5 a1⟩,dv [0] [] 27 (pt b 0),dv [3] [] 28 (pt b 0),⟨[4,2,6],[],[1470],Fct.by_ [1486] [26] (fun l own w=>∀ (aC : Option Addr) (aq : Nat),l.getD 0 undef = sl aC a1 aq → BlkO own 1486 w b 70 #[sl aC a1 aq,Zi 0]) (fun hk he h _ _ ag=>BlkO.evo (not_hit hk (by decide)) he (h _ _ ag))⟩] r1 nk (fm1 hr) ?_ ?_
  ·refine sM kd<|sM pC<|sFE (fun f U=>or_view (R := R5) (l := b1) (L := [0]) tu22 ts5 f.1 (Bnd.some_ rfl) Bnd.none_ Bnd.none_ (RdO.evo rfl U (RdO.evo rfl ji yR)) vH (.inl rfl) (by simp))<|sF (fun f=>ok1 f.1)<|sF (fun f=>or_field fo70_0 f.1 (by rfl)) ?_
   refine sc (fun own a wx K H U=>?_) ?_
   ·obtain ⟨yN,⟨⟨aC,aq⟩,(lo : a.eval (.tmp 26) = sl aC a1 aq),yB⟩,y,-⟩ := K
    exact px (or_store1 (lab := 1470) (lab2 := 1486) ts22 yN lo y (by simp) rfl (mem_of rfl) (by decide) rfl (fun E a' w' ha hb=>fun _ _ ag=>by cases (lo.symm.trans ((ha 26).symm.trans ag)); exact hb))
   exact steps_nil
  intro k9 mY rJ wQ yc uC tO jb
  obtain ⟨ke,pJ,kg,pK,pL,my⟩ := kt6 uC pD pE kd pF pG mv
  obtain ⟨⟨⟨aC,aq⟩,(lo : mY.eval (.tmp 26) = sl aC a1 aq),(hu : RdO k9 [0] rJ R5 aC aq a1)⟩,(l4 : ∀ (aC : Option Addr) (aq : Nat),mY.eval (.tmp 26) = sl aC a1 aq → BlkO k9 1486 rJ b 70 #[sl aC a1 aq,Zi 0]),-⟩ := tO [2,5] rfl
  have hy := l4 _ _ lo
  have s3 := es_ ji jb
  obtain ⟨hv,hz⟩ := be2 jb ho ht
  have hw := MpO.evo (by decide) jb hq
  obtain ⟨C,vu,o⟩ := obind o
  refine rr_seq 146 [Fct.at_ 1486 b 70 #[sl aC a1 aq,Zi 0],Fct.at_ 1464 d 64 #[.slice none 0 0,.slice none 0 0,.slice none 0 0]] k9 [1486,1464] [0,0,2,7,15,31] [dv [] [4] 29 (pt d 0),dv [] [6] 30 (pt b 0),⟨[1,6],[],[1486],Fct.mems [1496,0,1497] 31 (fun (x : (Option Addr × Nat) × (Option Addr × Nat))=>.slice x.1.1 C.1.length x.1.2) (fun (x : (Option Addr × Nat) × (Option Addr × Nat)) own w=>RwO own 1496 [] w 5 R5 x.1.1 x.1.2 C.1 ∧ RdO own [0] w R5 x.2.1 x.2.2 C.2.1 ∧ BlkO own 1497 w b 70 #[.slice x.2.1 C.2.1.length x.2.2,Zi C.2.2]) (fun hk he h=>⟨RwO.evo (hits_sub hk (by decide)) he h.1,RdO.evo (hits_sub hk (by decide)) he h.2.1,BlkO.evo (not_hit hk (by decide)) he h.2.2⟩)⟩,dv [0] [] 32 (pt d 0),dv [3] [] 33 (pt d 0),⟨[4,2,7],[],[1464],Fct.by_ [1498] [31] (fun l own w=>∀ (M : Option Addr) (D : Nat),l.getD 0 undef = sl M C.1 D → BlkO own 1498 w d 64 #[sl M C.1 D,.slice none 0 0,.slice none 0 0]) (fun hk he h _ _ ag=>BlkO.evo (not_hit hk (by decide)) he (h _ _ ag))⟩] yc wQ (fm2 hy hv) ?_ ?_
  ·refine sM ke<|sM kg ?_
   refine sc (fun own a wx K H U=>?_) ?_
   ·obtain ⟨yO,y,-⟩ := K
    exact px (or_call cf28 (args1 yO) (pack_reader_whole_w _ (forth own (look0 [(0,2),(1486,1)])) (a1,0) b 70 aC aq (look0_le rfl) (BlkO.forth_ (m := (look0 [(0,2),(1486,1)])) y) (RdO.forth_ (m := (look0 [(0,2),(1486,1)])) (RdO.evo rfl U hu)) C vu) (post_mems (m := (look0 [(0,2),(1486,1)])) (m' := (look0 [(1,1497),(2,0),(3,1496)])) (hm_of2 rfl) (fun E w' a' x h1 h=>⟨x,h1,⟨RwO.back_ h.1 (by decide) (.inl (Rep.fl_flat _)),RdO.back_ h.2.1 (by decide),BlkO.back_ h.2.2 (by decide)⟩⟩)))
   refine sF (fun f=>ok1 f.1)<|sF (fun f=>or_field fo64_0 f.1 (by rfl)) ?_
   refine sc (fun own a wx K H U=>?_) ?_
   ·obtain ⟨yP,⟨⟨⟨M,D⟩,⟨dT,cW⟩⟩,(lp : a.eval (.tmp 31) = sl M C.1 D),yC,yD,y⟩,ap,-⟩ := K
    exact px (or_store1 (lab := 1464) (lab2 := 1498) ts22 yP lp ap (by simp) rfl (mem_of rfl) (by decide) rfl (fun E a' w' ha hb=>fun _ _ ag=>by cases (lp.symm.trans ((ha 31).symm.trans ag)); exact hb))
   exact steps_nil
  intro ec mZ jw wR yd uD tP jc
  obtain ⟨pM,pN,kh,pO,pP,mz⟩ := kt6 uD ke pJ kg pK pL my
  obtain ⟨⟨⟨⟨M,D⟩,⟨dT,cW⟩⟩,(lp : mZ.eval (.tmp 31) = sl M C.1 D),(hA : RwO ec 1496 [] jw 5 R5 M D C.1),(hB : RdO ec [0] jw R5 dT cW C.2.1),(hF : BlkO ec 1497 jw b 70 #[sl dT C.2.1 cW,Zi C.2.2])⟩,(a2 : ∀ (M : Option Addr) (D : Nat),mZ.eval (.tmp 31) = sl M C.1 D → BlkO ec 1498 jw d 64 #[sl M C.1 D,.slice none 0 0,.slice none 0 0]),-⟩ := tP [2,5] rfl
  have hC := a2 _ _ lp
  have s4 := es_ s3 jc
  have hG := be_ jc hz
  have hD := MpO.evo (by decide) jc hw
  obtain ⟨G,vv,o⟩ := obind o
  refine rr_seq 146 [Fct.at_ 1497 b 70 #[sl dT C.2.1 cW,Zi C.2.2]] ec [1497] (bz 3) [dv [] [6] 34 (pt b 0),⟨[0,3],[],[1497],Fct.mems [0,1502] 35 (fun (x : Option Addr × Nat)=>Zi G.1) (fun (x : Option Addr × Nat) own w=>RdO own [0] w R5 x.1 x.2 G.2.1 ∧ BlkO own 1502 w b 70 #[.slice x.1 G.2.1.length x.2,Zi G.2.2]) (fun hk he h=>⟨RdO.evo (hits_sub hk (by decide)) he h.1,BlkO.evo (not_hit hk (by decide)) he h.2⟩)⟩,dv [1] [] 9 (Zi G.1)] yd wR (fm1 hF) ?_ ?_
  ·refine sM kh ?_
   refine sc (fun own a wx K H U=>?_) ?_
   ·obtain ⟨yQ,y,-⟩ := K
    exact px (or_call cf29 (args1 yQ) (pack_reader_count_w _ (forth own (look0 [(0,2),(1497,1)])) C.2 b 70 dT cW (look0_le rfl) (BlkO.forth_ (m := (look0 [(0,2),(1497,1)])) y) (RdO.forth_ (m := (look0 [(0,2),(1497,1)])) (RdO.evo rfl U hB)) G vv) (post_mems (m := (look0 [(0,2),(1497,1)])) (m' := (look0 [(1,1502),(2,0)])) (hm_of2 rfl) (fun E w' a' x h1 h=>⟨x,h1,⟨RdO.back_ h.1 (by decide),BlkO.back_ h.2 (by decide)⟩⟩)))
   refine sc (fun own a wx K H U=>?_) ?_
   ·obtain ⟨⟨⟨bN,bb⟩,vO,yE,y⟩,-⟩ := K
    exact px (or_assign vO)
   exact steps_nil
  intro la vY rK wS ye uE lT dG
  obtain ⟨pQ,pR,ki,pS,kj,mA⟩ := kt6 uE pM pN kh pO pP mz
  have kk := gv (lT [2] rfl) rfl
  obtain ⟨⟨⟨bN,bb⟩,(vO : vY.eval (.tmp 35) = Zi G.1),(hI : RdO la [0] rK R5 bN bb G.2.1),(cu : BlkO la 1502 rK b 70 #[sl bN G.2.1 bb,Zi G.2.2])⟩,-⟩ := lT [1] rfl
  have s5 := es_ s4 dG
  obtain ⟨hL,hJ⟩ := be2 dG hG hC
  have hK := MpO.evo (by decide) dG hD
  have hH := re_ dG hA
  refine fl_seq (fun zF u8 zf=>?_)
  refine fl_label ?_
  refine u8 _ _ ?_
  refine fl_seq (fun zG u9 vl=>?_)
  obtain ⟨xM,vI,o⟩ := obind o
  refine rq_seq 146 la [0,0,3,7,15,31,63,127,255,511] [dv [] [8] 36 (Zi 0),dv [] [9] 37 (Zi G.1),dv [0,1] [] 38 (.bool (decide (0 < G.1))),dv [2] [] 39 (.bool (decide (0 < G.1))),dc [3] [6] (decide (0 < G.1)) 40 (pt b 0),dc [3,4] [] (decide (0 < G.1)) 41 (pt b 0),dc [3,5] [] (decide (0 < G.1)) 42 (pt b 1),dc [3,6] [] (decide (0 < G.1)) 43 (Zi G.2.2),dc [3,7] [] (decide (0 < G.1)) 44 (.bool (decide (G.2.2 = 0))),dv [3,8] [] 45 (.bool xM)] ye wS ?_ ?_
  ·exact sM kj<|sM kk<|sF (fun f=>or_lss f.1 f.2.1 rfl)<|sV<|cT (fun _ s _ _=>or_move (s.1.trans ki))<|cT (fun f _ _ hg=>ok1 (f.2.1.1 hg))<|cT (fun f _ _ hg=>or_field fo70_1 (f.2.1.1 hg) (by rfl))<|cT (fun f _ U hg=>ld1 to31 (f.2.1.1 hg) (be_ U cu))<|cT (fun f _ _ hg=>or_eql (f.2.1.1 hg) rfl rfl)<|sF (fun f=>or_and f.1 (fun hx=>f.2.1.1 hx) rfl (osome vI).symm)<|steps_nil
  intro ru Ag A2 nl r2 uF tQ di
  obtain ⟨kl,pT,c1,km,pU,pV,em⟩ := kt7 uF pQ pR ki pS kj kk mA
  have mB := gv (tQ [9] rfl) rfl
  have lC := es_ s5 di
  obtain ⟨cz,cx,cy⟩ := be3 di hL hJ cu
  have hM := MpO.evo (by decide) di hK
  have cv := re_ di hH
  have cw := RdO.evo rfl di hI
  refine fl_cond mB o (fun wd o=>?_) (fun wd o=>?_)
  ·obtain ⟨j,vw,o⟩ := obind o
   refine rr_seq 146 [Fct.at_ 1502 b 70 #[sl bN G.2.1 bb,Zi G.2.2]] ru [1502] (bz 3) [dv [] [6] 46 (pt b 0),⟨[0,3],[],[1502],Fct.mems [1512,0,1513] 47 (fun (x : (Option Addr × Nat) × (Option Addr × Nat))=>.slice x.1.1 j.1.length x.1.2) (fun (x : (Option Addr × Nat) × (Option Addr × Nat)) own w=>RwO own 1512 [] w 5 R5 x.1.1 x.1.2 j.1 ∧ RdO own [0] w R5 x.2.1 x.2.2 j.2.1 ∧ BlkO own 1513 w b 70 #[.slice x.2.1 j.2.1.length x.2.2,Zi j.2.2]) (fun hk he h=>⟨RwO.evo (hits_sub hk (by decide)) he h.1,RdO.evo (hits_sub hk (by decide)) he h.2.1,BlkO.evo (not_hit hk (by decide)) he h.2.2⟩)⟩,⟨[1],[],[],Fct.rel [11,47] (fun l=>∀ (af : Option Addr) (T : Nat),l.getD 1 undef = sl af j.1 T → l.getD 0 undef = sl af j.1 T)⟩] r2 nl (fm1 cy) ?_ ?_
   ·refine sM c1 ?_
    refine sc (fun own a wx K H U=>?_) ?_
    ·obtain ⟨q0,y,-⟩ := K
     exact px (or_call cf28 (args1 q0) (pack_reader_whole_w _ (forth own (look0 [(0,2),(1502,1)])) G.2 b 70 bN bb (look0_le rfl) (BlkO.forth_ (m := (look0 [(0,2),(1502,1)])) y) (RdO.forth_ (m := (look0 [(0,2),(1502,1)])) (RdO.evo rfl U cw)) j vw) (post_mems (m := (look0 [(0,2),(1502,1)])) (m' := (look0 [(1,1513),(2,0),(3,1512)])) (hm_of2 rfl) (fun E w' a' x h1 h=>⟨x,h1,⟨RwO.back_ h.1 (by decide) (.inl (Rep.fl_flat _)),RdO.back_ h.2.1 (by decide),BlkO.back_ h.2.2 (by decide)⟩⟩)))
    refine sc (fun own a wx K H U=>?_) ?_
    ·obtain ⟨⟨⟨⟨af,T⟩,⟨a6,aI⟩⟩,(c3 : a.eval (.tmp 47) = sl af j.1 T),jA,yF,y⟩,-⟩ := K
     exact px (or_mono (f := Fct.val 11 (sl af j.1 T)) (or_assign c3) (fun E a' w' v' hp h=>fun _ _ ag=>by cases (c3.symm.trans ((hp.2 47 (by decide)).symm.trans ag)); exact h))
    exact steps_nil
   intro js kT lj wT yf uG tR dH
   obtain ⟨pW,kn,ko,pX,pY,pZ,mC⟩ := kt7 uG kl pT c1 km pU pV em
   obtain ⟨⟨⟨⟨af,T⟩,⟨a6,aI⟩⟩,(c3 : kT.eval (.tmp 47) = sl af j.1 T),(cA : RwO js 1512 [] lj 5 R5 af T j.1),(hO : RdO js [0] lj R5 a6 aI j.2.1),(cC : BlkO js 1513 lj b 70 #[sl a6 j.2.1 aI,Zi j.2.2])⟩,(rC : ∀ (af : Option Addr) (T : Nat),kT.eval (.tmp 47) = sl af j.1 T → kT.eval (.tmp 11) = sl af j.1 T),-⟩ := tR [1,2] rfl
   have en := rC _ _ c3
   have s6 := es_ lC dH
   obtain ⟨hQ,hP⟩ := be2 dH cz cx
   have cB := MpO.evo (by decide) dH hM
   have hN := re_ dH cv
   refine fl_seq (fun vR va zg=>?_)
   have mU : ∀ (aE : Act) (aZ : World) (aX : Own) (jv : Int),aE.defers = [] → aE.tmps.size = 146 → aE.eval (.tmp 4) = pt d 0 → aE.eval (.tmp 5) = .map (some aa) → aE.eval (.tmp 6) = pt b 0 → aE.eval (.tmp 7) = Zi 0 → aE.eval (.tmp 8) = Zi 0 → aE.eval (.tmp 9) = Zi G.1 → aE.eval (.tmp 10) = pt aU 0 → aE.eval (.tmp 11) = sl af j.1 T → Evo [] (fun _=>0) aX w aZ → BlkO aX 1498 aZ d 64 #[sl M C.1 D,.slice none 0 0,.slice none 0 0] → RwO aX 1496 [] aZ 5 R5 M D C.1 → MpO aX 1467 aZ aa vv9 vv4 ([] : List (ByteArray × Bool)) → BlkO aX 1521 aZ b 70 #[sl a6 j.2.1 aI,Zi jv] → RdO aX [0] aZ R5 a6 aI j.2.1 → BlkO aX 1475 aZ aU 28 #[Zi 0,Zi 0,Zi 0] → RwO aX 1512 [] aZ 5 R5 af T j.1 → pack_Open_k3 C G j jv = some r → vR .normal aE aZ := by
    intro aE aZ aX jv wU yg p0 kp p1 p2 p3 p4 mD eo sq hT hR hU hV hS hW cD o
    refine va _ _ ?_
    obtain ⟨kO,sd,o⟩ := obind o
    refine rr_seq 146 [Fct.mapAt 1467 aa vv9 vv4 ([] : List (ByteArray × Bool))] aX [1467] [0,0,2,7] [dv [] [5] 62 (.map (some aa)),dv [] [11] 63 (sl af j.1 T),dv [1] [] 64 (.string (bsS j.1)),⟨[0,2,4],[],[1467],Fct.mapAt 1526 aa vv9 vv4 kO⟩] yg wU (fm1 hU) ?_ ?_
    ·refine sM kp<|sM eo<|sFE (fun f U=>or_convBS tu22 tn5 tS9 f.1 (RwO.rd (re_ U cD))) ?_
     refine sc (fun own a wx K H U=>?_) ?_
     ·obtain ⟨q2,q3,jB,-⟩ := K
      exact px (or_mapUpdate (kf := vv9) (vf := vv4) (k := (bsS j.1)) (v := true) (lab := 1467) (lab2 := 1526) ko9 tm67 q2 q3 rfl jB (osome sd).symm (mem_of rfl) (by decide) (fun E a' w' hb=>hb))
     exact steps_nil
    intro rv Ah xH wV yh uH tS dj
    obtain ⟨d3,p5,p6,p7,p8,p9,mE,mF⟩ := kt8 uH p0 kp p1 p2 p3 p4 mD eo
    obtain ⟨(h2 : MpO rv 1526 xH aa vv9 vv4 kO),-⟩ := tS [3] rfl
    have s7 := es_ sq dj
    obtain ⟨h0,h3,h4⟩ := be3 dj hT hV hW
    have hX := re_ dj hR
    have hZ := RdO.evo rfl dj hS
    have hY := re_ dj cD
    obtain ⟨bj,vJ,o⟩ := obind o
    refine rr_seq 146 [Fct.rowAt 1512 [] 5 R5 af T j.1,Fct.at_ 1498 d 64 #[sl M C.1 D,.slice none 0 0,.slice none 0 0]] rv [1542,1543,1512,1498] [0,0,2,6,14,0,32,126,255,511,1023] [dv [] [4] 65 (pt d 0),dv [] [4] 66 (pt d 0),dv [1] [] 67 (pt d 0),dv [2] [] 68 (pt d 1),dv [3,12] [] 69 (.slice none 0 0),dv [] [11] 70 (sl af j.1 T),⟨[5,11],[],[],Fct.rown 1541 1512 [] 71 22 5 R5 [j.1]⟩,⟨[4,6],[],[1542,1543,1512],Fct.rown 1545 1546 [] 72 22 5 R5 bj⟩,dv [0] [] 73 (pt d 0),dv [8] [] 74 (pt d 1),⟨[9,7,12],[],[1498],Fct.by_ [1548] [72] (fun l own w=>∀ (aO : Option Addr) (aw : Nat),l.getD 0 undef = sl aO bj aw → BlkO own 1548 w d 64 #[sl M C.1 D,sl aO bj aw,.slice none 0 0]) (fun hk he h _ _ ag=>BlkO.evo (not_hit hk (by decide)) he (h _ _ ag))⟩] yh wV (fm2 hY h0) ?_ ?_
    ·refine sM d3<|sM d3<|sF (fun f=>ok1 f.1)<|sF (fun f=>or_field fo64_1 f.1 (by rfl)) ?_
     refine sc (fun own a wx K H U=>?_) ?_
     ·obtain ⟨q4,(ap : BlkO own 1498 wx d 64 #[sl M C.1 D,.slice none 0 0,.slice none 0 0]),-⟩ := K
      exact px (ld1 to61 q4 ap)
     refine sM mF ?_
     refine sc (fun own a wx K H U=>?_) ?_
     ·obtain ⟨q6,jA,-⟩ := K
      exact px (or_litO (R := R5) (lab := 1541) (labE := 1512) (L := []) (e := 22) (e2 := 5) (xl := j.1) [(70,sl af j.1 T)] rfl rfl ⟨q6,trivial⟩ (by kernel_rfl) rfl jA rfl)
     refine sc (fun own a wx K H U=>?_) ?_
     ·obtain ⟨(q5 : a.eval (.tmp 69) = .slice none 0 0),⟨⟨zp,yX⟩,q7,m7⟩,-⟩ := K
      exact px (or_appendO (R := R5) (lab := 1542) (labE := 1543) (lab2 := 1545) (lab3 := 1546) (L := []) (L3 := []) tp61 q5 RwN.nil_ q7 m7 vJ (by decide) (by decide) (mem_of rfl) (mem_of rfl) (mem_of rfl) (by decide) (by decide) (by decide) (by decide) (by decide) (by decide) (by decide) rfl (by decide) (by decide))
     refine sF (fun f=>ok1 f.1)<|sF (fun f=>or_field fo64_1 f.1 (by rfl)) ?_
     refine sc (fun own a wx K H U=>?_) ?_
     ·obtain ⟨q8,⟨⟨aO,aw⟩,(c4 : a.eval (.tmp 72) = sl aO bj aw),yG⟩,ap,-⟩ := K
      exact px (or_store1 (lab := 1498) (lab2 := 1548) ts61 q8 c4 ap (by simp) rfl (mem_of rfl) (by decide) rfl (fun E a' w' ha hb=>fun _ _ ag=>by cases (c4.symm.trans ((ha 72).symm.trans ag)); exact hb))
     exact steps_nil
    intro lb m0 rL wW yi uI tT dk
    obtain ⟨qa,qb,qc,qd,qe,qf,mG⟩ := kt7 uI d3 p5 p6 p7 p8 p9 mE
    obtain ⟨⟨⟨aO,aw⟩,(c4 : m0.eval (.tmp 72) = sl aO bj aw),(h7 : RwN lb 1545 1546 [] rL 22 5 R5 aO aw bj)⟩,(a2 : ∀ (aO : Option Addr) (aw : Nat),m0.eval (.tmp 72) = sl aO bj aw → BlkO lb 1548 rL d 64 #[sl M C.1 D,sl aO bj aw,.slice none 0 0]),-⟩ := tT [7,10] rfl
    have h8 := a2 _ _ c4
    have s8 := es_ s7 dk
    obtain ⟨ia,ib⟩ := be2 dk h3 h4
    have h5 := re_ dk hX
    have h6 := RdO.evo rfl dk hZ
    have h9 := MpO.evo (by decide) dk h2
    refine rq_seq 146 lb (bz 3) [dv [] [8] 75 (Zi 0),dv [0] [] 76 (Zi 1),dv [1] [] 8 (Zi 1)] yi wW ?_ ?_
    ·exact sM qe<|sF (fun f=>or_add f.1 rfl (by decide))<|sA<|steps_nil
    intro xu Ai A3 wX yj uJ tU bJ
    obtain ⟨qg,qh,qi,qj,ql,mH⟩ := kt6 uJ qa qb qc qd qf mG
    have qk := gv (tU [2] rfl) rfl
    have s9 := es_ s8 bJ
    obtain ⟨ii,ij,ig⟩ := be3 bJ ia ib h8
    have ic := re_ bJ h5
    have id := RdO.evo rfl bJ h6
    have ih := MpO.evo (by decide) bJ h9
    have ie := RwN.evo rfl bJ h7
    refine fl_goto ?_
    refine vl _ _ _ rfl ?_
    exact lY (Sum.inl (C.1,bj,kO,j.2.1,jv,1,G.1)) _ _ (show loopO _ _ = _ from o) ⟨(rl [(1475,820),(1496,841),(1521,1138),(1526,1135),(1545,1132),(1546,1133),(1548,1125)] xu),d,M,D,aO,aw,aa,b,a6,aI,aU,wX,yj,qg,qh,qi,qj,qk,ql,mH,(Evo.rl_ s9 (fun _=>Nat.le_refl 0) rfl),(BlkO.rl_ ig),(RwO.rl_ ic),(RwN.rl_ ie),(MpO.rl_ ih),(BlkO.rl_ ii),(RdO.rl_ id),(BlkO.rl_ ij)⟩
   obtain ⟨rQ,vK,o⟩ := obind o
   refine rq_seq 146 js [0,1,3,7,15,31,63,63,191,511,1023] [dv [] [6] 48 (pt b 0),dv [0] [] 49 (pt b 0),dv [1] [] 50 (pt b 1),dv [2] [] 51 (Zi j.2.2),dv [3] [] 52 (.bool (decide (j.2.2 = 0))),dv [4] [] 53 (.bool (decide (j.2.2 = 0))),dc [5] [5] (decide (j.2.2 = 0)) 54 (.map (some aa)),dc [5] [11] (decide (j.2.2 = 0)) 55 (sl af j.1 T),dc [5,7] [] (decide (j.2.2 = 0)) 56 (.string (bsS j.1)),dc [5,6,8] [] (decide (j.2.2 = 0)) 57 (.bool rQ),dv [5,9] [] 58 (.bool ((decide (j.2.2 = 0)) && rQ))] yf wT ?_ ?_
   ·exact sM ko<|sF (fun f=>ok1 f.1)<|sF (fun f=>or_field fo70_1 f.1 (by rfl))<|sG to31 cC<|sF (fun f=>or_eql f.1 rfl rfl)<|sV<|cT (fun _ s _ _=>or_move (s.1.trans kn))<|cT (fun _ s _ _=>or_move (s.1.trans en))<|cT (fun f _ U hg=>or_convBS tu22 tn5 tS9 (f.2.1.1 hg) (RwO.rd (re_ U cA)))<|cT (fun f _ U hg=>or_lookupE (kf := vv9) (vf := vv4) (k := (bsS j.1)) (dv := false) ko9 tm67 tzv67 (f.2.1.1 hg) (f.2.2.1.1 hg) (MpO.evo (by decide) U cB) (osome vK).symm)<|sF (fun f=>or_and f.1 (fun hx=>f.2.1.1 hx) rfl rfl)<|steps_nil
   intro rx Aj A4 nm r3 uK tV bK
   obtain ⟨kq,kr,d4,ks,ku,kv,ep,eq⟩ := kt8 uK pW kn ko pX pY pZ mC en
   have mI := gv (tV [10] rfl) rfl
   have lD := es_ s6 bK
   obtain ⟨cK,cH,cJ⟩ := be3 bK hQ hP cC
   have cI := MpO.evo (by decide) bK cB
   have cE := re_ bK hN
   have cF := re_ bK cA
   have cG := RdO.evo rfl bK hO
   refine fl_cond mI o (fun we o=>?_) (fun we o=>?_)
   ·refine rr 146 [Fct.at_ 1513 b 70 #[sl a6 j.2.1 aI,Zi j.2.2]] rx [1513] (bz 4) [dv [] [6] 59 (pt b 0),dv [0] [] 60 (pt b 0),dv [1] [] 61 (pt b 1),⟨[2,4],[],[1513],Fct.at_ 1554 b 70 #[sl a6 j.2.1 aI,Zi 8]⟩] r3 nm (fm1 cJ) ?_ ?_
    ·refine sM d4<|sF (fun f=>ok1 f.1)<|sF (fun f=>or_field fo70_1 f.1 (by rfl)) ?_
     refine sc (fun own a wx K H U=>?_) ?_
     ·obtain ⟨q1,y,-⟩ := K
      exact px (or_store1 (lab := 1513) (lab2 := 1554) ts31 q1 rfl y (by simp) rfl (mem_of rfl) (by decide) rfl (fun E a' w' ha hb=>hb))
     exact steps_nil
    intro ry Ak xI wY yk uL tW bL
    obtain ⟨qm,qn,qo,qp,qq,qr,mJ,mK⟩ := kt8 uL kq kr d4 ks ku kv ep eq
    obtain ⟨(iq : BlkO ry 1554 xI b 70 #[sl a6 j.2.1 aI,Zi 8]),-⟩ := tW [3] rfl
    have ta := es_ lD bL
    obtain ⟨ir,io⟩ := be2 bL cK cH
    have ip := MpO.evo (by decide) bL cI
    have ik := re_ bL cE
    have il := re_ bL cF
    have im := RdO.evo rfl bL cG
    exact (mU _ _ (rl [(1554,1521)] ry) _ wY yk qm qn qo qp qq qr mJ mK (Evo.rl_ ta (fun _=>Nat.le_refl 0) rfl) (BlkO.rl_ io) (RwO.rl_ ik) (MpO.rl_ ip) (BlkO.rl_ iq) (RdO.rl_ im) (BlkO.rl_ ir) (RwO.rl_ il) o)
   refine fl_skip ?_
   exact (mU _ _ (rl [(1513,1521)] rx) _ nm r3 kq kr d4 ks ku kv ep eq (Evo.rl_ lD (fun _=>Nat.le_refl 0) rfl) (BlkO.rl_ cH) (RwO.rl_ cE) (MpO.rl_ cI) (BlkO.rl_ cJ) (RdO.rl_ cG) (BlkO.rl_ cK) (RwO.rl_ cF) o)
  refine fl_skip ?_
  refine u9 _ _ ?_
  obtain ⟨B,vx,o⟩ := obind o
  refine rr_seq 146 [Fct.at_ 1502 b 70 #[sl bN G.2.1 bb,Zi G.2.2]] ru [1502] (bz 4) [dv [] [6] 77 (pt b 0),⟨[0,4],[],[1502],Fct.mems [0,1558] 78 (fun (x : Option Addr × Nat)=>Zi B.1) (fun (x : Option Addr × Nat) own w=>RdO own [0] w R5 x.1 x.2 B.2.1 ∧ BlkO own 1558 w b 70 #[.slice x.1 B.2.1.length x.2,Zi B.2.2]) (fun hk he h=>⟨RdO.evo (hits_sub hk (by decide)) he h.1,BlkO.evo (not_hit hk (by decide)) he h.2⟩)⟩,dv [] [] 8 (Zi 0),dv [1] [] 9 (Zi B.1)] r2 nl (fm1 cy) ?_ ?_
  ·refine sM c1 ?_
   refine sc (fun own a wx K H U=>?_) ?_
   ·obtain ⟨q9,y,-⟩ := K
    exact px (or_call cf29 (args1 q9) (pack_reader_count_w _ (forth own (look0 [(0,2),(1502,1)])) G.2 b 70 bN bb (look0_le rfl) (BlkO.forth_ (m := (look0 [(0,2),(1502,1)])) y) (RdO.forth_ (m := (look0 [(0,2),(1502,1)])) (RdO.evo rfl U cw)) B vx) (post_mems (m := (look0 [(0,2),(1502,1)])) (m' := (look0 [(1,1558),(2,0)])) (hm_of2 rfl) (fun E w' a' x h1 h=>⟨x,h1,⟨RdO.back_ h.1 (by decide),BlkO.back_ h.2 (by decide)⟩⟩)))
   refine sO (or_assign rfl) ?_
   refine sc (fun own a wx K H U=>?_) ?_
   ·obtain ⟨⟨⟨dq,bx⟩,kH,yH,y⟩,-⟩ := K
    exact px (or_assign kH)
   exact steps_nil
  intro lc vZ rM wZ yl uM jk jd
  obtain ⟨qs,kw,qt,mL⟩ := kt4 uM kl c1 km em
  have kx := gv (jk [2] rfl) rfl
  have ky := gv (jk [3] rfl) rfl
  obtain ⟨⟨⟨dq,bx⟩,(kH : vZ.eval (.tmp 78) = Zi B.1),(iu : RdO lc [0] rM R5 dq bx B.2.1),(cL : BlkO lc 1558 rM b 70 #[sl dq B.2.1 bx,Zi B.2.2])⟩,-⟩ := jk [1] rfl
  have tb := es_ lC jd
  obtain ⟨iw,iv⟩ := be2 jd cz cx
  have it := re_ jd cv
  refine fl_seq (fun zH vb zh=>?_)
  refine fl_label ?_
  refine vb _ _ ?_
  refine fl_seq (fun zI vc vm=>?_)
  obtain ⟨xN,vL,o⟩ := obind o
  refine rq_seq 146 lc [0,0,3,7,15,31,63,127,255,511] [dv [] [8] 79 (Zi 0),dv [] [9] 80 (Zi B.1),dv [0,1] [] 81 (.bool (decide (0 < B.1))),dv [2] [] 82 (.bool (decide (0 < B.1))),dc [3] [6] (decide (0 < B.1)) 83 (pt b 0),dc [3,4] [] (decide (0 < B.1)) 84 (pt b 0),dc [3,5] [] (decide (0 < B.1)) 85 (pt b 1),dc [3,6] [] (decide (0 < B.1)) 86 (Zi B.2.2),dc [3,7] [] (decide (0 < B.1)) 87 (.bool (decide (B.2.2 = 0))),dv [3,8] [] 88 (.bool xN)] yl wZ ?_ ?_
  ·exact sM kx<|sM ky<|sF (fun f=>or_lss f.1 f.2.1 rfl)<|sV<|cT (fun _ s _ _=>or_move (s.1.trans kw))<|cT (fun f _ _ hg=>ok1 (f.2.1.1 hg))<|cT (fun f _ _ hg=>or_field fo70_1 (f.2.1.1 hg) (by rfl))<|cT (fun f _ U hg=>ld1 to31 (f.2.1.1 hg) (be_ U cL))<|cT (fun f _ _ hg=>or_eql (f.2.1.1 hg) rfl rfl)<|sF (fun f=>or_and f.1 (fun hx=>f.2.1.1 hx) rfl (osome vL).symm)<|steps_nil
  intro rz Al A5 nn r4 uN tX dI
  obtain ⟨kz,c2,kA,kB,qu,dw⟩ := kt6 uN qs kw qt kx ky mL
  have mM := gv (tX [9] rfl) rfl
  have lE := es_ tb dI
  obtain ⟨ix,cO,a9⟩ := be3 dI iw iv cL
  have cM := re_ dI it
  have cN := RdO.evo rfl dI iu
  refine fl_cond mM o (fun wf o=>?_) (fun wf o=>?_)
  ·obtain ⟨u,vy,o⟩ := obind o
   refine rr_seq 146 [Fct.at_ 1558 b 70 #[sl dq B.2.1 bx,Zi B.2.2],Fct.at_ 1475 aU 28 #[Zi 0,Zi 0,Zi 0]] rz [1558,1475] [0,0,0,4,15,31] [dv [] [6] 89 (pt b 0),dv [7] [10] 90 (.agg #[Zi 0,Zi 0,Zi 0]),dv [] [8] 91 (Zi 0),dv [2] [] 92 (.bool true),⟨[0,1,3,6],[],[1558],Fct.mems [0,1570] 93 (fun (x : Option Addr × Nat)=>.agg #[Zi u.1.1,Zi u.1.2.1,Zi u.1.2.2]) (fun (x : Option Addr × Nat) own w=>RdO own [0] w R5 x.1 x.2 u.2.1 ∧ BlkO own 1570 w b 70 #[.slice x.1 u.2.1.length x.2,Zi u.2.2]) (fun hk he h=>⟨RdO.evo (hits_sub hk (by decide)) he h.1,BlkO.evo (not_hit hk (by decide)) he h.2⟩)⟩,⟨[4,7],[10],[1475],Fct.at_ 1571 aU 28 #[Zi u.1.1,Zi u.1.2.1,Zi u.1.2.2]⟩] r4 nn (fm2 a9 ix) ?_ ?_
   ·refine sM c2 ?_
    refine sc (fun own a wx K H U=>?_) ?_
    ·obtain ⟨(bp : BlkO own 1475 wx aU 28 #[Zi 0,Zi 0,Zi 0]),-⟩ := K
     obtain ⟨bv,-⟩ := H
     exact px (ldS ta28 (bv.trans dw) bp)
    refine sM kB<|sF (fun f=>or_eql f.1 rfl (by decide)) ?_
    refine sc (fun own a wx K H U=>?_) ?_
    ·obtain ⟨kI,kJ,kK,y,-⟩ := K
     exact px (or_call cf30 (args3 kI kJ kK) (pack_reader_tile_w _ (forth own (look0 [(0,2),(1558,1)])) B.2 b 70 dq bx (0,0,0) true (look0_le rfl) (BlkO.forth_ (m := (look0 [(0,2),(1558,1)])) y) (RdO.forth_ (m := (look0 [(0,2),(1558,1)])) (RdO.evo rfl U cN)) u vy) (post_mems (m := (look0 [(0,2),(1558,1)])) (m' := (look0 [(1,1570),(2,0)])) (hm_of2 rfl) (fun E w' a' x h1 h=>⟨x,h1,⟨RdO.back_ h.1 (by decide),BlkO.back_ h.2 (by decide)⟩⟩)))
    refine sc (fun own a wx K H U=>?_) ?_
    ·obtain ⟨⟨⟨dU,cX⟩,dx,yI,y⟩,bp,-⟩ := K
     obtain ⟨bv,-⟩ := H
     exact px (or_store (l := #[Zi u.1.1,Zi u.1.2.1,Zi u.1.2.2]) (lab := 1475) (lab2 := 1571) ts28 (bv.trans dw) dx bp (by simp) (by kernel_rfl) (mem_of rfl) (by decide) (by kernel_rfl) (fun E a' w' ha hb=>hb))
    exact steps_nil
   intro jt v0 lk w0 ym uO tY je
   obtain ⟨kC,kD,kE,qv,qw,mN⟩ := kt6 uO kz c2 kA kB qu dw
   obtain ⟨⟨⟨dU,cX⟩,(dx : v0.eval (.tmp 93) = .agg #[Zi u.1.1,Zi u.1.2.1,Zi u.1.2.2]),(iz : RdO jt [0] lk R5 dU cX u.2.1),(iA : BlkO jt 1570 lk b 70 #[sl dU u.2.1 cX,Zi u.2.2])⟩,(iB : BlkO jt 1571 lk aU 28 #[Zi u.1.1,Zi u.1.2.1,Zi u.1.2.2]),-⟩ := tY [4,5] rfl
   have tc := es_ lE je
   have cP := be_ je cO
   have iy := re_ je cM
   obtain ⟨Y,vz,o⟩ := obind o
   refine rr_seq 146 [Fct.at_ 1570 b 70 #[sl dU u.2.1 cX,Zi u.2.2]] jt [1570] [0,0,2,6,14,30,0,127,255] [dv [] [6] 94 (pt b 0),dv [] [4] 95 (pt d 0),dv [1] [] 96 (pt d 0),dv [2] [] 97 (pt d 1),dv [3] [] 98 (.slice none 0 0),dv [4] [] 99 (Zi 0),dv [] [7] 100 (Zi 0),⟨[0,5,6,9],[],[1570],Fct.mems [0,1575] 101 (fun (x : Option Addr × Nat)=>Zi Y.1) (fun (x : Option Addr × Nat) own w=>RdO own [0] w R5 x.1 x.2 Y.2.1 ∧ BlkO own 1575 w b 70 #[.slice x.1 Y.2.1.length x.2,Zi Y.2.2]) (fun hk he h=>⟨RdO.evo (hits_sub hk (by decide)) he h.1,BlkO.evo (not_hit hk (by decide)) he h.2⟩)⟩,dv [7] [] 12 (Zi Y.1)] ym w0 (fm1 iA) ?_ ?_
   ·refine sM kD<|sM kC<|sF (fun f=>ok1 f.1)<|sF (fun f=>or_field fo64_1 f.1 (by rfl))<|sG to61 cP<|sF (fun f=>or_len tu61 f.1 rfl)<|sM kE ?_
    refine sc (fun own a wx K H U=>?_) ?_
    ·obtain ⟨kL,kM,d6,y,-⟩ := K
     exact px (or_call cf31 (args3 kL kM d6) (pack_reader_blob_w _ (forth own (look0 [(0,2),(1570,1)])) u.2 b 70 dU cX 0 0 (look0_le rfl) (BlkO.forth_ (m := (look0 [(0,2),(1570,1)])) y) (RdO.forth_ (m := (look0 [(0,2),(1570,1)])) (RdO.evo rfl U iz)) Y vz) (post_mems (m := (look0 [(0,2),(1570,1)])) (m' := (look0 [(1,1575),(2,0)])) (hm_of2 rfl) (fun E w' a' x h1 h=>⟨x,h1,⟨RdO.back_ h.1 (by decide),BlkO.back_ h.2 (by decide)⟩⟩)))
    refine sc (fun own a wx K H U=>?_) ?_
    ·obtain ⟨⟨⟨ew,dA⟩,br,yJ,y⟩,-⟩ := K
     exact px (or_assign br)
    exact steps_nil
   intro ld v1 rN w1 yn uP lU jf
   obtain ⟨qx,qy,qz,qA,qB,mO⟩ := kt6 uP kC kD kE qv qw mN
   have er := gv (lU [8] rfl) rfl
   obtain ⟨⟨⟨ew,dA⟩,(br : v1.eval (.tmp 101) = Zi Y.1),(iD : RdO ld [0] rN R5 ew dA Y.2.1),(iF : BlkO ld 1575 rN b 70 #[sl ew Y.2.1 dA,Zi Y.2.2])⟩,-⟩ := lU [7] rfl
   have td := es_ tc jf
   obtain ⟨iE,iG⟩ := be2 jf cP iB
   have iC := re_ jf iy
   refine rq_seq 146 ld [0,0,2,7,15] [dv [] [7] 102 (Zi 0),dv [] [12] 103 (Zi Y.1),dv [1] [] 104 (Zi (ad Y.1 1)),dv [0,2] [] 105 (Zi (mx 0 (ad Y.1 1))),dv [3] [] 7 (Zi (mx 0 (ad Y.1 1)))] yn w1 ?_ ?_
   ·exact sM qz<|sM er<|sF (fun f=>or_add f.1 rfl rfl)<|sF (fun f=>or_max f.1 f.2.1)<|sA<|steps_nil
   intro xv Am A6 w2 yo uQ tZ dJ
   obtain ⟨d5,qC,qE,qF,es,mP⟩ := kt6 uQ qx qy qA qB mO er
   have qD := gv (tZ [4] rfl) rfl
   have te := es_ td dJ
   obtain ⟨iJ,cQ,iK⟩ := be3 dJ iE iG iF
   have iH := re_ dJ iC
   have iI := RdO.evo rfl dJ iD
   obtain ⟨bk,vM,o⟩ := obind o
   refine rd_seq g_mixed 146 [Fct.at_ 1498 d 64 #[sl M C.1 D,.slice none 0 0,.slice none 0 0]] xv [1586,1498] [0,0,2,6,14,0,0,96,224,510,1023,2047,4095] [dv [] [4] 106 (pt d 0),dv [] [4] 107 (pt d 0),dv [1] [] 108 (pt d 0),dv [2] [] 109 (pt d 2),dv [3,13] [] 110 (.slice none 0 0),dv [] [10] 111 (.agg #[Zi u.1.1,Zi u.1.2.1,Zi u.1.2.2]),dv [] [12] 112 (Zi Y.1),dv [5,6] [] 113 (.agg #[Zi u.1.1,Zi u.1.2.1,Zi u.1.2.2,Zi Y.1]),⟨[7],[],[],Fct.row 1585 [] 114 66 R66 [(u.1,Y.1)]⟩,⟨[4,8],[],[1586],Fct.row 1588 [] 115 66 R66 bk⟩,dv [0] [] 116 (pt d 0),dv [10] [] 117 (pt d 2),⟨[11,9,13],[],[1498],Fct.by_ [1590] [115] (fun l own w=>∀ (aP : Option Addr) (ax : Nat),l.getD 0 undef = sl aP bk ax → BlkO own 1590 w d 64 #[sl M C.1 D,.slice none 0 0,sl aP bk ax]) (fun hk he h _ _ ag=>BlkO.evo (not_hit hk (by decide)) he (h _ _ ag))⟩] yo w2 (fm1 iJ) ?_ ?_
   ·refine sM d5<|sM d5<|sF (fun f=>ok1 f.1)<|sF (fun f=>or_field fo64_2 f.1 (by rfl)) ?_
    refine sc (fun own a wx K H U=>?_) ?_
    ·obtain ⟨d7,(ap : BlkO own 1498 wx d 64 #[sl M C.1 D,.slice none 0 0,.slice none 0 0]),-⟩ := K
     exact px (ld1 to62 d7 ap)
    refine sL ta28 es cQ<|sM mP<|sF (fun f=>ok2 f.1 f.2.1)<|sF (fun f=>or_lit (lab := 1585) (e := 66) (cs := #[Zi u.1.1,Zi u.1.2.1,Zi u.1.2.2,Zi Y.1]) (F := E66) (nw1 f.1) rfl rfl (show 1 ≤ maxLen by decide)) ?_
    refine sc (fun own a wx K H U=>?_) ?_
    ·obtain ⟨(d8 : a.eval (.tmp 110) = .slice none 0 0),⟨⟨zq,yY⟩,d9,m8⟩,-⟩ := K
     exact px (or_append (R := R66) (lab := 1586) (lab2 := 1588) (L := []) (L3 := []) tp62 d8 RwO.nil_ (by decide) d9 (RwO.rd m8) vM (by decide) (by decide) (mem_of rfl) (.inl (Rep.fl_flat _)))
    refine sF (fun f=>ok1 f.1)<|sF (fun f=>or_field fo64_2 f.1 (by rfl)) ?_
    refine sc (fun own a wx K H U=>?_) ?_
    ·obtain ⟨ea,⟨⟨aP,ax⟩,(ay : a.eval (.tmp 115) = sl aP bk ax),yK⟩,ap,-⟩ := K
     exact px (or_store1 (lab := 1498) (lab2 := 1590) ts62 ea ay ap (by simp) rfl (mem_of rfl) (by decide) rfl (fun E a' w' ha hb=>fun _ _ ag=>by cases (ay.symm.trans ((ha 115).symm.trans ag)); exact hb))
    exact steps_nil
   intro le m1 rO w3 yp uR t0 dK
   obtain ⟨qG,qH,qI,qJ,qK,mQ⟩ := kt6 uR d5 qC qD qE qF es
   obtain ⟨⟨⟨aP,ax⟩,(ay : m1.eval (.tmp 115) = sl aP bk ax),(iN : RwO le 1588 [] rO 66 R66 aP ax bk)⟩,(a2 : ∀ (aP : Option Addr) (ax : Nat),m1.eval (.tmp 115) = sl aP bk ax → BlkO le 1590 rO d 64 #[sl M C.1 D,.slice none 0 0,sl aP bk ax]),-⟩ := t0 [9,12] rfl
   have iO := a2 _ _ ay
   have tf := es_ te dK
   obtain ⟨iQ,iP⟩ := be2 dK cQ iK
   have iL := re_ dK iH
   have iM := RdO.evo rfl dK iI
   refine rq_seq 146 le (bz 3) [dv [] [8] 118 (Zi 0),dv [0] [] 119 (Zi 1),dv [1] [] 8 (Zi 1)] yp w3 ?_ ?_
   ·exact sM qJ<|sF (fun f=>or_add f.1 rfl (by decide))<|sA<|steps_nil
   intro xw An A7 w4 yq uS t1 dl
   obtain ⟨qL,qM,qN,qP,mR⟩ := kt5 uS qG qH qI qK mQ
   have qO := gv (t1 [2] rfl) rfl
   have tg := es_ tf dl
   obtain ⟨iW,iV,iU⟩ := be3 dl iQ iP iO
   have iR := re_ dl iL
   have iS := RdO.evo rfl dl iM
   have iT := re_ dl iN
   refine fl_goto ?_
   refine vm _ _ _ rfl ?_
   exact lY (Sum.inr (C.1,([] : List (List Int)),bk,Y.2.1,Y.2.2,mx 0 (ad Y.1 1),1,B.1,u.1)) _ _ (show loopO _ _ = _ from o) ⟨(rl [(1496,841),(1571,1170),(1575,1161),(1588,1159),(1590,1147)] xw),d,M,D,none,0,aP,ax,b,ew,dA,aU,w4,yq,qL,qM,qN,qO,qP,mR,(Evo.rl_ tg (fun _=>Nat.le_refl 0) rfl),(BlkO.rl_ iU),(RwO.rl_ iR),RwN.nil_,(RwO.rl_ iT),(BlkO.rl_ iV),(RdO.rl_ iS),(BlkO.rl_ iW)⟩
  refine fl_skip ?_
  refine vc _ _ ?_
  refine fl_seq (fun zJ vd l0=>?_)
  refine fl_block (fun zK ve zk l1=>?_)
  refine rq_seq 146 rz (bz 6) [dv [] [6] 121 (pt b 0),dv [0] [] 122 (pt b 0),dv [1] [] 123 (pt b 1),dv [2] [] 124 (Zi B.2.2),dv [3] [] 125 (.bool (!decide (B.2.2 = 0))),dv [4] [] 120 (.bool (!decide (B.2.2 = 0)))] r4 nn ?_ ?_
  ·exact sM c2<|sF (fun f=>ok1 f.1)<|sF (fun f=>or_field fo70_1 f.1 (by rfl))<|sG to31 a9<|sF (fun f=>or_neq f.1 rfl rfl)<|sA<|steps_nil
  intro rA Ao A8 np r5 uT t2 dL
  obtain ⟨kF,kG,qQ⟩ := kt3 uT kz c2 kA
  have k0 := gv (t2 [5] rfl) rfl
  have lF := es_ lE dL
  obtain ⟨cR,cS⟩ := be2 dL cO a9
  have iX := re_ dL cM
  have iY := RdO.evo rfl dL cN
  refine fl_cond k0 o (fun wg o=>?_) (fun wg o=>?_)
  ·refine rd_seq g_mixed 146 [] rA [] [0,1,3,7,0,31] [dv [] [6] 126 (pt b 0),dv [0] [] 127 (pt b 0),dv [1] [] 128 (pt b 1),dv [2] [] 129 (Zi B.2.2),dv [] [] 2 (.pointer none),dv [3] [] 3 (Zi B.2.2)] r5 np nm_ ?_ ?_
   ·exact sM kG<|sF (fun f=>ok1 f.1)<|sF (fun f=>or_field fo70_1 f.1 (by rfl))<|sG to31 cS<|sO (or_assign rfl)<|sA<|steps_nil
   intro xx Ap A9 w5 Bn y8 lV sr
   have qR := gv (lV [4] rfl) rfl
   have qS := gv (lV [5] rfl) rfl
   have th := es_ lF sr
   refine fl_ret ?_
   refine l1 _ _ _ rfl ?_
   refine l0 _ _ _ rfl ?_
   refine dN.leaves _ _ _ rfl ?_
   obtain rfl := osome o
   exact bl _ _ _ _ (.inl rfl) w5 (results2_ rfl (RVal.tmp_ qR) (RVal.tmp_ qS)) ⟨xx,rfl,th⟩
  refine rq_seq 146 rA [0,0,2,6,14,30,63,127] [dv [] [7] 131 (Zi 0),dv [] [4] 132 (pt d 0),dv [1] [] 133 (pt d 0),dv [2] [] 134 (pt d 1),dv [3] [] 135 (.slice none 0 0),dv [4] [] 136 (Zi 0),dv [0,5] [] 137 (.bool false),dv [6] [] 130 (.bool false)] r5 np ?_ ?_
  ·exact sM qQ<|sM kF<|sF (fun f=>ok1 f.1)<|sF (fun f=>or_field fo64_1 f.1 (by rfl))<|sG to61 cR<|sF (fun f=>or_len tu61 f.1 rfl)<|sF (fun f=>or_lss f.1 f.2.1 (by decide))<|sA<|steps_nil
  intro xy Aq Ba w6 yr uU t3 dM
  obtain ⟨qT,qU⟩ := kt2 uU kF kG
  have k1 := gv (t3 [7] rfl) rfl
  have ti := es_ lF dM
  obtain ⟨i0,i1⟩ := be2 dM cR cS
  have iZ := re_ dM iX
  have r9 := RdO.evo rfl dM iY
  refine fl_f k1 ?_
  refine rq_seq 146 xy (bz 7) [dv [] [6] 139 (pt b 0),dv [0] [] 140 (pt b 0),dv [1] [] 141 (pt b 0),dv [2] [] 142 (sl dq B.2.1 bx),dv [3] [] 143 (Zi (B.2.1.length : Int)),dv [4] [] 144 (.bool (decide (0 < (B.2.1.length : Int)))),dv [5] [] 138 (.bool (decide (0 < (B.2.1.length : Int))))] yr w6 ?_ ?_
  ·exact sM qU<|sF (fun f=>ok1 f.1)<|sF (fun f=>or_field fo70_0 f.1 (by rfl))<|sG to22 i1<|sF (fun f=>or_len tu22 f.1 rfl)<|sF (fun f=>or_gtr f.1 rfl rfl)<|sA<|steps_nil
  intro rB Ar Bb nq r6 uV t4 jg
  have qV := kt uV qT
  have k2 := gv (t4 [6] rfl) rfl
  have lG := es_ ti jg
  have i3 := be_ jg i0
  have i2 := re_ jg iZ
  refine fl_cond k2 o (fun wh o=>?_) (fun wh o=>?_)
  ·refine rq_seq 146 rB (bz 2) [dv [] [] 2 (.pointer none),dv [] [] 3 (Zi 3)] r6 nq ?_ ?_
   ·exact sO (or_assign rfl)<|sO (or_assign rfl)<|steps_nil
   intro xz As Bc w7 Bo y9 lW ss
   have qW := gv (lW [0] rfl) rfl
   have qX := gv (lW [1] rfl) rfl
   have tj := es_ lG ss
   refine fl_ret ?_
   refine l1 _ _ _ rfl ?_
   refine l0 _ _ _ rfl ?_
   refine dN.leaves _ _ _ rfl ?_
   obtain rfl := osome o
   exact bl _ _ _ _ (.inl rfl) w7 (results2_ rfl (RVal.tmp_ qW) (RVal.tmp_ qX)) ⟨xz,rfl,tj⟩
  refine fl_skip ?_
  refine ve _ _ ?_
  refine vd _ _ ?_
  refine rq_seq 146 rB (bz 3) [dv [] [4] 145 (pt d 0),dv [0] [] 2 (pt d 0),dv [] [] 3 (Zi 0)] r6 nq ?_ ?_
  ·exact sM qV<|sA<|sO (or_assign rfl)<|steps_nil
  intro xA At Bd w8 Bp za lX jh
  have qY := gv (lX [1] rfl) rfl
  have qZ := gv (lX [2] rfl) rfl
  have tk := es_ lG jh
  have i5 := be_ jh i3
  have i4 := re_ jh i2
  refine fl_ret ?_
  refine dN.leaves _ _ _ rfl ?_
  obtain rfl := osome o
  exact bl _ _ _ _ (.inl rfl) w8 (results2_ rfl (RVal.tmp_ qY) (RVal.tmp_ qZ)) ⟨(rl [(1496,2),(1498,1)] xA),((none,d),(M,D),(none,0),(none,0)),rfl,(Evo.rl_ tk (fun _=>Nat.le_refl 0) rfl),(RwO.rl_ i4),RwO.nil_,RwO.nil_,(BlkO.rl_ i5)⟩
 ·rintro (⟨al,O,a3,bu,bf,ak,az⟩ | ⟨be,ao,bt,aY,aG,V,ah,aF,I⟩)
  ·rintro dQ zL AA ⟨xc,p,am,an,ai,aj,aS,c,bM,bP,aT,wi,xO,nr,ns,jC,nt,jD,jE,l5,se,eB,ey,ez,eC,bQ,eA,eD⟩ o zs lZ dO jx
   have o : pack_Open_b1_0 al O a3 bu bf ak az = some dQ := o
   conv=>arg 4; whnf
   refine fl_seq (fun zt uW zb=>?_)
   refine fl_skip ?_
   refine uW _ _ ?_
   refine fl_seq (fun zu uX vh=>?_)
   obtain ⟨xJ,vA,o⟩ := obind o
   refine rq_seq 146 xc [0,0,3,7,15,31,63,127,255,511] [dv [] [8] 36 (Zi ak),dv [] [9] 37 (Zi az),dv [0,1] [] 38 (.bool (decide (ak < az))),dv [2] [] 39 (.bool (decide (ak < az))),dc [3] [6] (decide (ak < az)) 40 (pt c 0),dc [3,4] [] (decide (ak < az)) 41 (pt c 0),dc [3,5] [] (decide (ak < az)) 42 (pt c 1),dc [3,6] [] (decide (ak < az)) 43 (Zi bf),dc [3,7] [] (decide (ak < az)) 44 (.bool (decide (bf = 0))),dv [3,8] [] 45 (.bool xJ)] xO wi ?_ ?_
   ·exact sM jD<|sM jE<|sF (fun f=>or_lss f.1 f.2.1 rfl)<|sV<|cT (fun _ s _ _=>or_move (s.1.trans jC))<|cT (fun f _ _ hg=>ok1 (f.2.1.1 hg))<|cT (fun f _ _ hg=>or_field fo70_1 (f.2.1.1 hg) (by rfl))<|cT (fun f _ U hg=>ld1 to31 (f.2.1.1 hg) (be_ U bQ))<|cT (fun f _ _ hg=>or_eql (f.2.1.1 hg) rfl rfl)<|sF (fun f=>or_and f.1 (fun hx=>f.2.1.1 hx) rfl (osome vA).symm)<|steps_nil
   intro ra zM AB na rR t6 tl bA
   obtain ⟨jF,nu,cY,jG,nv,nw,ed⟩ := kt7 t6 nr ns jC nt jD jE l5
   have l6 := gv (tl [9] rfl) rfl
   have lr := es_ se bA
   obtain ⟨bU,bV,bW⟩ := be3 bA eB bQ eD
   have bR := re_ bA ey
   have bS := RwN.evo rfl bA ez
   have eE := MpO.evo (by decide) bA eC
   have bT := RdO.evo rfl bA eA
   refine fl_cond l6 o (fun v2 o=>?_) (fun v2 o=>?_)
   ·obtain ⟨i,vn,o⟩ := obind o
    refine rr_seq 146 [Fct.at_ 1138 c 70 #[sl bM bu bP,Zi bf]] ra [1138] (bz 3) [dv [] [6] 46 (pt c 0),⟨[0,3],[],[1138],Fct.mems [1327,0,1328] 47 (fun (x : (Option Addr × Nat) × (Option Addr × Nat))=>.slice x.1.1 i.1.length x.1.2) (fun (x : (Option Addr × Nat) × (Option Addr × Nat)) own w=>RwO own 1327 [] w 5 R5 x.1.1 x.1.2 i.1 ∧ RdO own [0] w R5 x.2.1 x.2.2 i.2.1 ∧ BlkO own 1328 w c 70 #[.slice x.2.1 i.2.1.length x.2.2,Zi i.2.2]) (fun hk he h=>⟨RwO.evo (hits_sub hk (by decide)) he h.1,RdO.evo (hits_sub hk (by decide)) he h.2.1,BlkO.evo (not_hit hk (by decide)) he h.2.2⟩)⟩,⟨[1],[],[],Fct.rel [11,47] (fun l=>∀ (ae : Option Addr) (P : Nat),l.getD 1 undef = sl ae i.1 P → l.getD 0 undef = sl ae i.1 P)⟩] rR na (fm1 bV) ?_ ?_
    ·refine sM cY ?_
     refine sc (fun own a wx K H U=>?_) ?_
     ·obtain ⟨q0,Z,-⟩ := K
      exact px (or_call cf28 (args1 q0) (pack_reader_whole_w _ (forth own (look0 [(0,2),(1138,1)])) (bu,bf) c 70 bM bP (look0_le rfl) (BlkO.forth_ (m := (look0 [(0,2),(1138,1)])) Z) (RdO.forth_ (m := (look0 [(0,2),(1138,1)])) (RdO.evo rfl U bT)) i vn) (post_mems (m := (look0 [(0,2),(1138,1)])) (m' := (look0 [(1,1328),(2,0),(3,1327)])) (hm_of2 rfl) (fun E w' a' x h1 h=>⟨x,h1,⟨RwO.back_ h.1 (by decide) (.inl (Rep.fl_flat _)),RdO.back_ h.2.1 (by decide),BlkO.back_ h.2.2 (by decide)⟩⟩)))
     refine sc (fun own a wx K H U=>?_) ?_
     ·obtain ⟨⟨⟨⟨ae,P⟩,⟨a5,aH⟩⟩,(c3 : a.eval (.tmp 47) = sl ae i.1 P),jz,ys,Z⟩,-⟩ := K
      exact px (or_mono (f := Fct.val 11 (sl ae i.1 P)) (or_assign c3) (fun E a' w' v' hp h=>fun _ _ ag=>by cases (c3.symm.trans ((hp.2 47 (by decide)).symm.trans ag)); exact h))
     exact steps_nil
    intro jp kP lg wj xP t7 tm c5
    obtain ⟨nx,jH,jI,ny,nz,nA,l7⟩ := kt7 t7 jF nu cY jG nv nw ed
    obtain ⟨⟨⟨⟨ae,P⟩,⟨a5,aH⟩⟩,(c3 : kP.eval (.tmp 47) = sl ae i.1 P),(bX : RwO jp 1327 [] lg 5 R5 ae P i.1),(eH : RdO jp [0] lg R5 a5 aH i.2.1),(bZ : BlkO jp 1328 lg c 70 #[sl a5 i.2.1 aH,Zi i.2.2])⟩,(rC : ∀ (ae : Option Addr) (P : Nat),kP.eval (.tmp 47) = sl ae i.1 P → kP.eval (.tmp 11) = sl ae i.1 P),-⟩ := tm [1,2] rfl
    have ee := rC _ _ c3
    have st := es_ lr c5
    obtain ⟨eI,eJ⟩ := be2 c5 bU bW
    have eF := re_ c5 bR
    have eG := RwN.evo rfl c5 bS
    have bY := MpO.evo (by decide) c5 eE
    refine fl_seq (fun vQ uY zc=>?_)
    have mT : ∀ (aD : Act) (aW : World) (aV : Own) (ju : Int),aD.defers = [] → aD.tmps.size = 146 → aD.eval (.tmp 4) = pt p 0 → aD.eval (.tmp 5) = .map (some aS) → aD.eval (.tmp 6) = pt c 0 → aD.eval (.tmp 7) = Zi 0 → aD.eval (.tmp 8) = Zi ak → aD.eval (.tmp 9) = Zi az → aD.eval (.tmp 10) = pt aT 0 → aD.eval (.tmp 11) = sl ae i.1 P → Evo [] (fun _=>0) aV w aW → BlkO aV 1125 aW p 64 #[sl am al an,sl ai O aj,.slice none 0 0] → RwO aV 841 [] aW 5 R5 am an al → RwN aV 1132 1133 [] aW 22 5 R5 ai aj O → MpO aV 1135 aW aS vv9 vv4 a3 → BlkO aV 1336 aW c 70 #[sl a5 i.2.1 aH,Zi ju] → RdO aV [0] aW R5 a5 aH i.2.1 → BlkO aV 820 aW aT 28 #[Zi 0,Zi 0,Zi 0] → RwO aV 1327 [] aW 5 R5 ae P i.1 → pack_Open_k2 al O a3 ak az i ju = some dQ → vQ .normal aD aW := by
     intro aD aW aV ju wk xQ nB jJ nC nD nE nF l8 ef sf eN eK eL eO eP eM eQ b0 o
     refine uY _ _ ?_
     obtain ⟨kN,sb,o⟩ := obind o
     refine rr_seq 146 [Fct.mapAt 1135 aS vv9 vv4 a3] aV [1135] [0,0,2,7] [dv [] [5] 62 (.map (some aS)),dv [] [11] 63 (sl ae i.1 P),dv [1] [] 64 (.string (bsS i.1)),⟨[0,2,4],[],[1135],Fct.mapAt 1341 aS vv9 vv4 kN⟩] xQ wk (fm1 eO) ?_ ?_
     ·refine sM jJ<|sM ef<|sFE (fun f U=>or_convBS tu22 tn5 tS9 f.1 (RwO.rd (re_ U b0))) ?_
      refine sc (fun own a wx K H U=>?_) ?_
      ·obtain ⟨q2,q3,m9,-⟩ := K
       exact px (or_mapUpdate (kf := vv9) (vf := vv4) (k := (bsS i.1)) (v := true) (lab := 1135) (lab2 := 1341) ko9 tm67 q2 q3 rfl m9 (osome sb).symm (mem_of rfl) (by decide) (fun E a' w' hb=>hb))
      exact steps_nil
     intro rb zN xB wl xR t8 tn bB
     obtain ⟨dY,nG,nH,nI,nJ,nK,l9,ma⟩ := kt8 t8 nB jJ nC nD nE nF l8 ef
     obtain ⟨(eW : MpO rb 1341 xB aS vv9 vv4 kN),-⟩ := tn [3] rfl
     have su := es_ sf bB
     obtain ⟨eV,eX,eY⟩ := be3 bB eN eP eQ
     have eR := re_ bB eK
     have eS := RwN.evo rfl bB eL
     have eU := RdO.evo rfl bB eM
     have eT := re_ bB b0
     obtain ⟨bg,vB,o⟩ := obind o
     refine rr_seq 146 [Fct.rownAt 1132 1133 [] 22 5 R5 ai aj O,Fct.rowAt 1327 [] 5 R5 ae P i.1,Fct.at_ 1125 p 64 #[sl am al an,sl ai O aj,.slice none 0 0]] rb [1132,1133,1327,1125] [0,0,2,6,14,0,32,126,255,511,1023] [dv [] [4] 65 (pt p 0),dv [] [4] 66 (pt p 0),dv [1] [] 67 (pt p 0),dv [2] [] 68 (pt p 1),dv [3,13] [] 69 (sl ai O aj),dv [] [11] 70 (sl ae i.1 P),⟨[5,12],[],[],Fct.rown 1354 1327 [] 71 22 5 R5 [i.1]⟩,⟨[4,6,11],[],[1132,1133,1327],Fct.rown 1356 1357 [] 72 22 5 R5 bg⟩,dv [0] [] 73 (pt p 0),dv [8] [] 74 (pt p 1),⟨[9,7,13],[],[1125],Fct.by_ [1359] [72] (fun l own w=>∀ (aL : Option Addr) (ar : Nat),l.getD 0 undef = sl aL bg ar → BlkO own 1359 w p 64 #[sl am al an,sl aL bg ar,.slice none 0 0]) (fun hk he h _ _ ag=>BlkO.evo (not_hit hk (by decide)) he (h _ _ ag))⟩] xR wl (fm3 eS eT eV) ?_ ?_
     ·refine sM dY<|sM dY<|sF (fun f=>ok1 f.1)<|sF (fun f=>or_field fo64_1 f.1 (by rfl)) ?_
      refine sc (fun own a wx K H U=>?_) ?_
      ·obtain ⟨q4,(aQ : BlkO own 1125 wx p 64 #[sl am al an,sl ai O aj,.slice none 0 0]),-⟩ := K
       exact px (ld1 to61 q4 aQ)
      refine sM ma ?_
      refine sc (fun own a wx K H U=>?_) ?_
      ·obtain ⟨q6,jz,-⟩ := K
       exact px (or_litO (R := R5) (lab := 1354) (labE := 1327) (L := []) (e := 22) (e2 := 5) (xl := i.1) [(70,sl ae i.1 P)] rfl rfl ⟨q6,trivial⟩ (by kernel_rfl) rfl jz rfl)
      refine sc (fun own a wx K H U=>?_) ?_
      ·obtain ⟨q5,⟨⟨zm,yU⟩,q7,m4⟩,m2,-⟩ := K
       exact px (or_appendO (R := R5) (lab := 1132) (labE := 1133) (lab2 := 1356) (lab3 := 1357) (L := []) (L3 := []) tp61 q5 m2 q7 m4 vB (by decide) (by decide) (mem_of rfl) (mem_of rfl) (mem_of rfl) (by decide) (by decide) (by decide) (by decide) (by decide) (by decide) (by decide) rfl (by decide) (by decide))
      refine sF (fun f=>ok1 f.1)<|sF (fun f=>or_field fo64_1 f.1 (by rfl)) ?_
      refine sc (fun own a wx K H U=>?_) ?_
      ·obtain ⟨q8,⟨⟨aL,ar⟩,(c4 : a.eval (.tmp 72) = sl aL bg ar),yt⟩,aQ,-⟩ := K
       exact px (or_store1 (lab := 1125) (lab2 := 1359) ts61 q8 c4 aQ (by simp) rfl (mem_of rfl) (by decide) rfl (fun E a' w' ha hb=>fun _ _ ag=>by cases (c4.symm.trans ((ha 72).symm.trans ag)); exact hb))
      exact steps_nil
     intro k3 mV rD wm xS t9 tp c6
     obtain ⟨nL,nM,nN,nO,nP,nQ,mb⟩ := kt7 t9 dY nG nH nI nJ nK l9
     obtain ⟨⟨⟨aL,ar⟩,(c4 : mV.eval (.tmp 72) = sl aL bg ar),(e1 : RwN k3 1356 1357 [] rD 22 5 R5 aL ar bg)⟩,(dr : ∀ (aL : Option Addr) (ar : Nat),mV.eval (.tmp 72) = sl aL bg ar → BlkO k3 1359 rD p 64 #[sl am al an,sl aL bg ar,.slice none 0 0]),-⟩ := tp [7,10] rfl
     have e3 := dr _ _ c4
     have sv := es_ su c6
     obtain ⟨e5,e6⟩ := be2 c6 eX eY
     have eZ := re_ c6 eR
     have e0 := RdO.evo rfl c6 eU
     have e4 := MpO.evo (by decide) c6 eW
     refine rq_seq 146 k3 (bz 3) [dv [] [8] 75 (Zi ak),dv [0] [] 76 (Zi (ad ak 1)),dv [1] [] 8 (Zi (ad ak 1))] xS wm ?_ ?_
     ·exact sM nP<|sF (fun f=>or_add f.1 rfl rfl)<|sA<|steps_nil
     intro xd zO AC wn xT ua tq bC
     obtain ⟨nR,nS,nT,nU,nW,mc⟩ := kt6 ua nL nM nN nO nQ mb
     have nV := gv (tq [2] rfl) rfl
     have sw := es_ sv bC
     obtain ⟨fc,fd,fa⟩ := be3 bC e5 e6 e3
     have e7 := re_ bC eZ
     have e8 := RdO.evo rfl bC e0
     have fb := MpO.evo (by decide) bC e4
     have e9 := RwN.evo rfl bC e1
     refine fl_goto ?_
     refine vh _ _ _ rfl ?_
     exact lZ (Sum.inl (al,bg,kN,i.2.1,ju,ad ak 1,az)) _ _ o ⟨(rl [(1336,1138),(1341,1135),(1356,1132),(1357,1133),(1359,1125)] xd),p,am,an,aL,ar,aS,c,a5,aH,aT,wn,xT,nR,nS,nT,nU,nV,nW,mc,(Evo.rl_ sw (fun _=>Nat.le_refl 0) rfl),(BlkO.rl_ fa),(RwO.rl_ e7),(RwN.rl_ e9),(MpO.rl_ fb),(BlkO.rl_ fc),(RdO.rl_ e8),(BlkO.rl_ fd)⟩
    obtain ⟨rP,vC,o⟩ := obind o
    refine rq_seq 146 jp [0,1,3,7,15,31,63,63,191,511,1023] [dv [] [6] 48 (pt c 0),dv [0] [] 49 (pt c 0),dv [1] [] 50 (pt c 1),dv [2] [] 51 (Zi i.2.2),dv [3] [] 52 (.bool (decide (i.2.2 = 0))),dv [4] [] 53 (.bool (decide (i.2.2 = 0))),dc [5] [5] (decide (i.2.2 = 0)) 54 (.map (some aS)),dc [5] [11] (decide (i.2.2 = 0)) 55 (sl ae i.1 P),dc [5,7] [] (decide (i.2.2 = 0)) 56 (.string (bsS i.1)),dc [5,6,8] [] (decide (i.2.2 = 0)) 57 (.bool rP),dv [5,9] [] 58 (.bool ((decide (i.2.2 = 0)) && rP))] xP wj ?_ ?_
    ·exact sM jI<|sF (fun f=>ok1 f.1)<|sF (fun f=>or_field fo70_1 f.1 (by rfl))<|sG to31 bZ<|sF (fun f=>or_eql f.1 rfl rfl)<|sV<|cT (fun _ s _ _=>or_move (s.1.trans jH))<|cT (fun _ s _ _=>or_move (s.1.trans ee))<|cT (fun f _ U hg=>or_convBS tu22 tn5 tS9 (f.2.1.1 hg) (RwO.rd (re_ U bX)))<|cT (fun f _ U hg=>or_lookupE (kf := vv9) (vf := vv4) (k := (bsS i.1)) (dv := false) ko9 tm67 tzv67 (f.2.1.1 hg) (f.2.2.1.1 hg) (MpO.evo (by decide) U bY) (osome vC).symm)<|sF (fun f=>or_and f.1 (fun hx=>f.2.1.1 hx) rfl rfl)<|steps_nil
    intro rc zP AD nb rS ub tr bc
    obtain ⟨jK,jL,dZ,jM,jN,jO,eg,eh⟩ := kt8 ub nx jH jI ny nz nA l7 ee
    have md := gv (tr [10] rfl) rfl
    have ls := es_ st bc
    obtain ⟨b6,b9,b8⟩ := be3 bc eI eJ bZ
    have b2 := re_ bc eF
    have b3 := RwN.evo rfl bc eG
    have b7 := MpO.evo (by decide) bc bY
    have b4 := re_ bc bX
    have b5 := RdO.evo rfl bc eH
    refine fl_cond md o (fun v3 o=>?_) (fun v3 o=>?_)
    ·refine rr 146 [Fct.at_ 1328 c 70 #[sl a5 i.2.1 aH,Zi i.2.2]] rc [1328] (bz 4) [dv [] [6] 59 (pt c 0),dv [0] [] 60 (pt c 0),dv [1] [] 61 (pt c 1),⟨[2,4],[],[1328],Fct.at_ 1365 c 70 #[sl a5 i.2.1 aH,Zi 8]⟩] rS nb (fm1 b8) ?_ ?_
     ·refine sM dZ<|sF (fun f=>ok1 f.1)<|sF (fun f=>or_field fo70_1 f.1 (by rfl)) ?_
      refine sc (fun own a wx K H U=>?_) ?_
      ·obtain ⟨q1,Z,-⟩ := K
       exact px (or_store1 (lab := 1328) (lab2 := 1365) ts31 q1 rfl Z (by simp) rfl (mem_of rfl) (by decide) rfl (fun E a' w' ha hb=>hb))
      exact steps_nil
     intro re zQ xC wo xU uc ts bd
     obtain ⟨nX,nY,nZ,n0,n1,n2,me,mf⟩ := kt8 uc jK jL dZ jM jN jO eg eh
     obtain ⟨(fk : BlkO re 1365 xC c 70 #[sl a5 i.2.1 aH,Zi 8]),-⟩ := ts [3] rfl
     have sx := es_ ls bd
     obtain ⟨fi,fl⟩ := be2 bd b6 b9
     have fe := re_ bd b2
     have ff := RwN.evo rfl bd b3
     have fj := MpO.evo (by decide) bd b7
     have fg := re_ bd b4
     have fh := RdO.evo rfl bd b5
     exact (mT _ _ (rl [(1365,1336)] re) _ wo xU nX nY nZ n0 n1 n2 me mf (Evo.rl_ sx (fun _=>Nat.le_refl 0) rfl) (BlkO.rl_ fi) (RwO.rl_ fe) (RwN.rl_ ff) (MpO.rl_ fj) (BlkO.rl_ fk) (RdO.rl_ fh) (BlkO.rl_ fl) (RwO.rl_ fg) o)
    refine fl_skip ?_
    exact (mT _ _ (rl [(1328,1336)] rc) _ nb rS jK jL dZ jM jN jO eg eh (Evo.rl_ ls (fun _=>Nat.le_refl 0) rfl) (BlkO.rl_ b6) (RwO.rl_ b2) (RwN.rl_ b3) (MpO.rl_ b7) (BlkO.rl_ b8) (RdO.rl_ b5) (BlkO.rl_ b9) (RwO.rl_ b4) o)
   refine fl_skip ?_
   refine uX _ _ ?_
   obtain ⟨A,vo,o⟩ := obind o
   refine rr_seq 146 [Fct.at_ 1138 c 70 #[sl bM bu bP,Zi bf]] ra [1138] (bz 4) [dv [] [6] 77 (pt c 0),⟨[0,4],[],[1138],Fct.mems [0,1369] 78 (fun (x : Option Addr × Nat)=>Zi A.1) (fun (x : Option Addr × Nat) own w=>RdO own [0] w R5 x.1 x.2 A.2.1 ∧ BlkO own 1369 w c 70 #[.slice x.1 A.2.1.length x.2,Zi A.2.2]) (fun hk he h=>⟨RdO.evo (hits_sub hk (by decide)) he h.1,BlkO.evo (not_hit hk (by decide)) he h.2⟩)⟩,dv [] [] 8 (Zi 0),dv [1] [] 9 (Zi A.1)] rR na (fm1 bV) ?_ ?_
   ·refine sM cY ?_
    refine sc (fun own a wx K H U=>?_) ?_
    ·obtain ⟨q9,Z,-⟩ := K
     exact px (or_call cf29 (args1 q9) (pack_reader_count_w _ (forth own (look0 [(0,2),(1138,1)])) (bu,bf) c 70 bM bP (look0_le rfl) (BlkO.forth_ (m := (look0 [(0,2),(1138,1)])) Z) (RdO.forth_ (m := (look0 [(0,2),(1138,1)])) (RdO.evo rfl U bT)) A vo) (post_mems (m := (look0 [(0,2),(1138,1)])) (m' := (look0 [(1,1369),(2,0)])) (hm_of2 rfl) (fun E w' a' x h1 h=>⟨x,h1,⟨RdO.back_ h.1 (by decide),BlkO.back_ h.2 (by decide)⟩⟩)))
    refine sO (or_assign rfl) ?_
    refine sc (fun own a wx K H U=>?_) ?_
    ·obtain ⟨⟨⟨dp,bw⟩,kH,yu,Z⟩,-⟩ := K
     exact px (or_assign kH)
    exact steps_nil
   intro k4 vS rE wp xV ud jj dB
   obtain ⟨n3,jP,n4,mg⟩ := kt4 ud jF cY jG ed
   have jQ := gv (jj [2] rfl) rfl
   have jR := gv (jj [3] rfl) rfl
   obtain ⟨⟨⟨dp,bw⟩,(kH : vS.eval (.tmp 78) = Zi A.1),(fo : RdO k4 [0] rE R5 dp bw A.2.1),(ca : BlkO k4 1369 rE c 70 #[sl dp A.2.1 bw,Zi A.2.2])⟩,-⟩ := jj [1] rfl
   have sy := es_ lr dB
   obtain ⟨fp,fq⟩ := be2 dB bU bW
   have fm := re_ dB bR
   have fn := RwN.evo rfl dB bS
   refine fl_seq (fun zv uZ zd=>?_)
   refine fl_label ?_
   refine uZ _ _ ?_
   refine fl_seq (fun zw u0 vi=>?_)
   obtain ⟨xK,vD,o⟩ := obind o
   refine rq_seq 146 k4 [0,0,3,7,15,31,63,127,255,511] [dv [] [8] 79 (Zi 0),dv [] [9] 80 (Zi A.1),dv [0,1] [] 81 (.bool (decide (0 < A.1))),dv [2] [] 82 (.bool (decide (0 < A.1))),dc [3] [6] (decide (0 < A.1)) 83 (pt c 0),dc [3,4] [] (decide (0 < A.1)) 84 (pt c 0),dc [3,5] [] (decide (0 < A.1)) 85 (pt c 1),dc [3,6] [] (decide (0 < A.1)) 86 (Zi A.2.2),dc [3,7] [] (decide (0 < A.1)) 87 (.bool (decide (A.2.2 = 0))),dv [3,8] [] 88 (.bool xK)] xV wp ?_ ?_
   ·exact sM jQ<|sM jR<|sF (fun f=>or_lss f.1 f.2.1 rfl)<|sV<|cT (fun _ s _ _=>or_move (s.1.trans jP))<|cT (fun f _ _ hg=>ok1 (f.2.1.1 hg))<|cT (fun f _ _ hg=>or_field fo70_1 (f.2.1.1 hg) (by rfl))<|cT (fun f _ U hg=>ld1 to31 (f.2.1.1 hg) (be_ U ca))<|cT (fun f _ _ hg=>or_eql (f.2.1.1 hg) rfl rfl)<|sF (fun f=>or_and f.1 (fun hx=>f.2.1.1 hx) rfl (osome vD).symm)<|steps_nil
   intro rf zR AE nc rT ue tt c7
   obtain ⟨jS,cZ,jT,jU,n5,dt⟩ := kt6 ue n3 jP n4 jQ jR mg
   have mh := gv (tt [9] rfl) rfl
   have lt := es_ sy c7
   obtain ⟨ce,fr,a7⟩ := be3 c7 fp fq ca
   have cb := re_ c7 fm
   have cc := RwN.evo rfl c7 fn
   have cd := RdO.evo rfl c7 fo
   refine fl_cond mh o (fun v4 o=>?_) (fun v4 o=>?_)
   ·obtain ⟨q,vp,o⟩ := obind o
    refine rr_seq 146 [Fct.at_ 1369 c 70 #[sl dp A.2.1 bw,Zi A.2.2],Fct.at_ 820 aT 28 #[Zi 0,Zi 0,Zi 0]] rf [1369,820] [0,0,0,4,15,31] [dv [] [6] 89 (pt c 0),dv [7] [10] 90 (.agg #[Zi 0,Zi 0,Zi 0]),dv [] [8] 91 (Zi 0),dv [2] [] 92 (.bool true),⟨[0,1,3,6],[],[1369],Fct.mems [0,1381] 93 (fun (x : Option Addr × Nat)=>.agg #[Zi q.1.1,Zi q.1.2.1,Zi q.1.2.2]) (fun (x : Option Addr × Nat) own w=>RdO own [0] w R5 x.1 x.2 q.2.1 ∧ BlkO own 1381 w c 70 #[.slice x.1 q.2.1.length x.2,Zi q.2.2]) (fun hk he h=>⟨RdO.evo (hits_sub hk (by decide)) he h.1,BlkO.evo (not_hit hk (by decide)) he h.2⟩)⟩,⟨[4,7],[10],[820],Fct.at_ 1382 aT 28 #[Zi q.1.1,Zi q.1.2.1,Zi q.1.2.2]⟩] rT nc (fm2 a7 fr) ?_ ?_
    ·refine sM cZ ?_
     refine sc (fun own a wx K H U=>?_) ?_
     ·obtain ⟨(dV : BlkO own 820 wx aT 28 #[Zi 0,Zi 0,Zi 0]),-⟩ := K
      obtain ⟨bv,-⟩ := H
      exact px (ldS ta28 (bv.trans dt) dV)
     refine sM jU<|sF (fun f=>or_eql f.1 rfl (by decide)) ?_
     refine sc (fun own a wx K H U=>?_) ?_
     ·obtain ⟨kI,kJ,kK,Z,-⟩ := K
      exact px (or_call cf30 (args3 kI kJ kK) (pack_reader_tile_w _ (forth own (look0 [(0,2),(1369,1)])) A.2 c 70 dp bw (0,0,0) true (look0_le rfl) (BlkO.forth_ (m := (look0 [(0,2),(1369,1)])) Z) (RdO.forth_ (m := (look0 [(0,2),(1369,1)])) (RdO.evo rfl U cd)) q vp) (post_mems (m := (look0 [(0,2),(1369,1)])) (m' := (look0 [(1,1381),(2,0)])) (hm_of2 rfl) (fun E w' a' x h1 h=>⟨x,h1,⟨RdO.back_ h.1 (by decide),BlkO.back_ h.2 (by decide)⟩⟩)))
     refine sc (fun own a wx K H U=>?_) ?_
     ·obtain ⟨⟨⟨dR,cU⟩,dx,yv,Z⟩,dV,-⟩ := K
      obtain ⟨bv,-⟩ := H
      exact px (or_store (l := #[Zi q.1.1,Zi q.1.2.1,Zi q.1.2.2]) (lab := 820) (lab2 := 1382) ts28 (bv.trans dt) dx dV (by simp) (by kernel_rfl) (mem_of rfl) (by decide) (by kernel_rfl) (fun E a' w' ha hb=>hb))
     exact steps_nil
    intro jq vT lh wq xW uf tu dC
    obtain ⟨jV,jW,jX,n6,n7,mi⟩ := kt6 uf jS cZ jT jU n5 dt
    obtain ⟨⟨⟨dR,cU⟩,(dx : vT.eval (.tmp 93) = .agg #[Zi q.1.1,Zi q.1.2.1,Zi q.1.2.2]),(fu : RdO jq [0] lh R5 dR cU q.2.1),(fv : BlkO jq 1381 lh c 70 #[sl dR q.2.1 cU,Zi q.2.2])⟩,(fw : BlkO jq 1382 lh aT 28 #[Zi q.1.1,Zi q.1.2.1,Zi q.1.2.2]),-⟩ := tu [4,5] rfl
    have sz := es_ lt dC
    have cf := be_ dC ce
    have fs := re_ dC cb
    have ft := RwN.evo rfl dC cc
    obtain ⟨W,vq,o⟩ := obind o
    refine rr_seq 146 [Fct.at_ 1381 c 70 #[sl dR q.2.1 cU,Zi q.2.2]] jq [1381] [0,0,2,6,14,30,0,127,255] [dv [] [6] 94 (pt c 0),dv [] [4] 95 (pt p 0),dv [1] [] 96 (pt p 0),dv [2] [] 97 (pt p 1),dv [3] [] 98 (sl ai O aj),dv [4] [] 99 (Zi (O.length : Int)),dv [] [7] 100 (Zi 0),⟨[0,5,6,9],[],[1381],Fct.mems [0,1386] 101 (fun (x : Option Addr × Nat)=>Zi W.1) (fun (x : Option Addr × Nat) own w=>RdO own [0] w R5 x.1 x.2 W.2.1 ∧ BlkO own 1386 w c 70 #[.slice x.1 W.2.1.length x.2,Zi W.2.2]) (fun hk he h=>⟨RdO.evo (hits_sub hk (by decide)) he h.1,BlkO.evo (not_hit hk (by decide)) he h.2⟩)⟩,dv [7] [] 12 (Zi W.1)] xW wq (fm1 fv) ?_ ?_
    ·refine sM jW<|sM jV<|sF (fun f=>ok1 f.1)<|sF (fun f=>or_field fo64_1 f.1 (by rfl))<|sG to61 cf<|sF (fun f=>or_len tu61 f.1 rfl)<|sM jX ?_
     refine sc (fun own a wx K H U=>?_) ?_
     ·obtain ⟨kL,kM,d6,Z,-⟩ := K
      exact px (or_call cf31 (args3 kL kM d6) (pack_reader_blob_w _ (forth own (look0 [(0,2),(1381,1)])) q.2 c 70 dR cU (O.length : Int) 0 (look0_le rfl) (BlkO.forth_ (m := (look0 [(0,2),(1381,1)])) Z) (RdO.forth_ (m := (look0 [(0,2),(1381,1)])) (RdO.evo rfl U fu)) W vq) (post_mems (m := (look0 [(0,2),(1381,1)])) (m' := (look0 [(1,1386),(2,0)])) (hm_of2 rfl) (fun E w' a' x h1 h=>⟨x,h1,⟨RdO.back_ h.1 (by decide),BlkO.back_ h.2 (by decide)⟩⟩)))
     refine sc (fun own a wx K H U=>?_) ?_
     ·obtain ⟨⟨⟨eu,dy⟩,br,yw,Z⟩,-⟩ := K
      exact px (or_assign br)
     exact steps_nil
    intro k5 vU rF wr xX ug lH dD
    obtain ⟨n8,n9,oa,ob,oc,mj⟩ := kt6 ug jV jW jX n6 n7 mi
    have ei := gv (lH [8] rfl) rfl
    obtain ⟨⟨⟨eu,dy⟩,(br : vU.eval (.tmp 101) = Zi W.1),(fz : RdO k5 [0] rF R5 eu dy W.2.1),(fB : BlkO k5 1386 rF c 70 #[sl eu W.2.1 dy,Zi W.2.2])⟩,-⟩ := lH [7] rfl
    have sB := es_ sz dD
    obtain ⟨fA,fC⟩ := be2 dD cf fw
    have fx := re_ dD fs
    have fy := RwN.evo rfl dD ft
    refine rq_seq 146 k5 [0,0,2,7,15] [dv [] [7] 102 (Zi 0),dv [] [12] 103 (Zi W.1),dv [1] [] 104 (Zi (ad W.1 1)),dv [0,2] [] 105 (Zi (mx 0 (ad W.1 1))),dv [3] [] 7 (Zi (mx 0 (ad W.1 1)))] xX wr ?_ ?_
    ·exact sM oa<|sM ei<|sF (fun f=>or_add f.1 rfl rfl)<|sF (fun f=>or_max f.1 f.2.1)<|sA<|steps_nil
    intro xe zS AF ws xY uh tv c8
    obtain ⟨d1,od,og,oh,ej,mk⟩ := kt6 uh n8 n9 ob oc mj ei
    have oe := gv (tv [4] rfl) rfl
    have sC := es_ sB c8
    obtain ⟨fG,cg,fH⟩ := be3 c8 fA fC fB
    have fD := re_ c8 fx
    have fE := RwN.evo rfl c8 fy
    have fF := RdO.evo rfl c8 fz
    obtain ⟨bh,vE,o⟩ := obind o
    refine rd_seq g_mixed 146 [Fct.at_ 1125 p 64 #[sl am al an,sl ai O aj,.slice none 0 0]] xe [1397,1125] [0,0,2,6,14,0,0,96,224,510,1023,2047,4095] [dv [] [4] 106 (pt p 0),dv [] [4] 107 (pt p 0),dv [1] [] 108 (pt p 0),dv [2] [] 109 (pt p 2),dv [3,13] [] 110 (.slice none 0 0),dv [] [10] 111 (.agg #[Zi q.1.1,Zi q.1.2.1,Zi q.1.2.2]),dv [] [12] 112 (Zi W.1),dv [5,6] [] 113 (.agg #[Zi q.1.1,Zi q.1.2.1,Zi q.1.2.2,Zi W.1]),⟨[7],[],[],Fct.row 1396 [] 114 66 R66 [(q.1,W.1)]⟩,⟨[4,8],[],[1397],Fct.row 1399 [] 115 66 R66 bh⟩,dv [0] [] 116 (pt p 0),dv [10] [] 117 (pt p 2),⟨[11,9,13],[],[1125],Fct.by_ [1401] [115] (fun l own w=>∀ (aM : Option Addr) (au : Nat),l.getD 0 undef = sl aM bh au → BlkO own 1401 w p 64 #[sl am al an,sl ai O aj,sl aM bh au]) (fun hk he h _ _ ag=>BlkO.evo (not_hit hk (by decide)) he (h _ _ ag))⟩] xY ws (fm1 fG) ?_ ?_
    ·refine sM d1<|sM d1<|sF (fun f=>ok1 f.1)<|sF (fun f=>or_field fo64_2 f.1 (by rfl)) ?_
     refine sc (fun own a wx K H U=>?_) ?_
     ·obtain ⟨d7,(aQ : BlkO own 1125 wx p 64 #[sl am al an,sl ai O aj,.slice none 0 0]),-⟩ := K
      exact px (ld1 to62 d7 aQ)
     refine sL ta28 ej cg<|sM mk<|sF (fun f=>ok2 f.1 f.2.1)<|sF (fun f=>or_lit (lab := 1396) (e := 66) (cs := #[Zi q.1.1,Zi q.1.2.1,Zi q.1.2.2,Zi W.1]) (F := E66) (nw1 f.1) rfl rfl (show 1 ≤ maxLen by decide)) ?_
     refine sc (fun own a wx K H U=>?_) ?_
     ·obtain ⟨(d8 : a.eval (.tmp 110) = .slice none 0 0),⟨⟨zn,yV⟩,d9,m5⟩,-⟩ := K
      exact px (or_append (R := R66) (lab := 1397) (lab2 := 1399) (L := []) (L3 := []) tp62 d8 RwO.nil_ (by decide) d9 (RwO.rd m5) vE (by decide) (by decide) (mem_of rfl) (.inl (Rep.fl_flat _)))
     refine sF (fun f=>ok1 f.1)<|sF (fun f=>or_field fo64_2 f.1 (by rfl)) ?_
     refine sc (fun own a wx K H U=>?_) ?_
     ·obtain ⟨ea,⟨⟨aM,au⟩,(ay : a.eval (.tmp 115) = sl aM bh au),yx⟩,aQ,-⟩ := K
      exact px (or_store1 (lab := 1125) (lab2 := 1401) ts62 ea ay aQ (by simp) rfl (mem_of rfl) (by decide) rfl (fun E a' w' ha hb=>fun _ _ ag=>by cases (ay.symm.trans ((ha 115).symm.trans ag)); exact hb))
     exact steps_nil
    intro k6 mW rG wt xZ ui tw c9
    obtain ⟨oi,oj,ok,ol,om,ml⟩ := kt6 ui d1 od oe og oh ej
    obtain ⟨⟨⟨aM,au⟩,(ay : mW.eval (.tmp 115) = sl aM bh au),(fL : RwO k6 1399 [] rG 66 R66 aM au bh)⟩,(dr : ∀ (aM : Option Addr) (au : Nat),mW.eval (.tmp 115) = sl aM bh au → BlkO k6 1401 rG p 64 #[sl am al an,sl ai O aj,sl aM bh au]),-⟩ := tw [9,12] rfl
    have fM := dr _ _ ay
    have sD := es_ sC c9
    obtain ⟨fO,fN⟩ := be2 c9 cg fH
    have fI := re_ c9 fD
    have fJ := RwN.evo rfl c9 fE
    have fK := RdO.evo rfl c9 fF
    refine rq_seq 146 k6 (bz 3) [dv [] [8] 118 (Zi 0),dv [0] [] 119 (Zi 1),dv [1] [] 8 (Zi 1)] xZ wt ?_ ?_
    ·exact sM ol<|sF (fun f=>or_add f.1 rfl (by decide))<|sA<|steps_nil
    intro xf zT AG wu x0 uj tx bD
    obtain ⟨oo,op,oq,ot,mm⟩ := kt5 uj oi oj ok om ml
    have os := gv (tx [2] rfl) rfl
    have sE := es_ sD bD
    obtain ⟨fV,fU,fT⟩ := be3 bD fO fN fM
    have fP := re_ bD fI
    have fQ := RwN.evo rfl bD fJ
    have fR := RdO.evo rfl bD fK
    have fS := re_ bD fL
    refine fl_goto ?_
    refine vi _ _ _ rfl ?_
    exact lZ (Sum.inr (al,O,bh,W.2.1,W.2.2,mx 0 (ad W.1 1),1,A.1,q.1)) _ _ o ⟨(rl [(1132,1154),(1133,1155),(1382,1170),(1386,1161),(1399,1159),(1401,1147)] xf),p,am,an,ai,aj,aM,au,c,eu,dy,aT,wu,x0,oo,op,oq,os,ot,mm,(Evo.rl_ sE (fun _=>Nat.le_refl 0) rfl),(BlkO.rl_ fT),(RwO.rl_ fP),(RwN.rl_ fQ),(RwO.rl_ fS),(BlkO.rl_ fU),(RdO.rl_ fR),(BlkO.rl_ fV)⟩
   refine fl_skip ?_
   refine u0 _ _ ?_
   refine fl_seq (fun zx u1 jl=>?_)
   refine fl_block (fun zy u2 zi jm=>?_)
   refine rq_seq 146 rf (bz 6) [dv [] [6] 121 (pt c 0),dv [0] [] 122 (pt c 0),dv [1] [] 123 (pt c 1),dv [2] [] 124 (Zi A.2.2),dv [3] [] 125 (.bool (!decide (A.2.2 = 0))),dv [4] [] 120 (.bool (!decide (A.2.2 = 0)))] rT nc ?_ ?_
   ·exact sM cZ<|sF (fun f=>ok1 f.1)<|sF (fun f=>or_field fo70_1 f.1 (by rfl))<|sG to31 a7<|sF (fun f=>or_neq f.1 rfl rfl)<|sA<|steps_nil
   intro rg zU AH nd rU uk ty da
   obtain ⟨jY,jZ,ou⟩ := kt3 uk jS cZ jT
   have kU := gv (ty [5] rfl) rfl
   have lu := es_ lt da
   obtain ⟨ch,ci⟩ := be2 da ce a7
   have fW := re_ da cb
   have fX := RwN.evo rfl da cc
   have fY := RdO.evo rfl da cd
   refine fl_cond kU o (fun v5 o=>?_) (fun v5 o=>?_)
   ·refine rd_seq g_mixed 146 [] rg [] [0,1,3,7,0,31] [dv [] [6] 126 (pt c 0),dv [0] [] 127 (pt c 0),dv [1] [] 128 (pt c 1),dv [2] [] 129 (Zi A.2.2),dv [] [] 2 (.pointer none),dv [3] [] 3 (Zi A.2.2)] rU nd nm_ ?_ ?_
    ·exact sM jZ<|sF (fun f=>ok1 f.1)<|sF (fun f=>or_field fo70_1 f.1 (by rfl))<|sG to31 ci<|sO (or_assign rfl)<|sA<|steps_nil
    intro xg zV AI wv Be yZ lI sg
    have ov := gv (lI [4] rfl) rfl
    have ow := gv (lI [5] rfl) rfl
    have sH := es_ lu sg
    refine fl_ret ?_
    refine jm _ _ _ rfl ?_
    refine jl _ _ _ rfl ?_
    replace o := jx _ o
    refine dO.leaves _ _ _ rfl ?_
    obtain rfl := osome o
    exact bl _ _ _ _ (.inl rfl) wv (results2_ rfl (RVal.tmp_ ov) (RVal.tmp_ ow)) ⟨xg,rfl,sH⟩
   refine rq_seq 146 rg [0,0,2,6,14,30,63,127] [dv [] [7] 131 (Zi 0),dv [] [4] 132 (pt p 0),dv [1] [] 133 (pt p 0),dv [2] [] 134 (pt p 1),dv [3] [] 135 (sl ai O aj),dv [4] [] 136 (Zi (O.length : Int)),dv [0,5] [] 137 (.bool (decide (0 < (O.length : Int)))),dv [6] [] 130 (.bool (decide (0 < (O.length : Int))))] rU nd ?_ ?_
   ·exact sM ou<|sM jY<|sF (fun f=>ok1 f.1)<|sF (fun f=>or_field fo64_1 f.1 (by rfl))<|sG to61 ch<|sF (fun f=>or_len tu61 f.1 rfl)<|sF (fun f=>or_lss f.1 f.2.1 rfl)<|sA<|steps_nil
   intro rh zW AJ ne rV ul tz db
   obtain ⟨oy,oz⟩ := kt2 ul jY jZ
   have kV := gv (tz [7] rfl) rfl
   have lv := es_ lu db
   obtain ⟨f1,f2⟩ := be2 db ch ci
   have fZ := re_ db fW
   have f0 := RwN.evo rfl db fX
   have r7 := RdO.evo rfl db fY
   refine fl_cond kV o (fun v6 o=>?_) (fun v6 o=>?_)
   ·refine rq_seq 146 rh (bz 2) [dv [] [] 2 (.pointer none),dv [] [] 3 (Zi 7)] rV ne ?_ ?_
    ·exact sO (or_assign rfl)<|sO (or_assign rfl)<|steps_nil
    intro xh zX AK ww Bf y0 lJ sh
    have oA := gv (lJ [0] rfl) rfl
    have oB := gv (lJ [1] rfl) rfl
    have sI := es_ lv sh
    refine fl_ret ?_
    refine jm _ _ _ rfl ?_
    refine jl _ _ _ rfl ?_
    replace o := jx _ o
    refine dO.leaves _ _ _ rfl ?_
    obtain rfl := osome o
    exact bl _ _ _ _ (.inl rfl) ww (results2_ rfl (RVal.tmp_ oA) (RVal.tmp_ oB)) ⟨xh,rfl,sI⟩
   refine rq_seq 146 rh (bz 7) [dv [] [6] 139 (pt c 0),dv [0] [] 140 (pt c 0),dv [1] [] 141 (pt c 0),dv [2] [] 142 (sl dp A.2.1 bw),dv [3] [] 143 (Zi (A.2.1.length : Int)),dv [4] [] 144 (.bool (decide (0 < (A.2.1.length : Int)))),dv [5] [] 138 (.bool (decide (0 < (A.2.1.length : Int))))] rV ne ?_ ?_
   ·exact sM oz<|sF (fun f=>ok1 f.1)<|sF (fun f=>or_field fo70_0 f.1 (by rfl))<|sG to22 f2<|sF (fun f=>or_len tu22 f.1 rfl)<|sF (fun f=>or_gtr f.1 rfl rfl)<|sA<|steps_nil
   intro ri zY AL nf rW um tA dE
   have oC := kt um oy
   have kW := gv (tA [6] rfl) rfl
   have lw := es_ lv dE
   have f5 := be_ dE f1
   have f3 := re_ dE fZ
   have f4 := RwN.evo rfl dE f0
   refine fl_cond kW o (fun v7 o=>?_) (fun v7 o=>?_)
   ·refine rq_seq 146 ri (bz 2) [dv [] [] 2 (.pointer none),dv [] [] 3 (Zi 3)] rW nf ?_ ?_
    ·exact sO (or_assign rfl)<|sO (or_assign rfl)<|steps_nil
    intro xi zZ AM wy Bg y1 lK si
    have oD := gv (lK [0] rfl) rfl
    have oE := gv (lK [1] rfl) rfl
    have sJ := es_ lw si
    refine fl_ret ?_
    refine jm _ _ _ rfl ?_
    refine jl _ _ _ rfl ?_
    replace o := jx _ o
    refine dO.leaves _ _ _ rfl ?_
    obtain rfl := osome o
    exact bl _ _ _ _ (.inl rfl) wy (results2_ rfl (RVal.tmp_ oD) (RVal.tmp_ oE)) ⟨xi,rfl,sJ⟩
   refine fl_skip ?_
   refine u2 _ _ ?_
   refine u1 _ _ ?_
   refine rq_seq 146 ri (bz 3) [dv [] [4] 145 (pt p 0),dv [0] [] 2 (pt p 0),dv [] [] 3 (Zi 0)] rW nf ?_ ?_
   ·exact sM oC<|sA<|sO (or_assign rfl)<|steps_nil
   intro xj z1 AN wz Bh y2 lL dF
   have oF := gv (lL [1] rfl) rfl
   have oG := gv (lL [2] rfl) rfl
   have sK := es_ lw dF
   have f8 := be_ dF f5
   have f6 := re_ dF f3
   have f7 := RwN.evo rfl dF f4
   refine fl_ret ?_
   replace o := jx _ o
   refine dO.leaves _ _ _ rfl ?_
   obtain rfl := osome o
   exact bl _ _ _ _ (.inl rfl) wz (results2_ rfl (RVal.tmp_ oF) (RVal.tmp_ oG)) ⟨(rl [(841,2),(1125,1),(1132,3),(1133,4)] xj),((none,p),(am,an),(ai,aj),(none,0)),rfl,(Evo.rl_ sK (fun _=>Nat.le_refl 0) rfl),(RwO.rl_ f6),(RwO.rl_ (RwN.rw_ f7 (by decide))),RwO.nil_,(BlkO.rl_ f8)⟩
  ·rintro dQ z2 AO ⟨xk,N,a4,ba,aK,aR,bn,bq,J,dn,ds,bs,wA,x1,oH,j0,oI,j1,j2,mn,sj,gd,f9,ga,gb,cj,gc,ge⟩ o zz t5 dP jy
   have o : pack_Open_b1_1 be ao bt aY aG V ah aF I = some dQ := o
   conv=>arg 4; whnf
   refine fl_seq (fun zA u3 ze=>?_)
   refine fl_skip ?_
   refine u3 _ _ ?_
   refine fl_seq (fun zB u4 vj=>?_)
   obtain ⟨xL,vF,o⟩ := obind o
   refine rq_seq 146 xk [0,0,3,7,15,31,63,127,255,511] [dv [] [8] 79 (Zi ah),dv [] [9] 80 (Zi aF),dv [0,1] [] 81 (.bool (decide (ah < aF))),dv [2] [] 82 (.bool (decide (ah < aF))),dc [3] [6] (decide (ah < aF)) 83 (pt J 0),dc [3,4] [] (decide (ah < aF)) 84 (pt J 0),dc [3,5] [] (decide (ah < aF)) 85 (pt J 1),dc [3,6] [] (decide (ah < aF)) 86 (Zi aG),dc [3,7] [] (decide (ah < aF)) 87 (.bool (decide (aG = 0))),dv [3,8] [] 88 (.bool xL)] x1 wA ?_ ?_
   ·exact sM j1<|sM j2<|sF (fun f=>or_lss f.1 f.2.1 rfl)<|sV<|cT (fun _ s _ _=>or_move (s.1.trans j0))<|cT (fun f _ _ hg=>ok1 (f.2.1.1 hg))<|cT (fun f _ _ hg=>or_field fo70_1 (f.2.1.1 hg) (by rfl))<|cT (fun f _ U hg=>ld1 to31 (f.2.1.1 hg) (be_ U cj))<|cT (fun f _ _ hg=>or_eql (f.2.1.1 hg) rfl rfl)<|sF (fun f=>or_and f.1 (fun hx=>f.2.1.1 hx) rfl (osome vF).symm)<|steps_nil
   intro rj z3 AP ng rX un tB bE
   obtain ⟨j3,c0,j4,j5,oJ,du⟩ := kt6 un oH j0 oI j1 j2 mn
   have mo := gv (tB [9] rfl) rfl
   have lx := es_ sj bE
   obtain ⟨co,a8,gf⟩ := be3 bE gd cj ge
   have ck := re_ bE f9
   have cl := RwN.evo rfl bE ga
   have cm := re_ bE gb
   have cn := RdO.evo rfl bE gc
   refine fl_cond mo o (fun v8 o=>?_) (fun v8 o=>?_)
   ·obtain ⟨t,vr,o⟩ := obind o
    refine rr_seq 146 [Fct.at_ 1161 J 70 #[sl dn aY ds,Zi aG],Fct.at_ 1170 bs 28 #[Zi I.1,Zi I.2.1,Zi I.2.2]] rj [1161,1170] [0,0,0,4,15,31] [dv [] [6] 89 (pt J 0),dv [7] [10] 90 (.agg #[Zi I.1,Zi I.2.1,Zi I.2.2]),dv [] [8] 91 (Zi ah),dv [2] [] 92 (.bool (decide (ah = 0))),⟨[0,1,3,6],[],[1161],Fct.mems [0,1428] 93 (fun (x : Option Addr × Nat)=>.agg #[Zi t.1.1,Zi t.1.2.1,Zi t.1.2.2]) (fun (x : Option Addr × Nat) own w=>RdO own [0] w R5 x.1 x.2 t.2.1 ∧ BlkO own 1428 w J 70 #[.slice x.1 t.2.1.length x.2,Zi t.2.2]) (fun hk he h=>⟨RdO.evo (hits_sub hk (by decide)) he h.1,BlkO.evo (not_hit hk (by decide)) he h.2⟩)⟩,⟨[4,7],[10],[1170],Fct.at_ 1429 bs 28 #[Zi t.1.1,Zi t.1.2.1,Zi t.1.2.2]⟩] rX ng (fm2 a8 gf) ?_ ?_
    ·refine sM c0 ?_
     refine sc (fun own a wx K H U=>?_) ?_
     ·obtain ⟨(dX : BlkO own 1170 wx bs 28 #[Zi I.1,Zi I.2.1,Zi I.2.2]),-⟩ := K
      obtain ⟨bv,-⟩ := H
      exact px (ldS ta28 (bv.trans du) dX)
     refine sM j5<|sF (fun f=>or_eql f.1 rfl rfl) ?_
     refine sc (fun own a wx K H U=>?_) ?_
     ·obtain ⟨kI,kJ,kK,bo,-⟩ := K
      exact px (or_call cf30 (args3 kI kJ kK) (pack_reader_tile_w _ (forth own (look0 [(0,2),(1161,1)])) (aY,aG) J 70 dn ds I (decide (ah = 0)) (look0_le rfl) (BlkO.forth_ (m := (look0 [(0,2),(1161,1)])) bo) (RdO.forth_ (m := (look0 [(0,2),(1161,1)])) (RdO.evo rfl U cn)) t vr) (post_mems (m := (look0 [(0,2),(1161,1)])) (m' := (look0 [(1,1428),(2,0)])) (hm_of2 rfl) (fun E w' a' x h1 h=>⟨x,h1,⟨RdO.back_ h.1 (by decide),BlkO.back_ h.2 (by decide)⟩⟩)))
     refine sc (fun own a wx K H U=>?_) ?_
     ·obtain ⟨⟨⟨dS,cV⟩,dx,yy,bo⟩,dX,-⟩ := K
      obtain ⟨bv,-⟩ := H
      exact px (or_store (l := #[Zi t.1.1,Zi t.1.2.1,Zi t.1.2.2]) (lab := 1170) (lab2 := 1429) ts28 (bv.trans du) dx dX (by simp) (by kernel_rfl) (mem_of rfl) (by decide) (by kernel_rfl) (fun E a' w' ha hb=>hb))
     exact steps_nil
    intro jr vV li wB x2 uo tC dd
    obtain ⟨j6,j7,j8,oK,oL,mp⟩ := kt6 uo j3 c0 j4 j5 oJ du
    obtain ⟨⟨⟨dS,cV⟩,(dx : vV.eval (.tmp 93) = .agg #[Zi t.1.1,Zi t.1.2.1,Zi t.1.2.2]),(gj : RdO jr [0] li R5 dS cV t.2.1),(gk : BlkO jr 1428 li J 70 #[sl dS t.2.1 cV,Zi t.2.2])⟩,(gl : BlkO jr 1429 li bs 28 #[Zi t.1.1,Zi t.1.2.1,Zi t.1.2.2]),-⟩ := tC [4,5] rfl
    have sN := es_ lx dd
    have cp := be_ dd co
    have gg := re_ dd ck
    have gh := RwN.evo rfl dd cl
    have gi := re_ dd cm
    obtain ⟨X,vs,o⟩ := obind o
    refine rr_seq 146 [Fct.at_ 1428 J 70 #[sl dS t.2.1 cV,Zi t.2.2]] jr [1428] [0,0,2,6,14,30,0,127,255] [dv [] [6] 94 (pt J 0),dv [] [4] 95 (pt N 0),dv [1] [] 96 (pt N 0),dv [2] [] 97 (pt N 1),dv [3] [] 98 (sl aK ao aR),dv [4] [] 99 (Zi (ao.length : Int)),dv [] [7] 100 (Zi V),⟨[0,5,6,9],[],[1428],Fct.mems [0,1433] 101 (fun (x : Option Addr × Nat)=>Zi X.1) (fun (x : Option Addr × Nat) own w=>RdO own [0] w R5 x.1 x.2 X.2.1 ∧ BlkO own 1433 w J 70 #[.slice x.1 X.2.1.length x.2,Zi X.2.2]) (fun hk he h=>⟨RdO.evo (hits_sub hk (by decide)) he h.1,BlkO.evo (not_hit hk (by decide)) he h.2⟩)⟩,dv [7] [] 12 (Zi X.1)] x2 wB (fm1 gk) ?_ ?_
    ·refine sM j7<|sM j6<|sF (fun f=>ok1 f.1)<|sF (fun f=>or_field fo64_1 f.1 (by rfl))<|sG to61 cp<|sF (fun f=>or_len tu61 f.1 rfl)<|sM j8 ?_
     refine sc (fun own a wx K H U=>?_) ?_
     ·obtain ⟨kL,kM,d6,bo,-⟩ := K
      exact px (or_call cf31 (args3 kL kM d6) (pack_reader_blob_w _ (forth own (look0 [(0,2),(1428,1)])) t.2 J 70 dS cV (ao.length : Int) V (look0_le rfl) (BlkO.forth_ (m := (look0 [(0,2),(1428,1)])) bo) (RdO.forth_ (m := (look0 [(0,2),(1428,1)])) (RdO.evo rfl U gj)) X vs) (post_mems (m := (look0 [(0,2),(1428,1)])) (m' := (look0 [(1,1433),(2,0)])) (hm_of2 rfl) (fun E w' a' x h1 h=>⟨x,h1,⟨RdO.back_ h.1 (by decide),BlkO.back_ h.2 (by decide)⟩⟩)))
     refine sc (fun own a wx K H U=>?_) ?_
     ·obtain ⟨⟨⟨ev,dz⟩,br,yz,bo⟩,-⟩ := K
      exact px (or_assign br)
     exact steps_nil
    intro k7 vW rH wC x3 up lM de
    obtain ⟨oM,oN,oO,oP,oQ,mq⟩ := kt6 up j6 j7 j8 oK oL mp
    have ek := gv (lM [8] rfl) rfl
    obtain ⟨⟨⟨ev,dz⟩,(br : vW.eval (.tmp 101) = Zi X.1),(gp : RdO k7 [0] rH R5 ev dz X.2.1),(gr : BlkO k7 1433 rH J 70 #[sl ev X.2.1 dz,Zi X.2.2])⟩,-⟩ := lM [7] rfl
    have sP := es_ sN de
    obtain ⟨gq,gs⟩ := be2 de cp gl
    have gm := re_ de gg
    have gn := RwN.evo rfl de gh
    have go := re_ de gi
    refine rq_seq 146 k7 [0,0,2,7,15] [dv [] [7] 102 (Zi V),dv [] [12] 103 (Zi X.1),dv [1] [] 104 (Zi (ad X.1 1)),dv [0,2] [] 105 (Zi (mx V (ad X.1 1))),dv [3] [] 7 (Zi (mx V (ad X.1 1)))] x3 wC ?_ ?_
    ·exact sM oO<|sM ek<|sF (fun f=>or_add f.1 rfl rfl)<|sF (fun f=>or_max f.1 f.2.1)<|sA<|steps_nil
    intro xm z4 AQ wD x4 uq tD bF
    obtain ⟨d2,oR,oT,oU,el,mr⟩ := kt6 uq oM oN oP oQ mq ek
    have oS := gv (tD [4] rfl) rfl
    have sQ := es_ sP bF
    obtain ⟨gy,cq,gz⟩ := be3 bF gq gs gr
    have gt := re_ bF gm
    have gu := RwN.evo rfl bF gn
    have gw := re_ bF go
    have gx := RdO.evo rfl bF gp
    obtain ⟨bi,vG,o⟩ := obind o
    refine rd_seq g_mixed 146 [Fct.rowAt 1159 [] 66 R66 bn bq bt,Fct.at_ 1147 N 64 #[sl a4 be ba,sl aK ao aR,sl bn bt bq]] xm [1159,1147] [0,0,2,6,14,0,0,96,224,510,1023,2047,4095] [dv [] [4] 106 (pt N 0),dv [] [4] 107 (pt N 0),dv [1] [] 108 (pt N 0),dv [2] [] 109 (pt N 2),dv [3,14] [] 110 (sl bn bt bq),dv [] [10] 111 (.agg #[Zi t.1.1,Zi t.1.2.1,Zi t.1.2.2]),dv [] [12] 112 (Zi X.1),dv [5,6] [] 113 (.agg #[Zi t.1.1,Zi t.1.2.1,Zi t.1.2.2,Zi X.1]),⟨[7],[],[],Fct.row 1444 [] 114 66 R66 [(t.1,X.1)]⟩,⟨[4,8,13],[],[1159],Fct.row 1446 [] 115 66 R66 bi⟩,dv [0] [] 116 (pt N 0),dv [10] [] 117 (pt N 2),⟨[11,9,14],[],[1147],Fct.by_ [1448] [115] (fun l own w=>∀ (aN : Option Addr) (av : Nat),l.getD 0 undef = sl aN bi av → BlkO own 1448 w N 64 #[sl a4 be ba,sl aK ao aR,sl aN bi av]) (fun hk he h _ _ ag=>BlkO.evo (not_hit hk (by decide)) he (h _ _ ag))⟩] x4 wD (fm2 gw gy) ?_ ?_
    ·refine sM d2<|sM d2<|sF (fun f=>ok1 f.1)<|sF (fun f=>or_field fo64_2 f.1 (by rfl)) ?_
     refine sc (fun own a wx K H U=>?_) ?_
     ·obtain ⟨d7,(dW : BlkO own 1147 wx N 64 #[sl a4 be ba,sl aK ao aR,sl bn bt bq]),-⟩ := K
      exact px (ld1 to62 d7 dW)
     refine sL ta28 el cq<|sM mr<|sF (fun f=>ok2 f.1 f.2.1)<|sF (fun f=>or_lit (lab := 1444) (e := 66) (cs := #[Zi t.1.1,Zi t.1.2.1,Zi t.1.2.2,Zi X.1]) (F := E66) (nw1 f.1) rfl rfl (show 1 ≤ maxLen by decide)) ?_
     refine sc (fun own a wx K H U=>?_) ?_
     ·obtain ⟨d8,⟨⟨zo,yW⟩,d9,m6⟩,m3,-⟩ := K
      exact px (or_append (R := R66) (lab := 1159) (lab2 := 1446) (L := []) (L3 := []) tp62 d8 m3 (by decide) d9 (RwO.rd m6) vG (by decide) (by decide) (mem_of rfl) (.inl (Rep.fl_flat _)))
     refine sF (fun f=>ok1 f.1)<|sF (fun f=>or_field fo64_2 f.1 (by rfl)) ?_
     refine sc (fun own a wx K H U=>?_) ?_
     ·obtain ⟨ea,⟨⟨aN,av⟩,(ay : a.eval (.tmp 115) = sl aN bi av),yA⟩,dW,-⟩ := K
      exact px (or_store1 (lab := 1147) (lab2 := 1448) ts62 ea ay dW (by simp) rfl (mem_of rfl) (by decide) rfl (fun E a' w' ha hb=>fun _ _ ag=>by cases (ay.symm.trans ((ha 115).symm.trans ag)); exact hb))
     exact steps_nil
    intro k8 mX rI wE x5 ur tE df
    obtain ⟨oV,oW,oX,oY,oZ,ms⟩ := kt6 ur d2 oR oS oT oU el
    obtain ⟨⟨⟨aN,av⟩,(ay : mX.eval (.tmp 115) = sl aN bi av),(gD : RwO k8 1446 [] rI 66 R66 aN av bi)⟩,(l3 : ∀ (aN : Option Addr) (av : Nat),mX.eval (.tmp 115) = sl aN bi av → BlkO k8 1448 rI N 64 #[sl a4 be ba,sl aK ao aR,sl aN bi av]),-⟩ := tE [9,12] rfl
    have gE := l3 _ _ ay
    have sR := es_ sQ df
    obtain ⟨gG,gF⟩ := be2 df cq gz
    have gA := re_ df gt
    have gB := RwN.evo rfl df gu
    have gC := RdO.evo rfl df gx
    refine rq_seq 146 k8 (bz 3) [dv [] [8] 118 (Zi ah),dv [0] [] 119 (Zi (ad ah 1)),dv [1] [] 8 (Zi (ad ah 1))] x5 wE ?_ ?_
    ·exact sM oY<|sF (fun f=>or_add f.1 rfl rfl)<|sA<|steps_nil
    intro xn z5 AR wF x6 us tF bG
    obtain ⟨o0,o1,o2,o4,mt⟩ := kt5 us oV oW oX oZ ms
    have o3 := gv (tF [2] rfl) rfl
    have sS := es_ sR bG
    obtain ⟨gN,gM,gL⟩ := be3 bG gG gF gE
    have gH := re_ bG gA
    have gI := RwN.evo rfl bG gB
    have gJ := RdO.evo rfl bG gC
    have gK := re_ bG gD
    refine fl_goto ?_
    refine vj _ _ _ rfl ?_
    exact t5 (Sum.inr (be,ao,bi,X.2.1,X.2.2,mx V (ad X.1 1),ad ah 1,aF,t.1)) _ _ o ⟨(rl [(1429,1170),(1433,1161),(1446,1159),(1448,1147)] xn),N,a4,ba,aK,aR,aN,av,J,ev,dz,bs,wF,x6,o0,o1,o2,o3,o4,mt,(Evo.rl_ sS (fun _=>Nat.le_refl 0) rfl),(BlkO.rl_ gL),(RwO.rl_ gH),(RwN.rl_ gI),(RwO.rl_ gK),(BlkO.rl_ gM),(RdO.rl_ gJ),(BlkO.rl_ gN)⟩
   refine fl_skip ?_
   refine u4 _ _ ?_
   refine fl_seq (fun zC u5 jn=>?_)
   refine fl_block (fun zD u6 zj jo=>?_)
   refine rq_seq 146 rj (bz 6) [dv [] [6] 121 (pt J 0),dv [0] [] 122 (pt J 0),dv [1] [] 123 (pt J 1),dv [2] [] 124 (Zi aG),dv [3] [] 125 (.bool (!decide (aG = 0))),dv [4] [] 120 (.bool (!decide (aG = 0)))] rX ng ?_ ?_
   ·exact sM c0<|sF (fun f=>ok1 f.1)<|sF (fun f=>or_field fo70_1 f.1 (by rfl))<|sG to31 a8<|sF (fun f=>or_neq f.1 rfl rfl)<|sA<|steps_nil
   intro rk z6 AS nh rY ut tG bH
   obtain ⟨j9,ka,o5⟩ := kt3 ut j3 c0 j4
   have kX := gv (tG [5] rfl) rfl
   have ly := es_ lx bH
   obtain ⟨cr,ct⟩ := be2 bH co a8
   have gO := re_ bH ck
   have gP := RwN.evo rfl bH cl
   have gQ := re_ bH cm
   have gR := RdO.evo rfl bH cn
   refine fl_cond kX o (fun v9 o=>?_) (fun v9 o=>?_)
   ·refine rd_seq g_mixed 146 [] rk [] [0,1,3,7,0,31] [dv [] [6] 126 (pt J 0),dv [0] [] 127 (pt J 0),dv [1] [] 128 (pt J 1),dv [2] [] 129 (Zi aG),dv [] [] 2 (.pointer none),dv [3] [] 3 (Zi aG)] rY nh nm_ ?_ ?_
    ·exact sM ka<|sF (fun f=>ok1 f.1)<|sF (fun f=>or_field fo70_1 f.1 (by rfl))<|sG to31 ct<|sO (or_assign rfl)<|sA<|steps_nil
    intro xo z7 AT wG Bi y3 lN sk
    have o6 := gv (lN [4] rfl) rfl
    have o7 := gv (lN [5] rfl) rfl
    have sT := es_ ly sk
    refine fl_ret ?_
    refine jo _ _ _ rfl ?_
    refine jn _ _ _ rfl ?_
    replace o := jy _ o
    refine dP.leaves _ _ _ rfl ?_
    obtain rfl := osome o
    exact bl _ _ _ _ (.inl rfl) wG (results2_ rfl (RVal.tmp_ o6) (RVal.tmp_ o7)) ⟨xo,rfl,sT⟩
   refine rq_seq 146 rk [0,0,2,6,14,30,63,127] [dv [] [7] 131 (Zi V),dv [] [4] 132 (pt N 0),dv [1] [] 133 (pt N 0),dv [2] [] 134 (pt N 1),dv [3] [] 135 (sl aK ao aR),dv [4] [] 136 (Zi (ao.length : Int)),dv [0,5] [] 137 (.bool (decide (V < (ao.length : Int)))),dv [6] [] 130 (.bool (decide (V < (ao.length : Int))))] rY nh ?_ ?_
   ·exact sM o5<|sM j9<|sF (fun f=>ok1 f.1)<|sF (fun f=>or_field fo64_1 f.1 (by rfl))<|sG to61 cr<|sF (fun f=>or_len tu61 f.1 rfl)<|sF (fun f=>or_lss f.1 f.2.1 rfl)<|sA<|steps_nil
   intro rm z8 AU ni rZ uu tH bI
   obtain ⟨o8,o9⟩ := kt2 uu j9 ka
   have kY := gv (tH [7] rfl) rfl
   have lz := es_ ly bI
   obtain ⟨gV,gW⟩ := be2 bI cr ct
   have gS := re_ bI gO
   have gT := RwN.evo rfl bI gP
   have gU := re_ bI gQ
   have r8 := RdO.evo rfl bI gR
   refine fl_cond kY o (fun wa o=>?_) (fun wa o=>?_)
   ·refine rq_seq 146 rm (bz 2) [dv [] [] 2 (.pointer none),dv [] [] 3 (Zi 7)] rZ ni ?_ ?_
    ·exact sO (or_assign rfl)<|sO (or_assign rfl)<|steps_nil
    intro xp z9 AV wH Bj y4 lO sm
    have pa := gv (lO [0] rfl) rfl
    have pb := gv (lO [1] rfl) rfl
    have sU := es_ lz sm
    refine fl_ret ?_
    refine jo _ _ _ rfl ?_
    refine jn _ _ _ rfl ?_
    replace o := jy _ o
    refine dP.leaves _ _ _ rfl ?_
    obtain rfl := osome o
    exact bl _ _ _ _ (.inl rfl) wH (results2_ rfl (RVal.tmp_ pa) (RVal.tmp_ pb)) ⟨xp,rfl,sU⟩
   refine rq_seq 146 rm (bz 7) [dv [] [6] 139 (pt J 0),dv [0] [] 140 (pt J 0),dv [1] [] 141 (pt J 0),dv [2] [] 142 (sl dn aY ds),dv [3] [] 143 (Zi (aY.length : Int)),dv [4] [] 144 (.bool (decide (0 < (aY.length : Int)))),dv [5] [] 138 (.bool (decide (0 < (aY.length : Int))))] rZ ni ?_ ?_
   ·exact sM o9<|sF (fun f=>ok1 f.1)<|sF (fun f=>or_field fo70_0 f.1 (by rfl))<|sG to22 gW<|sF (fun f=>or_len tu22 f.1 rfl)<|sF (fun f=>or_gtr f.1 rfl rfl)<|sA<|steps_nil
   intro rn Aa AW nj r0 uv tI dg
   have pc := kt uv o8
   have kZ := gv (tI [6] rfl) rfl
   have lA := es_ lz dg
   have g0 := be_ dg gV
   have gX := re_ dg gS
   have gY := RwN.evo rfl dg gT
   have gZ := re_ dg gU
   refine fl_cond kZ o (fun wb o=>?_) (fun wb o=>?_)
   ·refine rq_seq 146 rn (bz 2) [dv [] [] 2 (.pointer none),dv [] [] 3 (Zi 3)] r0 nj ?_ ?_
    ·exact sO (or_assign rfl)<|sO (or_assign rfl)<|steps_nil
    intro xq Ab AX wI Bk y5 lP sn
    have pd := gv (lP [0] rfl) rfl
    have pe := gv (lP [1] rfl) rfl
    have sW := es_ lA sn
    refine fl_ret ?_
    refine jo _ _ _ rfl ?_
    refine jn _ _ _ rfl ?_
    replace o := jy _ o
    refine dP.leaves _ _ _ rfl ?_
    obtain rfl := osome o
    exact bl _ _ _ _ (.inl rfl) wI (results2_ rfl (RVal.tmp_ pd) (RVal.tmp_ pe)) ⟨xq,rfl,sW⟩
   refine fl_skip ?_
   refine u6 _ _ ?_
   refine u5 _ _ ?_
   refine rq_seq 146 rn (bz 3) [dv [] [4] 145 (pt N 0),dv [0] [] 2 (pt N 0),dv [] [] 3 (Zi 0)] r0 nj ?_ ?_
   ·exact sM pc<|sA<|sO (or_assign rfl)<|steps_nil
   intro xr Ac AY wJ Bl y6 lQ dh
   have pf := gv (lQ [1] rfl) rfl
   have pg := gv (lQ [2] rfl) rfl
   have sX := es_ lA dh
   have g4 := be_ dh g0
   have g1 := re_ dh gX
   have g2 := RwN.evo rfl dh gY
   have g3 := re_ dh gZ
   refine fl_ret ?_
   replace o := jy _ o
   refine dP.leaves _ _ _ rfl ?_
   obtain rfl := osome o
   exact bl _ _ _ _ (.inl rfl) wJ (results2_ rfl (RVal.tmp_ pf) (RVal.tmp_ pg)) ⟨(rl [(841,2),(1147,1),(1154,3),(1155,4),(1159,5)] xr),((none,N),(a4,ba),(aK,aR),(bn,bq)),rfl,(Evo.rl_ sX (fun _=>Nat.le_refl 0) rfl),(RwO.rl_ g1),(RwO.rl_ (RwN.rw_ g2 (by decide))),(RwO.rl_ g3),(BlkO.rl_ g4)⟩
theorem pack_Open_w (w : World) (f : List Int) (b : Option Addr) (c : Nat) (g : RdO (fun _=>0) [0] w R5 b c f) (r : ((List Int) × (List (List Int)) × (List ((Int × Int × Int) × Int))) × Int) (h : pack_Open f = some (.inl r)) :
  Calls Try.prog 12 #[sl b f c] w fun e d=>∃ (a : Own) (x : (Option Addr × Nat) × (Option Addr × Nat) × (Option Addr × Nat) × (Option Addr × Nat)),e = .returned (.tuple #[.pointer (some ⟨x.1.2,0,none⟩),Zi r.2]) ∧ Evo [] (fun _=>0) a w d ∧ RwO a 2 [] d 5 R5 x.2.1.1 x.2.1.2 r.1.1 ∧ RwO a 3 [4] d 22 R22 x.2.2.1.1 x.2.2.1.2 r.1.2.1 ∧ RwO a 5 [] d 66 R66 x.2.2.2.1 x.2.2.2.2 r.1.2.2 ∧ BlkO a 1 d x.1.2 64 #[.slice x.2.1.1 r.1.1.length x.2.1.2,.slice x.2.2.1.1 r.1.2.1.length x.2.2.1.2,.slice x.2.2.2.1 r.1.2.2.length x.2.2.2.2] := pack_Open_z w f b c g (.inl r) h
theorem pack_Open_n (w : World) (d : List Int) (a : Option Addr) (b : Nat) (f : RdO (fun _=>0) [0] w R5 a b d) (x : Unit × Int) (g : pack_Open d = some (.inr x)) :
  Calls Try.prog 12 #[sl a d b] w fun e h=>∃ c : Own,e = .returned (.tuple #[.pointer none,Zi x.2]) ∧ Evo [] (fun _=>0) c w h := pack_Open_z w d a b f (.inr x) g
end Go.Proofs.Ytnmkonlfnpcoiaa
