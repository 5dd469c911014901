import Derived.Test.YtnmkonlfnpcoiaaWp5
import Derived.Test.YtnmkonlfnpcoiaaSp6
namespace Go.Proofs.Ytnmkonlfnpcoiaa
open Go.RowKit
set_option linter.unusedVariables false
set_option maxRecDepth 10000
theorem pack_Pack_Blobs_w (w : World) (k : (List Int) × (List (List Int)) × (List ((Int × Int × Int) × Int))) (c : Nat) (S : TypeId) (d : Option Addr) (h : Nat) (a : Option Addr) (b : Nat) (g : Option Addr) (i : Nat) (A : BlkO (fun _=>0) 0 w c S #[sl d k.1 h,sl a k.2.1 b,sl g k.2.2 i]) (G : RdO (fun _=>0) [0] w R5 d h k.1) (H : RdO (fun _=>0) [0] w R22 a b k.2.1) (I : RdO (fun _=>0) [0] w R66 g i k.2.2) (r : Int) (hs : pack_Pack_Blobs k = some r) :
  Calls Try.prog 13 #[pt c 0] w fun e w'=>∃ F : Own,e = .returned (Zi r) ∧ Evo [] (fun _=>0) F w w' := by
 refine fl_enter (n := 10) rfl rfl rfl (Nat.le_of_ble_eq_true rfl) ?_
 intro a0 Q d0 z0 m E
 have N := m 0 _ rfl
 clear m
 have M : Evo [] (fun _=>0) (fun _=>0) w w := Evo.refl _ _ _
 refine rq_seq 10 (fun _=>0) (bz 1) [dv [] [] 2 (Zi 0)] z0 d0 ?_ ?_
 ·exact sO (or_assign rfl)<|steps_nil
 intro O Z af J T B V s
 have j := kt B N
 have v := es_ M s
 refine fl_seq (fun Y D X=>?_)
 refine rq_seq 10 O (bz 2) [dv [] [0] 3 (pt c 0),dv [0] [] 4 (.bool false)] T J ?_ ?_
 ·exact sM j<|sF (fun f=>ok1 f.1)<|steps_nil
 intro P aa ag K U C y t
 have o := kt C j
 have p := gv (y [1] rfl) rfl
 have l := es_ v t
 refine fl_f p ?_
 refine fl_skip ?_
 refine D _ _ ?_
 refine rq_seq 10 P (bz 6) [dv [] [0] 5 (pt c 0),dv [0] [] 6 (pt c 0),dv [1] [] 7 (pt c 1),dv [2] [] 8 (sl a k.2.1 b),dv [3] [] 9 (Zi (k.2.1.length : Int)),dv [4] [] 2 (Zi (k.2.1.length : Int))] U K ?_ ?_
 ·exact sM o<|sF (fun f=>ok1 f.1)<|sF (fun f=>or_field fo64_1 f.1 (by rfl))<|sG to61 (be_ l A)<|sF (fun f=>or_len tu61 f.1 rfl)<|sA<|steps_nil
 intro R ab ah L aj W z u
 have q := gv (z [5] rfl) rfl
 have x := es_ l u
 refine fl_ret ?_
 obtain rfl := osome hs
 exact E _ _ _ _ (.inl rfl) L (results1_ rfl (RVal.tmp_ q)) ⟨R,rfl,x⟩
theorem pack_Pack_Len_w (w : World) (k : (List Int) × (List (List Int)) × (List ((Int × Int × Int) × Int))) (c : Nat) (S : TypeId) (d : Option Addr) (h : Nat) (g : Option Addr) (i : Nat) (a : Option Addr) (b : Nat) (A : BlkO (fun _=>0) 0 w c S #[sl d k.1 h,sl g k.2.1 i,sl a k.2.2 b]) (G : RdO (fun _=>0) [0] w R5 d h k.1) (H : RdO (fun _=>0) [0] w R22 g i k.2.1) (I : RdO (fun _=>0) [0] w R66 a b k.2.2) (r : Int) (hs : pack_Pack_Len k = some r) :
  Calls Try.prog 14 #[pt c 0] w fun e w'=>∃ F : Own,e = .returned (Zi r) ∧ Evo [] (fun _=>0) F w w' := by
 refine fl_enter (n := 10) rfl rfl rfl (Nat.le_of_ble_eq_true rfl) ?_
 intro a0 Q d0 z0 m E
 have N := m 0 _ rfl
 clear m
 have M : Evo [] (fun _=>0) (fun _=>0) w w := Evo.refl _ _ _
 refine rq_seq 10 (fun _=>0) (bz 1) [dv [] [] 2 (Zi 0)] z0 d0 ?_ ?_
 ·exact sO (or_assign rfl)<|steps_nil
 intro O Z af J T B V s
 have j := kt B N
 have v := es_ M s
 refine fl_seq (fun Y D X=>?_)
 refine rq_seq 10 O (bz 2) [dv [] [0] 3 (pt c 0),dv [0] [] 4 (.bool false)] T J ?_ ?_
 ·exact sM j<|sF (fun f=>ok1 f.1)<|steps_nil
 intro P aa ag K U C y t
 have o := kt C j
 have p := gv (y [1] rfl) rfl
 have l := es_ v t
 refine fl_f p ?_
 refine fl_skip ?_
 refine D _ _ ?_
 refine rq_seq 10 P (bz 6) [dv [] [0] 5 (pt c 0),dv [0] [] 6 (pt c 0),dv [1] [] 7 (pt c 2),dv [2] [] 8 (sl a k.2.2 b),dv [3] [] 9 (Zi (k.2.2.length : Int)),dv [4] [] 2 (Zi (k.2.2.length : Int))] U K ?_ ?_
 ·exact sM o<|sF (fun f=>ok1 f.1)<|sF (fun f=>or_field fo64_2 f.1 (by rfl))<|sG to62 (be_ l A)<|sF (fun f=>or_len tu62 f.1 rfl)<|sA<|steps_nil
 intro R ab ah L aj W z u
 have q := gv (z [5] rfl) rfl
 have x := es_ l u
 refine fl_ret ?_
 obtain rfl := osome hs
 exact E _ _ _ _ (.inl rfl) L (results1_ rfl (RVal.tmp_ q)) ⟨R,rfl,x⟩
theorem pack_Pack_Len_nil_w (w : World) (r : Int) (O : pack_Pack_Len_nil = some r) :
  Calls Try.prog 14 #[.pointer none] w fun e P=>∃ u : Own,e = .returned (Zi r) ∧ Evo [] (fun _=>0) u w P := by
 refine fl_enter (n := 10) rfl rfl rfl (Nat.le_of_ble_eq_true rfl) ?_
 intro W Q d0 U b t
 have B := b 0 _ rfl
 clear b
 have A : Evo [] (fun _=>0) (fun _=>0) w w := Evo.refl _ _ _
 refine rq_seq 10 (fun _=>0) (bz 1) [dv [] [] 2 (Zi 0)] U d0 ?_ ?_
 ·exact sO (or_assign rfl)<|steps_nil
 intro C L R v F p H g
 have a := kt p B
 have j := es_ A g
 refine fl_seq (fun K J s=>?_)
 refine rq_seq 10 C (bz 2) [dv [] [0] 3 (.pointer none),dv [0] [] 4 (.bool true)] F v ?_ ?_
 ·exact sM a<|sF (fun f=>ok1 f.1)<|steps_nil
 intro D M S x G q m h
 have z := kt q a
 have c := gv (m [1] rfl) rfl
 have k := es_ j h
 refine fl_t c ?_
 refine rq_seq 10 D (bz 1) [dv [] [] 2 (Zi 0)] G x ?_ ?_
 ·exact sO (or_assign rfl)<|steps_nil
 intro E N T y V I o i
 have d := gv (o [0] rfl) rfl
 have l := es_ k i
 refine fl_ret ?_
 refine s _ _ _ rfl ?_
 obtain rfl := osome O
 exact t _ _ _ _ (.inl rfl) y (results1_ rfl (RVal.tmp_ d)) ⟨E,rfl,l⟩
theorem law27_known_w (w : World) (r : Bool) (E : law27_known = some r) :
  Calls Try.prog 9 #[] w fun e w'=>∃ u : Own,e = .returned (.bool r) ∧ Evo [] (fun _=>0) u w w' := by
 refine fl_enter (n := 55) rfl rfl rfl (Nat.le_of_ble_eq_true rfl) ?_
 intro a0 Q d0 z0 cj bq
 clear cj
 have cJ : Evo [] (fun _=>0) (fun _=>0) w w := Evo.refl _ _ _
 refine rq_seq 55 (fun _=>0) (bz 1) [dv [] [] 0 (.bool false)] z0 d0 ?_ ?_
 ·exact sO (or_assign rfl)<|steps_nil
 intro cM db de cF cV c3 c2 ce
 have cg := es_ cJ ce
 obtain ⟨c,cn,E⟩ := obind E
 refine rq_seq 55 cM [0,1,3,3,7,31] [⟨[],[],[],Fct.mems [69] 8 (fun (x : Option Addr × Nat)=>.tuple #[.slice x.1 c.1.length x.2,Zi c.2]) (fun (x : Option Addr × Nat) own w=>RwO own 69 [] w 5 R5 x.1 x.2 c.1) (fun hk he h=>RwO.evo (hits_sub hk (by decide)) he h)⟩,⟨[0],[],[],Fct.rel [7,8] (fun l=>∀ (o : Option Addr) (d : Nat),l.getD 1 undef = .tuple #[sl o c.1 d,Zi c.2] → l.getD 0 undef = .tuple #[sl o c.1 d,Zi c.2])⟩,⟨[1,0],[],[],Fct.rel [9,8] (fun l=>∀ (o : Option Addr) (d : Nat),l.getD 1 undef = .tuple #[sl o c.1 d,Zi c.2] → l.getD 0 undef = sl o c.1 d)⟩,dv [1,0] [] 10 (Zi c.2),⟨[2,0],[],[],Fct.rel [1,8] (fun l=>∀ (o : Option Addr) (d : Nat),l.getD 1 undef = .tuple #[sl o c.1 d,Zi c.2] → l.getD 0 undef = sl o c.1 d)⟩,dv [3] [] 2 (Zi c.2)] cV cF ?_ ?_
 ·refine sO (or_call cf10 (args2 rfl rfl) (pack_Write_w _ ([] : List Int) none 0 ([] : List ((Int × Int × Int) × (List Int))) none 0 RdO.nil_ RdO.nil_ c cn) (post_mems (m := (fun _=>0)) (m' := (look0 [(1,69)])) (fun _ _=>.inl rfl) (fun u w' a' x h1 h=>⟨x,h1,RwO.back_ h (by decide) (.inl (Rep.fl_flat _))⟩))) ?_
  refine sc (fun own a O p t v=>?_) ?_
  ·obtain ⟨⟨⟨o,d⟩,(N : a.eval (.tmp 8) = .tuple #[sl o c.1 d,Zi c.2]),ao⟩,-⟩ := p
   exact px (or_mono (f := Fct.val 7 (.tuple #[sl o c.1 d,Zi c.2])) (or_move N) (fun u a' w' v' hp h=>fun _ _ y=>by cases (N.symm.trans ((hp.2 8 (by decide)).symm.trans y)); exact h))
  refine sc (fun own a O p t v=>?_) ?_
  ·obtain ⟨(b0 : ∀ (o : Option Addr) (d : Nat),a.eval (.tmp 8) = .tuple #[sl o c.1 d,Zi c.2] → a.eval (.tmp 7) = .tuple #[sl o c.1 d,Zi c.2]),⟨⟨o,d⟩,(N : a.eval (.tmp 8) = .tuple #[sl o c.1 d,Zi c.2]),ao⟩,-⟩ := p
   have bI := b0 _ _ N
   exact px (or_mono (f := Fct.val 9 (sl o c.1 d)) (ok1 bI) (fun u a' w' v' hp h=>fun _ _ y=>by cases (N.symm.trans ((hp.2 8 (by decide)).symm.trans y)); exact h))
  refine sc (fun own a O p t v=>?_) ?_
  ·obtain ⟨(b0 : ∀ (o : Option Addr) (d : Nat),a.eval (.tmp 8) = .tuple #[sl o c.1 d,Zi c.2] → a.eval (.tmp 7) = .tuple #[sl o c.1 d,Zi c.2]),⟨⟨o,d⟩,N,ao⟩,-⟩ := p
   have bI := b0 _ _ N
   exact px (ok1 bI)
  refine sc (fun own a O p t v=>?_) ?_
  ·obtain ⟨(cR : ∀ (o : Option Addr) (d : Nat),a.eval (.tmp 8) = .tuple #[sl o c.1 d,Zi c.2] → a.eval (.tmp 9) = sl o c.1 d),⟨⟨o,d⟩,(N : a.eval (.tmp 8) = .tuple #[sl o c.1 d,Zi c.2]),ao⟩,-⟩ := p
   have cI := cR _ _ N
   exact px (or_mono (f := Fct.val 1 (sl o c.1 d)) (or_assign cI) (fun u a' w' v' hp h=>fun _ _ y=>by cases (N.symm.trans ((hp.2 8 (by decide)).symm.trans y)); exact h))
  exact sA<|steps_nil
 intro cw bs cS cG cW c4 bm cf
 have bB := gv (bm [5] rfl) rfl
 obtain ⟨⟨⟨o,d⟩,(N : bs.eval (.tmp 8) = .tuple #[sl o c.1 d,Zi c.2]),(aE : RwO cw 69 [] cS 5 R5 o d c.1)⟩,(cO : ∀ (o : Option Addr) (d : Nat),bs.eval (.tmp 8) = .tuple #[sl o c.1 d,Zi c.2] → bs.eval (.tmp 1) = sl o c.1 d),-⟩ := bm [0,4] rfl
 have bA := cO _ _ N
 have ch := es_ cg cf
 obtain ⟨i,co,E⟩ := obind E
 refine rq_seq 55 cw [0,1,3,7,15,31,31,63,255] [⟨[],[],[],Fct.row 72 [] 12 5 R5 [7]⟩,⟨[0],[],[],Fct.rel [13,12] (fun l=>∀ (M : Option Addr) (z : Nat),l.getD 1 undef = .slice M [7].length z → l.getD 0 undef = .agg #[Zi 0,Zi 0,Zi 0,.slice M [7].length z])⟩,⟨[1,0],[],[],Fct.row 74 [72] 14 30 R30 [((0,0,0),[7])]⟩,⟨[2],[],[],Fct.mems [77] 15 (fun (x : Option Addr × Nat)=>.tuple #[.slice x.1 i.1.length x.2,Zi i.2]) (fun (x : Option Addr × Nat) own w=>RwO own 77 [] w 5 R5 x.1 x.2 i.1) (fun hk he h=>RwO.evo (hits_sub hk (by decide)) he h)⟩,⟨[3],[],[],Fct.rel [11,15] (fun l=>∀ (j : Option Addr) (b : Nat),l.getD 1 undef = .tuple #[sl j i.1 b,Zi i.2] → l.getD 0 undef = .tuple #[sl j i.1 b,Zi i.2])⟩,⟨[4,3],[],[],Fct.rel [16,15] (fun l=>∀ (j : Option Addr) (b : Nat),l.getD 1 undef = .tuple #[sl j i.1 b,Zi i.2] → l.getD 0 undef = sl j i.1 b)⟩,dv [4,3] [] 17 (Zi i.2),⟨[5,3],[],[],Fct.rel [3,15] (fun l=>∀ (j : Option Addr) (b : Nat),l.getD 1 undef = .tuple #[sl j i.1 b,Zi i.2] → l.getD 0 undef = sl j i.1 b)⟩,dv [6] [] 4 (Zi i.2)] cW cG ?_ ?_
 ·refine sO (or_lit (lab := 72) (e := 5) (cs := #[.int .u8 7]) (F := E5) (nw0) rfl rfl (show 1 ≤ maxLen by decide)) ?_
  refine sc (fun own a O p t v=>?_) ?_
  ·obtain ⟨⟨⟨M,z⟩,(ax : a.eval (.tmp 12) = .slice M [7].length z),aH⟩,-⟩ := p
   exact px (or_mono (f := Fct.val 13 (.agg #[Zi 0,Zi 0,Zi 0,.slice M [7].length z])) (ok1 ax) (fun u a' w' v' hp h=>fun _ _ y=>by cases (ax.symm.trans ((hp.2 12 (by decide)).symm.trans y)); exact h))
  refine sc (fun own a O p t v=>?_) ?_
  ·obtain ⟨(cx : ∀ (M : Option Addr) (z : Nat),a.eval (.tmp 12) = .slice M [7].length z → a.eval (.tmp 13) = .agg #[Zi 0,Zi 0,Zi 0,.slice M [7].length z]),⟨⟨M,z⟩,ax,aH⟩,-⟩ := p
   have b9 := cx _ _ ax
   exact px (or_litN (R := R30) (lab := 74) (L := [72]) (e := 30) (cs := #[Zi 0,Zi 0,Zi 0,.slice M [7].length z]) (l := [((0,0,0),[7])]) (n := 1) [(13,.agg #[Zi 0,Zi 0,Zi 0,.slice M [7].length z])] rfl rfl ⟨b9,trivial⟩ (by kernel_rfl) rfl (by decide) ⟨(Ex.iff X30).2 ⟨((),(M,z)),rfl,⟨trivial,(RwO.rd aH)⟩⟩,rfl⟩ rfl)
  refine sc (fun own a O p t v=>?_) ?_
  ·obtain ⟨⟨⟨cD,b4⟩,ca,bu⟩,-⟩ := p
   exact px (or_call cf10 (args2 rfl ca) (pack_Write_w _ ([] : List Int) none 0 [((0,0,0),[7])] cD b4 RdO.nil_ (RdO.zero (RwO.rd bu)) i co) (post_mems (m := (fun _=>0)) (m' := (look0 [(1,77)])) (fun _ _=>.inl rfl) (fun u w' a' x h1 h=>⟨x,h1,RwO.back_ h (by decide) (.inl (Rep.fl_flat _))⟩)))
  refine sc (fun own a O p t v=>?_) ?_
  ·obtain ⟨⟨⟨j,b⟩,(A : a.eval (.tmp 15) = .tuple #[sl j i.1 b,Zi i.2]),ap⟩,-⟩ := p
   exact px (or_mono (f := Fct.val 11 (.tuple #[sl j i.1 b,Zi i.2])) (or_move A) (fun u a' w' v' hp h=>fun _ _ y=>by cases (A.symm.trans ((hp.2 15 (by decide)).symm.trans y)); exact h))
  refine sc (fun own a O p t v=>?_) ?_
  ·obtain ⟨(a2 : ∀ (j : Option Addr) (b : Nat),a.eval (.tmp 15) = .tuple #[sl j i.1 b,Zi i.2] → a.eval (.tmp 11) = .tuple #[sl j i.1 b,Zi i.2]),⟨⟨j,b⟩,(A : a.eval (.tmp 15) = .tuple #[sl j i.1 b,Zi i.2]),ap⟩,-⟩ := p
   have aR := a2 _ _ A
   exact px (or_mono (f := Fct.val 16 (sl j i.1 b)) (ok1 aR) (fun u a' w' v' hp h=>fun _ _ y=>by cases (A.symm.trans ((hp.2 15 (by decide)).symm.trans y)); exact h))
  refine sc (fun own a O p t v=>?_) ?_
  ·obtain ⟨(a2 : ∀ (j : Option Addr) (b : Nat),a.eval (.tmp 15) = .tuple #[sl j i.1 b,Zi i.2] → a.eval (.tmp 11) = .tuple #[sl j i.1 b,Zi i.2]),⟨⟨j,b⟩,A,ap⟩,-⟩ := p
   have aR := a2 _ _ A
   exact px (ok1 aR)
  refine sc (fun own a O p t v=>?_) ?_
  ·obtain ⟨(cy : ∀ (j : Option Addr) (b : Nat),a.eval (.tmp 15) = .tuple #[sl j i.1 b,Zi i.2] → a.eval (.tmp 16) = sl j i.1 b),⟨⟨j,b⟩,(A : a.eval (.tmp 15) = .tuple #[sl j i.1 b,Zi i.2]),ap⟩,-⟩ := p
   have cb := cy _ _ A
   exact px (or_mono (f := Fct.val 3 (sl j i.1 b)) (or_assign cb) (fun u a' w' v' hp h=>fun _ _ y=>by cases (A.symm.trans ((hp.2 15 (by decide)).symm.trans y)); exact h))
  exact sA<|steps_nil
 intro bZ bt cU b8 cC ck bn bj
 obtain ⟨aO,aP⟩ := kt2 ck bA bB
 have aQ := gv (bn [8] rfl) rfl
 obtain ⟨⟨⟨j,b⟩,(A : bt.eval (.tmp 15) = .tuple #[sl j i.1 b,Zi i.2]),(G : RwO bZ 77 [] cU 5 R5 j b i.1)⟩,(cP : ∀ (j : Option Addr) (b : Nat),bt.eval (.tmp 15) = .tuple #[sl j i.1 b,Zi i.2] → bt.eval (.tmp 3) = sl j i.1 b),-⟩ := bn [3,7] rfl
 have af := cP _ _ A
 have bk := es_ ch bj
 have ak := re_ bj aE
 refine rngO_cases E (fun H cm E=>?_) (fun k cp E=>?_)
 ·refine rq_seq 55 bZ [0,1,3,7,7,15,63] [dv [] [3] 19 (sl j i.1 b),dv [0] [] 20 (.tuple #[.pointer none,Zi H.2]),dv [1] [] 18 (.tuple #[.pointer none,Zi H.2]),dv [2] [] 21 (.pointer none),dv [2] [] 22 (Zi H.2),dv [3] [] 5 (.pointer none),dv [4] [] 6 (Zi H.2)] cC b8 ?_ ?_
  ·exact sM af<|sFE (fun f v=>or_call cf12 (args1 f.1) (pack_Open_n _ i.1 j b (RdO.zero (RwO.rd (re_ v G))) H cm) post_val)<|sV<|sF (fun f=>ok1 f.1)<|sF (fun f=>ok1 f.1)<|sA<|sA<|steps_nil
  intro cN dd df cH cX cl bo aZ
  obtain ⟨bC,bD,bE,bF⟩ := kt4 cl aO aP af aQ
  have bG := gv (bo [5] rfl) rfl
  have bH := gv (bo [6] rfl) rfl
  have ci := es_ bk aZ
  have aF := re_ aZ ak
  have aG := re_ aZ G
  obtain ⟨Z,cr,E⟩ := obind E
  obtain ⟨cA,cq,E⟩ := obind E
  obtain ⟨Y,ct,E⟩ := obind E
  obtain ⟨V,bR,E⟩ := obind E
  refine rp_seq 55 cN [93,99] [0,1,3,7,15,31,63,127,255,511,1023,2047,2047,6143,16383,32767,65535,131071,131071,393215,1048575,2097151,4194303,8388607,16777215,33554431,67108863,134217727,268435455,536870911,1073741823,2147483647,4294967295] [dv [] [2] 23 (Zi c.2),dv [0] [] 24 (.bool (decide (c.2 = 0))),dv [1] [] 25 (.bool (decide (c.2 = 0))),dc [2] [4] (decide (c.2 = 0)) 26 (Zi i.2),dc [2,3] [] (decide (c.2 = 0)) 27 (.bool (decide (i.2 = 0))),dv [2,4] [] 28 (.bool Z),dv [5] [] 29 (.bool Z),dc [6] [6] Z 30 (Zi H.2),dc [6,7] [] Z 31 (.bool (decide (H.2 = 0))),dv [6,8] [] 32 (.bool (Z && (decide (H.2 = 0)))),dv [9] [] 33 (.bool (Z && (decide (H.2 = 0)))),dc [10] [1] (Z && (decide (H.2 = 0))) 34 (sl o c.1 d),⟨[10],[],[],Fct.cond (Z && (decide (H.2 = 0))) (some 35) (Fct.rowF 93 35 5 R5 [71,82,84,49,0,0,0])⟩,⟨[10,12],[],[93],Fct.cond (Z && (decide (H.2 = 0))) (some 36) (Fct.viewF [94] 36 R5 [71,82,84,49,0,0,0])⟩,dc [10,11,13] [] (Z && (decide (H.2 = 0))) 37 (.bool cA),dv [10,14] [] 38 (.bool Y),dv [15] [] 39 (.bool Y),dc [16] [3] Y 40 (sl j i.1 b),⟨[16],[],[],Fct.cond Y (some 41) (Fct.rowF 99 41 5 R5 [71,82,84,49,0,1,1,7,1,0,0,0,0])⟩,⟨[16,18],[],[99],Fct.cond Y (some 42) (Fct.viewF [100] 42 R5 [71,82,84,49,0,1,1,7,1,0,0,0,0])⟩,dc [16,17,19] [] Y 43 (.bool V),dv [16,20] [] 44 (.bool (Y && V)),dv [21] [] 45 (.bool (Y && V)),dc [22] [5] (Y && V) 46 (.pointer none),dc [22,23] [] (Y && V) 47 (Zi 0),dc [22,24] [] (Y && V) 48 (.bool false),dv [22,25] [] 49 (.bool false),dv [26] [] 50 (.bool false),dc [27] [] false 51 (.pointer none),dc [27] [] false 52 (Zi 0),dc [27] [] false 53 (.bool false),dv [27,30] [] 54 (.bool false),dv [31] [] 0 (.bool false)] cX cH ?_ ?_
  ·refine sM bD<|sF (fun f=>or_eql f.1 rfl rfl)<|sV<|cT (fun _ s _ _=>or_move (s.1.trans bF))<|cT (fun f _ _ q=>or_eql (f.2.1.1 q) rfl rfl)<|sF (fun f=>or_and f.1 (fun U=>f.2.1.1 U) rfl (osome cr).symm)<|sV<|cT (fun _ s _ _=>or_move (s.1.trans bH))<|cT (fun f _ _ q=>or_eql (f.2.1.1 q) rfl rfl)<|sF (fun f=>or_and f.1 (fun U=>f.2.1.1 U) rfl rfl)<|sV<|cT (fun _ s _ _=>or_move (s.1.trans bC))<|cT (fun _ _ _ _=>or_litF (lab := 93) (e := 5) (cs := #[.int .u8 71,.int .u8 82,.int .u8 84,.int .u8 49,.int .u8 0,.int .u8 0,.int .u8 0]) (F := E5) (nw0) rfl rfl (show 7 ≤ maxLen by decide)) ?_
   refine sc (fun own a O p t v=>?_) ?_
   ·obtain ⟨S,aJ,-⟩ := p
    refine sg_t rfl rfl rfl S (fun q=>?_)
    obtain ⟨c9,aU,bv⟩ := aJ.1 q
    exact or_convM (lab := 93) (lab2 := 94) tu22 tn5 aU bv (mem_of rfl) (by decide) (by simp)
   refine sc (fun own a O p t v=>?_) ?_
   ·obtain ⟨S,aI,aK,-⟩ := p
    refine sg_t rfl rfl rfl S (fun q=>?_)
    have aT := aI.1 q
    obtain ⟨cE,aV,bw⟩ := aK.1 q
    exact or_call cf11 (args2 aT aV) (ref07_Same_w _ c.1 o d [71,82,84,49,0,0,0] cE ([71,82,84,49,0,0,0].length) (RdO.zero (RwO.rd (re_ v aF))) (RdO.zero bw) cA (gd_t cq q)) post_val
   refine sF (fun f=>or_and f.1 (fun U=>f.2.1.1 U) rfl (osome ct).symm)<|sV<|cT (fun _ s _ _=>or_move (s.1.trans bE))<|cT (fun _ _ _ _=>or_litF (lab := 99) (e := 5) (cs := #[.int .u8 71,.int .u8 82,.int .u8 84,.int .u8 49,.int .u8 0,.int .u8 1,.int .u8 1,.int .u8 7,.int .u8 1,.int .u8 0,.int .u8 0,.int .u8 0,.int .u8 0]) (F := E5) (nw0) rfl rfl (show 13 ≤ maxLen by decide)) ?_
   refine sc (fun own a O p t v=>?_) ?_
   ·obtain ⟨T,aM,-⟩ := p
    refine sg_t rfl rfl rfl T (fun q=>?_)
    obtain ⟨da,aX,bx⟩ := aM.1 q
    exact or_convM (lab := 99) (lab2 := 100) tu22 tn5 aX bx (mem_of rfl) (by decide) (by simp)
   refine sc (fun own a O p t v=>?_) ?_
   ·obtain ⟨T,aL,aN,-⟩ := p
    refine sg_t rfl rfl rfl T (fun q=>?_)
    have aW := aL.1 q
    obtain ⟨b1,aY,a6⟩ := aN.1 q
    exact or_call cf11 (args2 aW aY) (ref07_Same_w _ i.1 j b [71,82,84,49,0,1,1,7,1,0,0,0,0] b1 ([71,82,84,49,0,1,1,7,1,0,0,0,0].length) (RdO.zero (RwO.rd (re_ v aG))) (RdO.zero a6) V (gd_t bR q)) post_val
   refine sF (fun f=>or_and f.1 (fun U=>f.2.1.1 U) rfl rfl)<|sV<|cT (fun _ s _ _=>or_move (s.1.trans bG))<|cT (fun f _ _ q=>or_call cf14 (args1 (f.2.1.1 q)) (pack_Pack_Len_nil_w _   0 rfl) post_val)<|cT (fun f _ _ q=>or_eql (f.2.1.1 q) rfl (by decide))<|sF (fun f=>or_and f.1 (fun U=>f.2.1.1 U) rfl (Bool.and_false _))<|sV ?_
   refine sc (fun own a O p t v=>?_) ?_
   ·obtain ⟨al,-⟩ := p
    refine sg_t rfl rfl rfl al (fun q=>?_)
    exact absurd q (by simp)
   refine sc (fun own a O p t v=>?_) ?_
   ·obtain ⟨al,-⟩ := p
    refine sg_t rfl rfl rfl al (fun q=>?_)
    exact absurd q (by simp)
   refine sc (fun own a O p t v=>?_) ?_
   ·obtain ⟨al,-⟩ := p
    refine sg_t rfl rfl rfl al (fun q=>?_)
    exact absurd q (by simp)
   exact sF (fun f=>or_and f.1 (fun U=>f.2.1.1 U) rfl rfl)<|sA<|steps_nil
  intro cu c0 c5 b5 c7 cK bO bJ
  have bb := gv (bO [32] rfl) rfl
  have bL := es_ ci bJ
  refine fl_ret ?_
  obtain rfl := osome E
  exact bq _ _ _ _ (.inl rfl) b5 (results1_ rfl (RVal.tmp_ bb)) ⟨cu,rfl,bL⟩
 refine rq_seq 55 bZ [0,1,3,7,7,15,63] [dv [] [3] 19 (sl j i.1 b),⟨[0],[],[],Fct.mems [84,85,86,87,88] 20 (fun (x : (Option Addr × Nat) × (Option Addr × Nat) × (Option Addr × Nat) × (Option Addr × Nat))=>.tuple #[.pointer (some ⟨x.1.2,0,none⟩),Zi k.2]) (fun (x : (Option Addr × Nat) × (Option Addr × Nat) × (Option Addr × Nat) × (Option Addr × Nat)) own w=>RwO own 84 [] w 5 R5 x.2.1.1 x.2.1.2 k.1.1 ∧ RwO own 85 [86] w 22 R22 x.2.2.1.1 x.2.2.1.2 k.1.2.1 ∧ RwO own 87 [] w 66 R66 x.2.2.2.1 x.2.2.2.2 k.1.2.2 ∧ BlkO own 88 w x.1.2 64 #[.slice x.2.1.1 k.1.1.length x.2.1.2,.slice x.2.2.1.1 k.1.2.1.length x.2.2.1.2,.slice x.2.2.2.1 k.1.2.2.length x.2.2.2.2]) (fun hk he h=>⟨RwO.evo (hits_sub hk (by decide)) he h.1,RwO.evo (hits_sub hk (by decide)) he h.2.1,RwO.evo (hits_sub hk (by decide)) he h.2.2.1,BlkO.evo (not_hit hk (by decide)) he h.2.2.2⟩)⟩,⟨[1],[],[],Fct.rel [18,20] (fun l=>∀ (g : Nat),l.getD 1 undef = .tuple #[pt g 0,Zi k.2] → l.getD 0 undef = .tuple #[pt g 0,Zi k.2])⟩,⟨[2,1],[],[],Fct.rel [21,20] (fun l=>∀ (g : Nat),l.getD 1 undef = .tuple #[pt g 0,Zi k.2] → l.getD 0 undef = pt g 0)⟩,dv [2,1] [] 22 (Zi k.2),⟨[3,1],[],[],Fct.rel [5,20] (fun l=>∀ (g : Nat),l.getD 1 undef = .tuple #[pt g 0,Zi k.2] → l.getD 0 undef = pt g 0)⟩,dv [4] [] 6 (Zi k.2)] cC b8 ?_ ?_
 ·refine sM af<|sFE (fun f v=>or_call cf12 (args1 f.1) (pack_Open_w _ i.1 j b (RdO.zero (RwO.rd (re_ v G))) k cp) (post_mems (m := (fun _=>0)) (m' := (look0 [(1,88),(2,84),(3,85),(4,86),(5,87)])) (fun _ _=>.inl rfl) (fun u w' a' x h1 h=>⟨x,h1,⟨RwO.back_ h.1 (by decide) (.inl (Rep.fl_flat _)),RwO.back_ h.2.1 (by decide) (.inr (by decide)),RwO.back_ h.2.2.1 (by decide) (.inl (Rep.fl_flat _)),BlkO.back_ h.2.2.2 (by decide)⟩⟩))) ?_
  refine sc (fun own a O p t v=>?_) ?_
  ·obtain ⟨⟨⟨⟨a5,g⟩,⟨ah,I⟩,⟨ai,J⟩,⟨aj,K⟩⟩,(B : a.eval (.tmp 20) = .tuple #[pt g 0,Zi k.2]),aq,ar,au,ae⟩,-⟩ := p
   exact px (or_mono (f := Fct.val 18 (.tuple #[pt g 0,Zi k.2])) (or_move B) (fun u a' w' v' hp h=>fun _ y=>by cases (B.symm.trans ((hp.2 20 (by decide)).symm.trans y)); exact h))
  refine sc (fun own a O p t v=>?_) ?_
  ·obtain ⟨(a3 : ∀ (g : Nat),a.eval (.tmp 20) = .tuple #[pt g 0,Zi k.2] → a.eval (.tmp 18) = .tuple #[pt g 0,Zi k.2]),⟨⟨⟨a5,g⟩,⟨ah,I⟩,⟨ai,J⟩,⟨aj,K⟩⟩,(B : a.eval (.tmp 20) = .tuple #[pt g 0,Zi k.2]),aq,ar,au,ae⟩,-⟩ := p
   have aS := a3 _ B
   exact px (or_mono (f := Fct.val 21 (pt g 0)) (ok1 aS) (fun u a' w' v' hp h=>fun _ y=>by cases (B.symm.trans ((hp.2 20 (by decide)).symm.trans y)); exact h))
  refine sc (fun own a O p t v=>?_) ?_
  ·obtain ⟨(a3 : ∀ (g : Nat),a.eval (.tmp 20) = .tuple #[pt g 0,Zi k.2] → a.eval (.tmp 18) = .tuple #[pt g 0,Zi k.2]),⟨⟨⟨a5,g⟩,⟨ah,I⟩,⟨ai,J⟩,⟨aj,K⟩⟩,B,aq,ar,au,ae⟩,-⟩ := p
   have aS := a3 _ B
   exact px (ok1 aS)
  refine sc (fun own a O p t v=>?_) ?_
  ·obtain ⟨(cz : ∀ (g : Nat),a.eval (.tmp 20) = .tuple #[pt g 0,Zi k.2] → a.eval (.tmp 21) = pt g 0),⟨⟨⟨a5,g⟩,⟨ah,I⟩,⟨ai,J⟩,⟨aj,K⟩⟩,(B : a.eval (.tmp 20) = .tuple #[pt g 0,Zi k.2]),aq,ar,au,ae⟩,-⟩ := p
   have cc := cz _ B
   exact px (or_mono (f := Fct.val 5 (pt g 0)) (or_assign cc) (fun u a' w' v' hp h=>fun _ y=>by cases (B.symm.trans ((hp.2 20 (by decide)).symm.trans y)); exact h))
  exact sA<|steps_nil
 intro am aD az b6 cB bQ a1 av
 obtain ⟨bc,bd,be,bf⟩ := kt4 bQ aO aP af aQ
 have bg := gv (a1 [6] rfl) rfl
 obtain ⟨⟨⟨⟨a5,g⟩,⟨ah,I⟩,⟨ai,J⟩,⟨aj,K⟩⟩,(B : aD.eval (.tmp 20) = .tuple #[pt g 0,Zi k.2]),(aa : RwO am 84 [] az 5 R5 ah I k.1.1),(ab : RwO am 85 [86] az 22 R22 ai J k.1.2.1),(ad : RwO am 87 [] az 66 R66 aj K k.1.2.2),(P : BlkO am 88 az g 64 #[sl ah k.1.1 I,sl ai k.1.2.1 J,sl aj k.1.2.2 K])⟩,(cQ : ∀ (g : Nat),aD.eval (.tmp 20) = .tuple #[pt g 0,Zi k.2] → aD.eval (.tmp 5) = pt g 0),-⟩ := a1 [1,5] rfl
 have aw := cQ _ B
 have bM := es_ bk av
 have aA := re_ av ak
 have aB := re_ av G
 obtain ⟨D,bW,E⟩ := obind E
 obtain ⟨br,bS,E⟩ := obind E
 obtain ⟨C,bX,E⟩ := obind E
 obtain ⟨W,bT,E⟩ := obind E
 obtain ⟨a4,bU,E⟩ := obind E
 obtain ⟨X,bY,E⟩ := obind E
 obtain ⟨an,bV,E⟩ := obind E
 refine rp_seq 55 am [107,113] [0,1,3,7,15,31,63,127,255,511,1023,2047,2047,6143,16383,32767,65535,131071,131071,393215,1048575,2097151,4194303,8388607,16777215,33554431,67108863,134217727,268435455,536870911,1073741823,2147483647,4294967295] [dv [] [2] 23 (Zi c.2),dv [0] [] 24 (.bool (decide (c.2 = 0))),dv [1] [] 25 (.bool (decide (c.2 = 0))),dc [2] [4] (decide (c.2 = 0)) 26 (Zi i.2),dc [2,3] [] (decide (c.2 = 0)) 27 (.bool (decide (i.2 = 0))),dv [2,4] [] 28 (.bool D),dv [5] [] 29 (.bool D),dc [6] [6] D 30 (Zi k.2),dc [6,7] [] D 31 (.bool (decide (k.2 = 0))),dv [6,8] [] 32 (.bool (D && (decide (k.2 = 0)))),dv [9] [] 33 (.bool (D && (decide (k.2 = 0)))),dc [10] [1] (D && (decide (k.2 = 0))) 34 (sl o c.1 d),⟨[10],[],[],Fct.cond (D && (decide (k.2 = 0))) (some 35) (Fct.rowF 107 35 5 R5 [71,82,84,49,0,0,0])⟩,⟨[10,12],[],[107],Fct.cond (D && (decide (k.2 = 0))) (some 36) (Fct.viewF [108] 36 R5 [71,82,84,49,0,0,0])⟩,dc [10,11,13] [] (D && (decide (k.2 = 0))) 37 (.bool br),dv [10,14] [] 38 (.bool C),dv [15] [] 39 (.bool C),dc [16] [3] C 40 (sl j i.1 b),⟨[16],[],[],Fct.cond C (some 41) (Fct.rowF 113 41 5 R5 [71,82,84,49,0,1,1,7,1,0,0,0,0])⟩,⟨[16,18],[],[113],Fct.cond C (some 42) (Fct.viewF [114] 42 R5 [71,82,84,49,0,1,1,7,1,0,0,0,0])⟩,dc [16,17,19] [] C 43 (.bool W),dv [16,20] [] 44 (.bool (C && W)),dv [21] [] 45 (.bool (C && W)),dc [22] [5] (C && W) 46 (pt g 0),dc [22,23] [] (C && W) 47 (Zi a4),dc [22,24] [] (C && W) 48 (.bool (decide (a4 = 1))),dv [22,25] [] 49 (.bool X),dv [26] [] 50 (.bool X),dc [27] [5] X 51 (pt g 0),dc [27,28] [] X 52 (Zi an),dc [27,29] [] X 53 (.bool (decide (an = 1))),dv [27,30] [] 54 (.bool (X && (decide (an = 1)))),dv [31] [] 0 (.bool (X && (decide (an = 1))))] cB b6 ?_ ?_
 ·refine sM bd<|sF (fun f=>or_eql f.1 rfl rfl)<|sV<|cT (fun _ s _ _=>or_move (s.1.trans bf))<|cT (fun f _ _ q=>or_eql (f.2.1.1 q) rfl rfl)<|sF (fun f=>or_and f.1 (fun U=>f.2.1.1 U) rfl (osome bW).symm)<|sV<|cT (fun _ s _ _=>or_move (s.1.trans bg))<|cT (fun f _ _ q=>or_eql (f.2.1.1 q) rfl rfl)<|sF (fun f=>or_and f.1 (fun U=>f.2.1.1 U) rfl rfl)<|sV<|cT (fun _ s _ _=>or_move (s.1.trans bc))<|cT (fun _ _ _ _=>or_litF (lab := 107) (e := 5) (cs := #[.int .u8 71,.int .u8 82,.int .u8 84,.int .u8 49,.int .u8 0,.int .u8 0,.int .u8 0]) (F := E5) (nw0) rfl rfl (show 7 ≤ maxLen by decide)) ?_
  refine sc (fun own a O p t v=>?_) ?_
  ·obtain ⟨S,aJ,-⟩ := p
   refine sg_t rfl rfl rfl S (fun q=>?_)
   obtain ⟨cY,aU,a7⟩ := aJ.1 q
   exact or_convM (lab := 107) (lab2 := 108) tu22 tn5 aU a7 (mem_of rfl) (by decide) (by simp)
  refine sc (fun own a O p t v=>?_) ?_
  ·obtain ⟨S,aI,aK,-⟩ := p
   refine sg_t rfl rfl rfl S (fun q=>?_)
   have aT := aI.1 q
   obtain ⟨b2,aV,a8⟩ := aK.1 q
   exact or_call cf11 (args2 aT aV) (ref07_Same_w _ c.1 o d [71,82,84,49,0,0,0] b2 ([71,82,84,49,0,0,0].length) (RdO.zero (RwO.rd (re_ v aA))) (RdO.zero a8) br (gd_t bS q)) post_val
  refine sF (fun f=>or_and f.1 (fun U=>f.2.1.1 U) rfl (osome bX).symm)<|sV<|cT (fun _ s _ _=>or_move (s.1.trans be))<|cT (fun _ _ _ _=>or_litF (lab := 113) (e := 5) (cs := #[.int .u8 71,.int .u8 82,.int .u8 84,.int .u8 49,.int .u8 0,.int .u8 1,.int .u8 1,.int .u8 7,.int .u8 1,.int .u8 0,.int .u8 0,.int .u8 0,.int .u8 0]) (F := E5) (nw0) rfl rfl (show 13 ≤ maxLen by decide)) ?_
  refine sc (fun own a O p t v=>?_) ?_
  ·obtain ⟨T,aM,-⟩ := p
   refine sg_t rfl rfl rfl T (fun q=>?_)
   obtain ⟨cZ,aX,a9⟩ := aM.1 q
   exact or_convM (lab := 113) (lab2 := 114) tu22 tn5 aX a9 (mem_of rfl) (by decide) (by simp)
  refine sc (fun own a O p t v=>?_) ?_
  ·obtain ⟨T,aL,aN,-⟩ := p
   refine sg_t rfl rfl rfl T (fun q=>?_)
   have aW := aL.1 q
   obtain ⟨b3,aY,ba⟩ := aN.1 q
   exact or_call cf11 (args2 aW aY) (ref07_Same_w _ i.1 j b [71,82,84,49,0,1,1,7,1,0,0,0,0] b3 ([71,82,84,49,0,1,1,7,1,0,0,0,0].length) (RdO.zero (RwO.rd (re_ v aB))) (RdO.zero ba) W (gd_t bT q)) post_val
  exact sF (fun f=>or_and f.1 (fun U=>f.2.1.1 U) rfl rfl)<|sV<|cT (fun _ s _ _=>or_move (s.1.trans aw))<|cT (fun f _ v q=>or_call cf14 (args1 (f.2.1.1 q)) (pack_Pack_Len_w _ k.1 g 64 ah I ai J aj K (BlkO.zero_ (be_ v P)) (RdO.zero (RwO.rd (re_ v aa))) (RdO.zero (RwO.rd (re_ v ab))) (RdO.zero (RwO.rd (re_ v ad))) a4 (gd_t bU q)) post_val)<|cT (fun f _ _ q=>or_eql (f.2.1.1 q) rfl rfl)<|sF (fun f=>or_and f.1 (fun U=>f.2.1.1 U) rfl (osome bY).symm)<|sV<|cT (fun _ s _ _=>or_move (s.1.trans aw))<|cT (fun f _ v q=>or_call cf13 (args1 (f.2.1.1 q)) (pack_Pack_Blobs_w _ k.1 g 64 ah I ai J aj K (BlkO.zero_ (be_ v P)) (RdO.zero (RwO.rd (re_ v aa))) (RdO.zero (RwO.rd (re_ v ab))) (RdO.zero (RwO.rd (re_ v ad))) an (gd_t bV q)) post_val)<|cT (fun f _ _ q=>or_eql (f.2.1.1 q) rfl rfl)<|sF (fun f=>or_and f.1 (fun U=>f.2.1.1 U) rfl rfl)<|sA<|steps_nil
 intro cv c1 c6 b7 c8 cL bP bK
 have bh := gv (bP [32] rfl) rfl
 have bN := es_ bM bK
 refine fl_ret ?_
 obtain rfl := osome E
 exact bq _ _ _ _ (.inl rfl) b7 (results1_ rfl (RVal.tmp_ bh)) ⟨cv,rfl,bN⟩
theorem ref16_Level_w (w : World) (b : Int) (r : Bool) (y : ref16_Level b = some r) :
  Calls Try.prog 51 #[Zi b] w fun e I=>∃ p : Own,e = .returned (.bool r) ∧ Evo [] (fun _=>0) p w I := by
 refine fl_enter (n := 9) rfl rfl rfl (Nat.le_of_ble_eq_true rfl) ?_
 intro N Q d0 L c m
 have x := c 0 _ rfl
 clear c
 have v : Evo [] (fun _=>0) (fun _=>0) w w := Evo.refl _ _ _
 refine rq_seq 9 (fun _=>0) (bz 1) [dv [] [] 2 (.bool false)] L d0 ?_ ?_
 ·exact sO (or_assign rfl)<|steps_nil
 intro z E J t B l C g
 have a := kt l x
 have i := es_ v g
 obtain ⟨q,o,y⟩ := obind y
 refine rq_seq 9 z (bz 7) [dv [] [0] 3 (Zi b),dv [0] [] 4 (.bool (decide (0 ≤ b))),dv [1] [] 5 (.bool (decide (0 ≤ b))),dc [2] [0] (decide (0 ≤ b)) 6 (Zi b),dc [2,3] [] (decide (0 ≤ b)) 7 (.bool (decide (b ≤ 4))),dv [2,4] [] 8 (.bool q),dv [5] [] 2 (.bool q)] B t ?_ ?_
 ·exact sM a<|sF (fun f=>or_geq f.1 rfl rfl)<|sV<|cT (fun _ s _ _=>or_move (s.1.trans a))<|cT (fun f _ _ G=>or_leq (f.2.1.1 G) rfl rfl)<|sF (fun f=>or_and f.1 (fun H=>f.2.1.1 H) rfl (osome o).symm)<|sA<|steps_nil
 intro A F K u M D k h
 have d := gv (k [6] rfl) rfl
 have j := es_ i h
 refine fl_ret ?_
 obtain rfl := (osome y).symm
 exact m _ _ _ _ (.inl rfl) u (results1_ rfl (RVal.tmp_ d)) ⟨A,rfl,j⟩
theorem ref01_Power_w (w : World) (H : Int) (r : Int) (i : ref01_Power H = some r) :
  Calls Try.prog 52 #[Zi H] w fun e w'=>∃ ay : Own,e = .returned (Zi r) ∧ Evo [] (fun _=>0) ay w w' := by
 refine fl_enter (n := 13) rfl rfl rfl (Nat.le_of_ble_eq_true rfl) ?_
 intro a0 Q d0 z0 k av
 have aK := k 0 _ rfl
 clear k
 have aJ : Evo [] (fun _=>0) (fun _=>0) w w := Evo.refl _ _ _
 refine rq_seq 13 (fun _=>0) (bz 1) [dv [] [] 2 (Zi 0)] z0 d0 ?_ ?_
 ·exact sO (or_assign rfl)<|steps_nil
 intro aL be bn aC aS ag aZ J
 have l := kt ag aK
 have S := es_ aJ J
 refine rq_seq 13 aL (bz 1) [dv [] [] 3 (Zi 1)] aS aC ?_ ?_
 ·exact sO (or_assign rfl)<|steps_nil
 intro aM bf bo aD aT ah Y K
 have m := kt ah l
 have o := gv (Y [0] rfl) rfl
 have T := es_ S K
 refine fl_seq (fun a8 am a3=>?_)
 refine rq_seq 13 aM (bz 1) [dv [] [] 4 (Zi 0)] aT aD ?_ ?_
 ·exact sO (or_assign rfl)<|steps_nil
 intro aN bg bp aE aU ai Z L
 obtain ⟨p,q⟩ := kt2 ai m o
 have t := gv (Z [0] rfl) rfl
 have U := es_ T L
 refine fl_block (fun a9 a2 aw a4=>?_)
 refine fl_loop (body := (fun s=>ref01_Power_b1 H s.1 s.2)) (z := r) (show loopO _ _ = _ from i) (fun (s : Int × Int) a wx=>match s with | (c,b)=>∃ (ox : Own),a.defers = [] ∧ a.tmps.size = 13 ∧ a.eval (.tmp 0) = Zi H ∧ a.eval (.tmp 3) = Zi c ∧ a.eval (.tmp 4) = Zi b ∧ Evo [] (fun _=>0) ox w wx) ?_ ?_
 ·exact ⟨aN,aE,aU,p,q,t,U⟩
 ·rintro ⟨c,b⟩ aA bh bq ⟨aO,aF,aW,d,u,g,M⟩ i ba an ar aV
  have i : ref01_Power_b1 H c b = some aA := i
  refine fl_seq (fun bb ao au=>?_)
  refine rq_seq 13 aO [0,0,3] [dv [] [4] 5 (Zi b),dv [] [0] 6 (Zi H),dv [0,1] [] 7 (.bool (decide (b < H)))] aW aF ?_ ?_
  ·exact sM g<|sM d<|sF (fun f=>or_lss f.1 f.2.1 rfl)<|steps_nil
  intro ax bi br I az aj aa N
  obtain ⟨v,h,x⟩ := kt3 aj d u g
  have y := gv (aa [2] rfl) rfl
  have j := es_ M N
  refine fl_cond y i (fun aB i=>?_) (fun aB i=>?_)
  ·refine fl_skip ?_
   refine ao _ _ ?_
   refine fl_seq (fun bc ap a5=>?_)
   refine fl_block (fun bd aq a7 a6=>?_)
   refine rq 13 ax (bz 3) [dv [] [3] 10 (Zi c),dv [0] [] 11 (Zi (ml 2 c)),dv [1] [] 3 (Zi (ml 2 c))] az I ?_ ?_
   ·exact sM h<|sF (fun f=>or_mul rfl f.1 rfl)<|sA<|steps_nil
   intro aP bj bs aG aX ak ab O
   obtain ⟨A,C⟩ := kt2 ak v x
   have B := gv (ab [2] rfl) rfl
   have V := es_ j O
   refine aq _ _ ?_
   refine ap _ _ ?_
   refine rq 13 aP (bz 3) [dv [] [4] 8 (Zi b),dv [0] [] 9 (Zi (ad b 1)),dv [1] [] 4 (Zi (ad b 1))] aX aG ?_ ?_
   ·exact sM C<|sF (fun f=>or_add f.1 rfl rfl)<|sA<|steps_nil
   intro aQ bk bt aH aY al ae P
   obtain ⟨D,E⟩ := kt2 al A B
   have F := gv (ae [2] rfl) rfl
   have W := es_ V P
   exact an _ _ _ i ⟨aQ,aH,aY,D,E,F,W⟩
  refine fl_exit ?_
  refine au _ _ _ rfl ?_
  replace i := aV _ i
  refine ar _ _ _ rfl ?_
  refine aw _ _ ?_
  refine am _ _ ?_
  refine rq_seq 13 ax (bz 2) [dv [] [3] 12 (Zi c),dv [0] [] 2 (Zi c)] az I ?_ ?_
  ·exact sM h<|sA<|steps_nil
  intro aR bl bu aI bx a1 af R
  have G := gv (af [1] rfl) rfl
  have X := es_ j R
  refine fl_ret ?_
  obtain rfl := (osome i).symm
  exact av _ _ _ _ (.inl rfl) aI (results1_ rfl (RVal.tmp_ G)) ⟨aR,rfl,X⟩
theorem ref20_Right_w (w : World) (b : Int × Int × Int) (r : Bool) (l : ref20_Right b = some r) :
  Calls Try.prog 32 #[.agg #[Zi b.1,Zi b.2.1,Zi b.2.2]] w fun e W=>∃ I : Own,e = .returned (.bool r) ∧ Evo [] (fun _=>0) I w W := by
 refine fl_enter (n := 32) rfl rfl rfl (Nat.le_of_ble_eq_true rfl) ?_
 intro a0 Q d0 Y m E
 have O := m 0 _ rfl
 clear m
 have N : Evo [] (fun _=>0) (fun _=>0) w w := Evo.refl _ _ _
 refine rq_seq 32 (fun _=>0) [0,0] [⟨[],[0],[],Fct.blk 21 1 (fun g=>pt g 0) 75 #[Zi b.1,Zi b.2.1,Zi b.2.2]⟩,dv [] [] 2 (.bool false)] Y d0 ?_ ?_
 ·exact sS (fun s=>nw1 (s.1.trans O))<|sO (or_assign rfl)<|steps_nil
 intro H K R L S T z u
 obtain ⟨⟨j,(c : K.eval (.tmp 1) = pt j 0),(a : BlkO H 21 R j 75 #[Zi b.1,Zi b.2.1,Zi b.2.2])⟩,-⟩ := z [0] rfl
 have x := es_ N u
 obtain ⟨d,B,l⟩ := obind l
 obtain ⟨q,C,l⟩ := obind l
 obtain ⟨i,F,l⟩ := obind l
 obtain ⟨t,D,l⟩ := obind l
 obtain ⟨J,G,l⟩ := obind l
 refine rd_seq g_mixed 32 [] H [] [0,1,3,7,15,31,63,127,255,511,1023,511,2559,6655,16383,32767,65535,131071,262143,524287,1048575,2097151,4194303,8388607,4194303,20971519,54525951,134217727,268435455,536870911] [dv [] [1] 3 (pt j 0),dv [0] [] 4 (Zi b.1),dv [1] [] 5 (.bool d),dv [2] [] 6 (.bool d),dc [3] [1] d 7 (pt j 1),dc [3,4] [] d 8 (Zi b.2.1),dc [3,5] [] d 9 (.bool (decide (0 ≤ b.2.1))),dv [3,6] [] 10 (.bool (d && (decide (0 ≤ b.2.1)))),dv [7] [] 11 (.bool (d && (decide (0 ≤ b.2.1)))),dc [8] [1] (d && (decide (0 ≤ b.2.1))) 12 (pt j 1),dc [8,9] [] (d && (decide (0 ≤ b.2.1))) 13 (Zi b.2.1),dc [8] [1] (d && (decide (0 ≤ b.2.1))) 14 (pt j 0),dc [8,11] [] (d && (decide (0 ≤ b.2.1))) 15 (Zi b.1),dc [8,12] [] (d && (decide (0 ≤ b.2.1))) 16 (Zi q),dc [8,10,13] [] (d && (decide (0 ≤ b.2.1))) 17 (.bool (decide (b.2.1 < q))),dv [8,14] [] 18 (.bool i),dv [15] [] 19 (.bool i),dc [16] [1] i 20 (pt j 2),dc [16,17] [] i 21 (Zi b.2.2),dc [16,18] [] i 22 (.bool (decide (0 ≤ b.2.2))),dv [16,19] [] 23 (.bool (i && (decide (0 ≤ b.2.2)))),dv [20] [] 24 (.bool (i && (decide (0 ≤ b.2.2)))),dc [21] [1] (i && (decide (0 ≤ b.2.2))) 25 (pt j 2),dc [21,22] [] (i && (decide (0 ≤ b.2.2))) 26 (Zi b.2.2),dc [21] [1] (i && (decide (0 ≤ b.2.2))) 27 (pt j 0),dc [21,24] [] (i && (decide (0 ≤ b.2.2))) 28 (Zi b.1),dc [21,25] [] (i && (decide (0 ≤ b.2.2))) 29 (Zi t),dc [21,23,26] [] (i && (decide (0 ≤ b.2.2))) 30 (.bool (decide (b.2.2 < t))),dv [21,27] [] 31 (.bool J),dv [28] [] 2 (.bool J)] S L nm_ ?_ ?_
 ·exact sS (fun s=>or_field fo75_0 (s.1.trans c) (by rfl))<|sG to3 a<|sF (fun f=>or_call cf51 (args1 f.1) (ref16_Level_w _ b.1  d B) post_val)<|sV<|cT (fun _ s _ _=>or_field fo75_1 (s.1.trans c) (by rfl))<|cT (fun f _ k h=>ld1 to3 (f.2.1.1 h) (be_ k a))<|cT (fun f _ _ h=>or_geq (f.2.1.1 h) rfl rfl)<|sF (fun f=>or_and f.1 (fun p=>f.2.1.1 p) rfl rfl)<|sV<|cT (fun _ s _ _=>or_field fo75_1 (s.1.trans c) (by rfl))<|cT (fun f _ k h=>ld1 to3 (f.2.1.1 h) (be_ k a))<|cT (fun _ s _ _=>or_field fo75_0 (s.1.trans c) (by rfl))<|cT (fun f _ k h=>ld1 to3 (f.2.1.1 h) (be_ k a))<|cT (fun f _ _ h=>or_call cf52 (args1 (f.2.1.1 h)) (ref01_Power_w _ b.1  q (gd_t C h)) post_val)<|cT (fun f _ _ h=>or_lss (f.2.1.1 h) (f.2.2.1.1 h) rfl)<|sF (fun f=>or_and f.1 (fun p=>f.2.1.1 p) rfl (osome F).symm)<|sV<|cT (fun _ s _ _=>or_field fo75_2 (s.1.trans c) (by rfl))<|cT (fun f _ k h=>ld1 to3 (f.2.1.1 h) (be_ k a))<|cT (fun f _ _ h=>or_geq (f.2.1.1 h) rfl rfl)<|sF (fun f=>or_and f.1 (fun p=>f.2.1.1 p) rfl rfl)<|sV<|cT (fun _ s _ _=>or_field fo75_2 (s.1.trans c) (by rfl))<|cT (fun f _ k h=>ld1 to3 (f.2.1.1 h) (be_ k a))<|cT (fun _ s _ _=>or_field fo75_0 (s.1.trans c) (by rfl))<|cT (fun f _ k h=>ld1 to3 (f.2.1.1 h) (be_ k a))<|cT (fun f _ _ h=>or_call cf52 (args1 (f.2.1.1 h)) (ref01_Power_w _ b.1  t (gd_t D h)) post_val)<|cT (fun f _ _ h=>or_lss (f.2.1.1 h) (f.2.2.1.1 h) rfl)<|sF (fun f=>or_and f.1 (fun p=>f.2.1.1 p) rfl (osome G).symm)<|sA<|steps_nil
 intro P V X M Z U A v
 have o := gv (A [29] rfl) rfl
 have y := es_ x v
 refine fl_ret ?_
 obtain rfl := (osome l).symm
 exact E _ _ _ _ (.inl rfl) M (results1_ rfl (RVal.tmp_ o)) ⟨P,rfl,y⟩
theorem ref20_Less_w (w : World) (d : Int × Int × Int) (a : Int × Int × Int) (r : Bool) (A : ref20_Less d a = some r) :
  Calls Try.prog 33 #[.agg #[Zi d.1,Zi d.2.1,Zi d.2.2],.agg #[Zi a.1,Zi a.2.1,Zi a.2.2]] w fun e w'=>∃ al : Own,e = .returned (.bool r) ∧ Evo [] (fun _=>0) al w w' := by
 refine fl_enter (n := 30) rfl rfl rfl (Nat.le_of_ble_eq_true rfl) ?_
 intro a0 Q d0 z0 x y
 have ay := x 0 _ rfl
 have az := x 1 _ rfl
 clear x
 have ax : Evo [] (fun _=>0) (fun _=>0) w w := Evo.refl _ _ _
 refine rq_seq 30 (fun _=>0) [0,0,0] [⟨[],[0],[],Fct.blk 26 2 (fun g=>pt g 0) 75 #[Zi d.1,Zi d.2.1,Zi d.2.2]⟩,⟨[],[1],[],Fct.blk 28 3 (fun g=>pt g 0) 75 #[Zi a.1,Zi a.2.1,Zi a.2.2]⟩,dv [] [] 4 (.bool false)] z0 d0 ?_ ?_
 ·exact sS (fun s=>nw1 (s.1.trans ay))<|sS (fun s=>nw1 (s.1.trans az))<|sO (or_assign rfl)<|steps_nil
 intro J K am ar aD aE W N
 obtain ⟨⟨o,(q : K.eval (.tmp 2) = pt o 0),(h : BlkO J 26 am o 75 #[Zi d.1,Zi d.2.1,Zi d.2.2])⟩,⟨p,(t : K.eval (.tmp 3) = pt p 0),(i : BlkO J 28 am p 75 #[Zi a.1,Zi a.2.1,Zi a.2.2])⟩,-⟩ := W [0,1] rfl
 have S := es_ ax N
 refine fl_seq (fun aI af ah=>?_)
 refine rq_seq 30 J [0,1,0,4,15] [dv [] [2] 5 (pt o 0),dv [0] [] 6 (Zi d.1),dv [] [3] 7 (pt p 0),dv [2] [] 8 (Zi a.1),dv [1,3] [] 9 (.bool (!decide (d.1 = a.1)))] aD ar ?_ ?_
 ·exact sS (fun s=>or_field fo75_0 (s.1.trans q) (by rfl))<|sG to3 h<|sS (fun s=>or_field fo75_0 (s.1.trans t) (by rfl))<|sG to3 i<|sF (fun f=>or_neq f.1 f.2.1 rfl)<|steps_nil
 intro aj aK aQ L an ad X B
 obtain ⟨l,m⟩ := kt2 ad q t
 have F := gv (X [4] rfl) rfl
 have D := es_ S B
 obtain ⟨b,c⟩ := be2 B h i
 refine fl_cond F A (fun ap A=>?_) (fun ap A=>?_)
 ·refine rq_seq 30 aj [0,1,0,4,15,31] [dv [] [2] 10 (pt o 0),dv [0] [] 11 (Zi d.1),dv [] [3] 12 (pt p 0),dv [2] [] 13 (Zi a.1),dv [1,3] [] 14 (.bool (decide (d.1 < a.1))),dv [4] [] 4 (.bool (decide (d.1 < a.1)))] an L ?_ ?_
  ·exact sS (fun s=>or_field fo75_0 (s.1.trans l) (by rfl))<|sG to3 b<|sS (fun s=>or_field fo75_0 (s.1.trans m) (by rfl))<|sG to3 c<|sF (fun f=>or_lss f.1 f.2.1 rfl)<|sA<|steps_nil
  intro aA aL aR au aW aF Y O
  have G := gv (Y [5] rfl) rfl
  have T := es_ D O
  refine fl_ret ?_
  refine ah _ _ _ rfl ?_
  obtain rfl := osome A
  exact y _ _ _ _ (.inl rfl) au (results1_ rfl (RVal.tmp_ G)) ⟨aA,rfl,T⟩
 refine fl_skip ?_
 refine af _ _ ?_
 refine fl_seq (fun aJ ag ai=>?_)
 refine rq_seq 30 aj [0,1,0,4,15] [dv [] [2] 15 (pt o 1),dv [0] [] 16 (Zi d.2.1),dv [] [3] 17 (pt p 1),dv [2] [] 18 (Zi a.2.1),dv [1,3] [] 19 (.bool (!decide (d.2.1 = a.2.1)))] an L ?_ ?_
 ·exact sS (fun s=>or_field fo75_1 (s.1.trans l) (by rfl))<|sG to3 b<|sS (fun s=>or_field fo75_1 (s.1.trans m) (by rfl))<|sG to3 c<|sF (fun f=>or_neq f.1 f.2.1 rfl)<|steps_nil
 intro ak aM aS M ao ae Z C
 obtain ⟨u,v⟩ := kt2 ae l m
 have z := gv (Z [4] rfl) rfl
 have E := es_ D C
 obtain ⟨j,k⟩ := be2 C b c
 refine fl_cond z A (fun aq A=>?_) (fun aq A=>?_)
 ·refine rq_seq 30 ak [0,1,0,4,15,31] [dv [] [2] 20 (pt o 1),dv [0] [] 21 (Zi d.2.1),dv [] [3] 22 (pt p 1),dv [2] [] 23 (Zi a.2.1),dv [1,3] [] 24 (.bool (decide (d.2.1 < a.2.1))),dv [4] [] 4 (.bool (decide (d.2.1 < a.2.1)))] ao M ?_ ?_
  ·exact sS (fun s=>or_field fo75_1 (s.1.trans u) (by rfl))<|sG to3 j<|sS (fun s=>or_field fo75_1 (s.1.trans v) (by rfl))<|sG to3 k<|sF (fun f=>or_lss f.1 f.2.1 rfl)<|sA<|steps_nil
  intro aB aN aT av aX aG aa P
  have H := gv (aa [5] rfl) rfl
  have U := es_ E P
  refine fl_ret ?_
  refine ai _ _ _ rfl ?_
  obtain rfl := osome A
  exact y _ _ _ _ (.inl rfl) av (results1_ rfl (RVal.tmp_ H)) ⟨aB,rfl,U⟩
 refine fl_skip ?_
 refine ag _ _ ?_
 refine rq_seq 30 ak [0,1,0,4,15,31] [dv [] [2] 25 (pt o 2),dv [0] [] 26 (Zi d.2.2),dv [] [3] 27 (pt p 2),dv [2] [] 28 (Zi a.2.2),dv [1,3] [] 29 (.bool (decide (d.2.2 < a.2.2))),dv [4] [] 4 (.bool (decide (d.2.2 < a.2.2)))] ao M ?_ ?_
 ·exact sS (fun s=>or_field fo75_2 (s.1.trans u) (by rfl))<|sG to3 j<|sS (fun s=>or_field fo75_2 (s.1.trans v) (by rfl))<|sG to3 k<|sF (fun f=>or_lss f.1 f.2.1 rfl)<|sA<|steps_nil
 intro aC aO aU aw aY aH ab R
 have I := gv (ab [5] rfl) rfl
 have V := es_ E R
 refine fl_ret ?_
 obtain rfl := osome A
 exact y _ _ _ _ (.inl rfl) aw (results1_ rfl (RVal.tmp_ I)) ⟨aC,rfl,V⟩
theorem ref27_place_w (w : World) (c : List ByteArray) (i : Option Addr) (j : Nat) (K : ByteArray) (ah : RdO (fun _=>0) [0] w R9 i j c) (r : Int) (h : ref27_place c K = some r) :
  Calls Try.prog 37 #[sl i c j,.string K] w fun e w'=>∃ au : Own,e = .returned (Zi r) ∧ Evo [] (fun _=>0) au w w' := by
 refine fl_enter (n := 21) rfl rfl rfl (Nat.le_of_ble_eq_true rfl) ?_
 intro a0 Q d0 z0 p ao
 have aF := p 0 _ rfl
 have aG := p 1 _ rfl
 clear p
 have aE : Evo [] (fun _=>0) (fun _=>0) w w := Evo.refl _ _ _
 refine rq_seq 21 (fun _=>0) (bz 1) [dv [] [] 4 (Zi 0)] z0 d0 ?_ ?_
 ·exact sO (or_assign rfl)<|steps_nil
 intro aH a5 be az aN ab aS M
 obtain ⟨x,y⟩ := kt2 ab aF aG
 have T := es_ aE M
 refine rq_seq 21 aH (bz 1) [dv [] [] 5 (Zi 0)] aN az ?_ ?_
 ·exact sO (or_assign rfl)<|steps_nil
 intro aI a6 bf aA aO ae X N
 obtain ⟨A,B⟩ := kt2 ae x y
 have C := gv (X [0] rfl) rfl
 have U := es_ T N
 refine fl_seq (fun aZ ai aV=>?_)
 refine fl_block (fun a1 aU ap aW=>?_)
 refine fl_loop (body := (fun s=>ref27_place_b1 c K s)) (z := r) (show loopO _ _ = _ from h) (fun (b : Int) a wx=>∃ (ox : Own),a.defers = [] ∧ a.tmps.size = 21 ∧ a.eval (.tmp 0) = sl i c j ∧ a.eval (.tmp 1) = .string K ∧ a.eval (.tmp 5) = Zi b ∧ Evo [] (fun _=>0) ox w wx) ?_ ?_
 ·exact ⟨aI,aA,aO,A,B,C,U⟩
 ·rintro b ax a7 bg ⟨aJ,aB,aQ,d,k,g,o⟩ h a2 aj am aP
  have h : ref27_place_b1 c K b = some ax := h
  refine fl_seq (fun a3 ak an=>?_)
  obtain ⟨av,q,h⟩ := obind h
  obtain ⟨aM,aq,h⟩ := obind h
  refine rq_seq 21 aJ [0,0,2,7,15,31,31,127,255,31,1023,2047] [dv [] [5] 6 (Zi b),dv [] [0] 7 (sl i c j),dv [1] [] 8 (Zi (c.length : Int)),dv [0,2] [] 9 (.bool (decide (b < (c.length : Int)))),dv [3] [] 10 (.bool (decide (b < (c.length : Int)))),dc [4] [0] (decide (b < (c.length : Int))) 11 (sl i c j),dc [4] [5] (decide (b < (c.length : Int))) 12 (Zi b),dc [4,5,6] [] (decide (b < (c.length : Int))) 13 (.pointer (some ((adr i).add ((b : Int).toNat * R9.s)))),dc [4,7] [] (decide (b < (c.length : Int))) 14 (.string av),dc [4] [1] (decide (b < (c.length : Int))) 15 (.string K),dc [4,8,9] [] (decide (b < (c.length : Int))) 16 (.bool (!eqS av K)),dv [4,10] [] 17 (.bool aM)] aQ aB ?_ ?_
  ·exact sM g<|sM d<|sF (fun f=>or_len tu80 f.1 rfl)<|sF (fun f=>or_lss f.1 f.2.1 rfl)<|sV<|cT (fun _ s _ _=>or_move (s.1.trans d))<|cT (fun _ s _ _=>or_move (s.1.trans g))<|cT (fun f _ _ t=>or_index (R := R9) (l := c) tl80 (f.2.1.1 t) (f.2.2.1.1 t) (RdO.some_ (RdO.evo rfl o ah) (gd_t q t)) (gd_t q t))<|cT (fun f _ hE t=>or_load1 to9 (f.2.1.1 t) (CellsAt.zero (RdO.cells (F := E9) (RdO.evo rfl hE (RdO.evo rfl o ah)) (gd_t q t)) rfl))<|cT (fun _ s _ _=>or_move (s.1.trans k))<|cT (fun f _ _ t=>or_neqS tS9 (f.2.1.1 t) (f.2.2.1.1 t) rfl)<|sF (fun f=>or_and f.1 (fun hx=>f.2.1.1 hx) rfl (osome aq).symm)<|steps_nil
  intro ar a8 bh L aw af Y O
  obtain ⟨D,E,m⟩ := kt3 af d k g
  have u := gv (Y [11] rfl) rfl
  have v := es_ o O
  refine fl_cond u h (fun ay h=>?_) (fun ay h=>?_)
  ·refine fl_skip ?_
   refine ak _ _ ?_
   refine fl_block (fun a4 al aY aX=>?_)
   refine rq 21 ar (bz 3) [dv [] [5] 18 (Zi b),dv [0] [] 19 (Zi (ad b 1)),dv [1] [] 5 (Zi (ad b 1))] aw L ?_ ?_
   ·exact sM m<|sF (fun f=>or_add f.1 rfl rfl)<|sA<|steps_nil
   intro aK a9 bi aC aR ag Z P
   obtain ⟨G,H⟩ := kt2 ag D E
   have I := gv (Z [2] rfl) rfl
   have V := es_ v P
   refine al _ _ ?_
   exact aj _ _ _ h ⟨aK,aC,aR,G,H,I,V⟩
  refine fl_exit ?_
  refine an _ _ _ rfl ?_
  replace h := aP _ h
  refine am _ _ _ rfl ?_
  refine ap _ _ ?_
  refine ai _ _ ?_
  refine rq_seq 21 ar (bz 2) [dv [] [5] 20 (Zi b),dv [0] [] 4 (Zi b)] aw L ?_ ?_
  ·exact sM m<|sA<|steps_nil
  intro aL ba bj aD bm aT aa S
  have J := gv (aa [1] rfl) rfl
  have W := es_ v S
  refine fl_ret ?_
  obtain rfl := (osome h).symm
  exact ao _ _ _ _ (.inl rfl) aD (results1_ rfl (RVal.tmp_ J)) ⟨aL,rfl,W⟩
theorem ref27_Blobs_w (w : World) (H : ByteArray × (List ((Int × Int × Int) × ByteArray))) (c : Option Addr) (j : Nat) (B : RdO (fun _=>0) [0] w R77 c j H.2) (r : List ByteArray) (y : ref27_Blobs H = some r) :
  Calls Try.prog 35 #[.agg #[.string H.1,sl c H.2 j]] w fun e w'=>∃ (az : Own) (x : Option Addr × Nat),e = .returned (.slice x.1 r.length x.2) ∧ Evo [] (fun _=>0) az w w' ∧ RwO az 1 [] w' 9 R9 x.1 x.2 r := by
 refine fl_enter (n := 33) rfl rfl rfl (Nat.le_of_ble_eq_true rfl) ?_
 intro a0 Q d0 z0 a2 bY
 have cj := a2 0 _ rfl
 clear a2
 have ci : Evo [] (fun _=>0) (fun _=>0) w w := Evo.refl _ _ _
 refine rq_seq 33 (fun _=>0) [0,0] [⟨[],[0],[],Fct.blk 246 1 (fun g=>pt g 0) 43 #[.string H.1,sl c H.2 j]⟩,dv [] [] 2 (.slice none 0 0)] z0 d0 ?_ ?_
 ·exact sS (fun s=>nw1 (s.1.trans cj))<|sO (or_assign rfl)<|steps_nil
 intro a3 bL b4 bO b7 cl bk bb
 obtain ⟨⟨t,(aF : bL.eval (.tmp 1) = pt t 0),(P : BlkO a3 246 b4 t 43 #[.string H.1,sl c H.2 j])⟩,-⟩ := bk [0] rfl
 have be := es_ ci bb
 refine rq_seq 33 a3 (bz 1) [dv [] [] 3 (.slice none 0 0)] b7 bO ?_ ?_
 ·exact sO (or_assign rfl)<|steps_nil
 intro bZ cC cJ bP b8 bs bl av
 have aG := kt bs aF
 have aH := gv (bl [0] rfl) rfl
 have bf := es_ be av
 have S := be_ av P
 refine fl_seq (fun cx bA co=>?_)
 refine rq_seq 33 bZ (bz 1) [dv [] [] 4 (Zi 0)] b8 bP ?_ ?_
 ·exact sO (or_assign rfl)<|steps_nil
 intro b0 cD cK bQ b9 bt bm aw
 obtain ⟨aI,aJ⟩ := kt2 bt aG aH
 have aK := gv (bm [0] rfl) rfl
 have bg := es_ bf aw
 have T := be_ aw S
 refine fl_block (fun cy cn bI cp=>?_)
 refine fl_loop (body := (fun s=>ref27_Blobs_b1 H s.1 s.2)) (z := r) (show loopO _ _ = _ from y) (fun (s : (List ByteArray) × Int) a wx=>match s with | (b,i)=>∃ (ox : Own) (k : Option Addr) (o : Nat),a.defers = [] ∧ a.tmps.size = 33 ∧ a.eval (.tmp 1) = pt t 0 ∧ a.eval (.tmp 3) = sl k b o ∧ a.eval (.tmp 4) = Zi i ∧ Evo [] (fun _=>0) ox w wx ∧ BlkO ox 246 wx t 43 #[.string H.1,sl c H.2 j] ∧ RwO ox 323 [] wx 9 R9 k o b) ?_ ?_
 ·exact ⟨b0,none,0,bQ,b9,aI,aJ,aK,bg,T,RwO.nil_⟩
 ·rintro ⟨b,i⟩ aC cE cL ⟨b1,k,o,bR,cb,al,aL,am,bc,D,U⟩ y cz bB bF ca
  have y : ref27_Blobs_b1 H b i = some aC := y
  refine fl_seq (fun cA bC bG=>?_)
  refine rq_seq 33 b1 [0,0,2,6,15] [dv [] [4] 5 (Zi i),dv [] [1] 6 (pt t 1),dv [1] [] 7 (sl c H.2 j),dv [2] [] 8 (Zi (H.2.length : Int)),dv [0,3] [] 9 (.bool (decide (i < (H.2.length : Int))))] cb bR ?_ ?_
  ·exact sM am<|sS (fun s=>or_field fo43_1 (s.1.trans al) (by rfl))<|sG to41 D<|sF (fun f=>or_len tu41 f.1 rfl)<|sF (fun f=>or_lss f.1 f.2.1 rfl)<|steps_nil
  intro a4 cF cM aZ a8 bu bn ae
  obtain ⟨an,A,ao⟩ := kt3 bu al aL am
  have aM := gv (bn [4] rfl) rfl
  have M := es_ bc ae
  have E := be_ ae D
  have p := re_ ae U
  refine fl_cond aM y (fun bM y=>?_) (fun bM y=>?_)
  ·refine fl_skip ?_
   refine bC _ _ ?_
   refine fl_seq (fun cB bD cq=>?_)
   refine fl_block (fun aY bE bJ cr=>?_)
   have aX : ∀ (v : Act) (I : World) (O : Own) (C : List ByteArray) (aj : Option Addr) (ak : Nat),v.defers = [] → v.tmps.size = 33 → v.eval (.tmp 1) = pt t 0 → v.eval (.tmp 3) = sl aj C ak → v.eval (.tmp 4) = Zi i → Evo [] (fun _=>0) O w I → BlkO O 246 I t 43 #[.string H.1,sl c H.2 j] → RwO O 460 [] I 9 R9 aj ak C → ref27_Blobs_k2 i C = some aC → (aY .normal v I ∧ aY (.exit 1) v I) := by
    intro v I O C aj ak bS cc aN aO aP bd W V y
    refine and_both (bE _ _) (bJ _ _) ?_
    refine bD _ _ ?_
    refine rq 33 O (bz 3) [dv [] [4] 10 (Zi i),dv [0] [] 11 (Zi (ad i 1)),dv [1] [] 4 (Zi (ad i 1))] cc bS ?_ ?_
    ·exact sM aP<|sF (fun f=>or_add f.1 rfl rfl)<|sA<|steps_nil
    intro b2 cG cN bT cd bv bo af
    obtain ⟨aQ,aR⟩ := kt2 bv aN aO
    have aS := gv (bo [2] rfl) rfl
    have bh := es_ bd af
    have Y := be_ af W
    have X := re_ af V
    exact bB _ _ _ y ⟨(rl [(460,323)] b2),aj,ak,bT,cd,aQ,aR,aS,(Evo.rl_ bh (fun _=>Nat.le_refl 0) rfl),(BlkO.rl_ Y),(RwO.rl_ X)⟩
   obtain ⟨a7,ah,y⟩ := obind y
   obtain ⟨aA,bH,y⟩ := obind y
   refine rq_seq 33 a4 [0,0,2,0,14,30,62,127,0,256,1023] [dv [] [3] 12 (sl k b o),dv [] [1] 13 (pt t 1),dv [1] [] 14 (sl c H.2 j),dv [] [4] 15 (Zi i),dv [2,3] [] 16 (.pointer (some ((adr c).add ((i : Int).toNat * R77.s)))),dv [4] [] 17 (.pointer (some (((adr c).add ((i : Int).toNat * R77.s)).add 3))),dv [5] [] 18 (.string a7.2),dv [0,6] [] 19 (Zi aA),dv [] [3] 20 (sl k b o),dv [8] [] 21 (Zi (b.length : Int)),dv [7,9] [] 22 (.bool (decide (aA = (b.length : Int))))] a8 aZ ?_ ?_
   ·exact sM A<|sS (fun s=>or_field fo43_1 (s.1.trans an) (by rfl))<|sG to41 E<|sM ao<|sF (fun f=>or_index (R := R77) (l := H.2) tl41 f.1 f.2.1 (RdO.some_ (RdO.evo rfl M B) ah) ah)<|sF (fun f=>or_field fo77_1 f.1 rfl)<|sFE (fun f hE=>or_load1 to9 f.1 (CellsAt.one (RdO.cells (F := E77) (RdO.evo rfl hE (RdO.evo rfl M B)) ah) rfl))<|sFE (fun f hE=>or_call cf37 (args2 f.1 f.2.1) (ref27_place_w _ b k o a7.2 (RdO.zero (RwO.rd (re_ hE p))) aA bH) post_val)<|sM A<|sF (fun f=>or_len tu80 f.1 rfl)<|sF (fun f=>or_eql f.1 f.2.1 rfl)<|steps_nil
   intro a5 cH cO a1 a9 bw bp ag
   obtain ⟨J,ap,K⟩ := kt3 bw an A ao
   have au := gv (bp [10] rfl) rfl
   have N := es_ M ag
   have q := be_ ag E
   have G := re_ ag p
   refine fl_cond au y (fun bN y=>?_) (fun bN y=>?_)
   ·obtain ⟨aB,ai,y⟩ := obind y
    obtain ⟨u,bK,y⟩ := obind y
    refine rr 33 [Fct.rowAt 323 [] 9 R9 k o b] a5 [323] [0,0,2,0,14,30,62,126,255,511] [dv [] [3] 23 (sl k b o),dv [] [1] 24 (pt t 1),dv [1] [] 25 (sl c H.2 j),dv [] [4] 26 (Zi i),dv [2,3] [] 27 (.pointer (some ((adr c).add ((i : Int).toNat * R77.s)))),dv [4] [] 28 (.pointer (some (((adr c).add ((i : Int).toNat * R77.s)).add 3))),dv [5] [] 29 (.string aB.2),⟨[6],[],[],Fct.row 473 [] 30 9 R9 [aB.2]⟩,⟨[0,7,10],[],[323],Fct.row 475 [] 31 9 R9 u⟩,⟨[8],[],[],Fct.rel [3,31] (fun l=>∀ (m : Option Addr) (d : Nat),l.getD 1 undef = sl m u d → l.getD 0 undef = sl m u d)⟩] a9 a1 (fm1 G) ?_ ?_
    ·refine sM ap<|sS (fun s=>or_field fo43_1 (s.1.trans J) (by rfl))<|sG to41 q<|sM K<|sF (fun f=>or_index (R := R77) (l := H.2) tl41 f.1 f.2.1 (RdO.some_ (RdO.evo rfl N B) ai) ai)<|sF (fun f=>or_field fo77_1 f.1 rfl)<|sFE (fun f hE=>or_load1 to9 f.1 (CellsAt.one (RdO.cells (F := E77) (RdO.evo rfl hE (RdO.evo rfl N B)) ai) rfl))<|sF (fun f=>or_lit (lab := 473) (e := 9) (cs := #[.string aB.2]) (F := E9) (nw1 f.1) rfl rfl (show 1 ≤ maxLen by decide)) ?_
     refine sc (fun own a wx hf ct hE=>?_) ?_
     ·obtain ⟨bW,⟨⟨cw,cg⟩,bX,aE⟩,aD,-⟩ := hf
      exact px (or_append (R := R9) (lab := 323) (lab2 := 475) (L := []) (L3 := []) tp80 bW aD (by decide) bX (RwO.rd aE) bK (by decide) (by decide) (mem_of rfl) (.inl (Rep.fl_flat _)))
     refine sc (fun own a wx hf ct hE=>?_) ?_
     ·obtain ⟨⟨⟨m,d⟩,(aq : a.eval (.tmp 31) = sl m u d),cf⟩,-⟩ := hf
      exact px (or_mono (f := Fct.val 3 (sl m u d)) (or_assign aq) (fun az a' w' v' hp h=>fun _ _ ch=>by cases (aq.symm.trans ((hp.2 31 (by decide)).symm.trans ch)); exact h))
     exact steps_nil
    intro a6 ar b5 bU ce bx bq ax
    obtain ⟨aT,aV⟩ := kt2 bx J K
    obtain ⟨⟨⟨m,d⟩,(aq : ar.eval (.tmp 31) = sl m u d),(Z : RwO a6 475 [] b5 9 R9 m d u)⟩,(cu : ∀ (m : Option Addr) (d : Nat),ar.eval (.tmp 31) = sl m u d → ar.eval (.tmp 3) = sl m u d),-⟩ := bq [8,9] rfl
    have aU := cu _ _ aq
    have bi := es_ N ax
    have aa := be_ ax q
    exact (aX _ _ (rl [(475,460)] a6) _ m d bU ce aT aU aV (Evo.rl_ bi (fun _=>Nat.le_refl 0) rfl) (BlkO.rl_ aa) (RwO.rl_ Z) y).1
   refine fl_skip ?_
   exact (aX _ _ (rl [(323,460)] a5) _ k o a1 a9 J ap K (Evo.rl_ N (fun _=>Nat.le_refl 0) rfl) (BlkO.rl_ q) (RwO.rl_ G) y).1
  refine fl_exit ?_
  refine bG _ _ _ rfl ?_
  replace y := ca _ y
  refine bF _ _ _ rfl ?_
  refine bI _ _ ?_
  refine bA _ _ ?_
  refine rq_seq 33 a4 (bz 2) [dv [] [3] 32 (sl k b o),dv [0] [] 2 (sl k b o)] a8 aZ ?_ ?_
  ·exact sM A<|sA<|steps_nil
  intro b3 cI cP bV cQ cm br ay
  have aW := gv (br [1] rfl) rfl
  have bj := es_ M ay
  have ab := re_ ay p
  refine fl_ret ?_
  obtain rfl := (osome y).symm
  exact bY _ _ _ _ (.inl rfl) bV (results1_ rfl (RVal.tmp_ aW)) ⟨(rl [(323,1)] b3),(k,o),rfl,(Evo.rl_ bj (fun _=>Nat.le_refl 0) rfl),(RwO.rl_ ab)⟩
theorem pack_Pack_Head_w (w : World) (z : (List Int) × (List (List Int)) × (List ((Int × Int × Int) × Int))) (j : Nat) (ai : TypeId) (g : Option Addr) (i : Nat) (k : Option Addr) (p : Nat) (m : Option Addr) (q : Nat) (M : BlkO (fun _=>0) 0 w j ai #[sl g z.1 i,sl k z.2.1 p,sl m z.2.2 q]) (y : RdO (fun _=>0) [0] w R5 g i z.1) (U : RdO (fun _=>0) [0] w R22 k p z.2.1) (V : RdO (fun _=>0) [0] w R66 m q z.2.2) (r : List Int) (hs : pack_Pack_Head z = some r) :
  Calls Try.prog 20 #[pt j 0] w fun e w'=>∃ (u : Own) (x : Option Addr × Nat),e = .returned (.slice x.1 r.length x.2) ∧ Evo [] (fun _=>0) u w w' ∧ RwO u 1 [] w' 5 R5 x.1 x.2 r := by
 refine fl_enter (n := 10) rfl rfl rfl (Nat.le_of_ble_eq_true rfl) ?_
 intro a0 Q d0 z0 A S
 have ad := A 0 _ rfl
 clear A
 have ab : Evo [] (fun _=>0) (fun _=>0) w w := Evo.refl _ _ _
 refine rq_seq 10 (fun _=>0) (bz 1) [dv [] [] 2 (.slice none 0 0)] z0 d0 ?_ ?_
 ·exact sO (or_assign rfl)<|steps_nil
 intro af au az X al N ao F
 have s := kt N ad
 have I := es_ ab F
 refine fl_seq (fun ar P aq=>?_)
 refine rq_seq 10 af (bz 2) [dv [] [0] 3 (pt j 0),dv [0] [] 4 (.bool false)] al X ?_ ?_
 ·exact sM s<|sF (fun f=>ok1 f.1)<|steps_nil
 intro ag av aA Y am O K G
 have C := kt O s
 have D := gv (K [1] rfl) rfl
 have t := es_ I G
 refine fl_f D ?_
 refine fl_skip ?_
 refine P _ _ ?_
 obtain ⟨d,R,hs⟩ := obind hs
 refine rq_seq 10 ag (bz 6) [dv [] [0] 5 (pt j 0),dv [0] [] 6 (pt j 0),dv [1] [] 7 (pt j 0),dv [2] [] 8 (sl g z.1 i),⟨[3],[],[],Fct.row 23 [] 9 5 R5 d⟩,⟨[4],[],[],Fct.rel [2,9] (fun l=>∀ (c : Option Addr) (b : Nat),l.getD 1 undef = sl c d b → l.getD 0 undef = sl c d b)⟩] am Y ?_ ?_
 ·refine sM C<|sF (fun f=>ok1 f.1)<|sF (fun f=>or_field fo64_0 f.1 (by rfl))<|sG to22 (be_ t M)<|sFE (fun f hE=>or_call cf41 (args1 f.1) (bytes_Clone_w _ z.1 g i (RdO.zero (RdO.evo rfl hE (RdO.evo rfl t y))) d R) (post_row (m' := (look0 [(1,23)])) (.inl (Rep.fl_flat _)) rfl rfl (fun _=>rfl))) ?_
  refine sc (fun own a wx hf ay hE=>?_) ?_
  ·obtain ⟨⟨⟨c,b⟩,(v : a.eval (.tmp 9) = sl c d b),W⟩,-⟩ := hf
   exact px (or_mono (f := Fct.val 2 (sl c d b)) (or_assign v) (fun u a' w' v' hp h=>fun _ _ aa=>by cases (v.symm.trans ((hp.2 9 (by decide)).symm.trans aa)); exact h))
  exact steps_nil
 intro T B ak Z aC ap L H
 obtain ⟨⟨⟨c,b⟩,(v : B.eval (.tmp 9) = sl c d b),(o : RwO T 23 [] ak 5 R5 c b d)⟩,(ah : ∀ (c : Option Addr) (b : Nat),B.eval (.tmp 9) = sl c d b → B.eval (.tmp 2) = sl c d b),-⟩ := L [4,5] rfl
 have E := ah _ _ v
 have J := es_ t H
 refine fl_ret ?_
 obtain rfl := (osome hs).symm
 exact S _ _ _ _ (.inl rfl) Z (results1_ rfl (RVal.tmp_ E)) ⟨(rl [(23,1)] T),(c,b),rfl,(Evo.rl_ J (fun _=>Nat.le_refl 0) rfl),(RwO.rl_ o)⟩
theorem pack_Pack_Entries_w (w : World) (P : (List Int) × (List (List Int)) × (List ((Int × Int × Int) × Int))) (B : Nat) (cT : TypeId) (an : Option Addr) (ap : Nat) (C : Option Addr) (X : Nat) (t : Option Addr) (D : Nat) (bb : BlkO (fun _=>0) 0 w B cT #[sl an P.1 ap,sl C P.2.1 X,sl t P.2.2 D]) (cE : RdO (fun _=>0) [0] w R5 an ap P.1) (al : RdO (fun _=>0) [0] w R22 C X P.2.1) (am : RdO (fun _=>0) [0] w R66 t D P.2.2) (r : List ((Int × Int × Int) × (List Int))) (H : pack_Pack_Entries P = some r) :
  Calls Try.prog 21 #[pt B 0] w fun e w'=>∃ (O : Own) (x : Option Addr × Nat),e = .returned (.slice x.1 r.length x.2) ∧ Evo [] (fun _=>0) O w w' ∧ RwO O 1 [2] w' 30 R30 x.1 x.2 r := by
 refine fl_enter (n := 34) rfl rfl rfl (Nat.le_of_ble_eq_true rfl) ?_
 intro a0 Q d0 z0 ba ch
 have cH := ba 0 _ rfl
 clear ba
 have cG : Evo [] (fun _=>0) (fun _=>0) w w := Evo.refl _ _ _
 refine rq_seq 34 (fun _=>0) (bz 1) [dv [] [] 2 (.slice none 0 0)] z0 d0 ?_ ?_
 ·exact sO (or_assign rfl)<|steps_nil
 intro ci c3 db b1 cu bE cI bj
 have ae := kt bE cH
 have bp := es_ cG bj
 refine fl_seq (fun cV bM cM=>?_)
 refine rq_seq 34 ci (bz 2) [dv [] [0] 6 (pt B 0),dv [0] [] 7 (.bool false)] cu b1 ?_ ?_
 ·exact sM ae<|sF (fun f=>ok1 f.1)<|steps_nil
 intro cj c4 dc b2 cv bF bv bk
 have aU := kt bF ae
 have aV := gv (bv [1] rfl) rfl
 have bq := es_ bp bk
 refine fl_f aV ?_
 refine fl_skip ?_
 refine bM _ _ ?_
 refine rq_seq 34 cj (bz 1) [dv [] [] 3 (.slice none 0 0)] cv b2 ?_ ?_
 ·exact sO (or_assign rfl)<|steps_nil
 intro ck c5 dd b3 cw bG bw bl
 have af := kt bG aU
 have aW := gv (bw [0] rfl) rfl
 have aM := es_ bq bl
 refine fl_seq (fun cW bN cN=>?_)
 refine rq_seq 34 ck [0,1,3,7,15,0] [dv [] [0] 8 (pt B 0),dv [0] [] 9 (pt B 0),dv [1] [] 10 (pt B 2),dv [2] [] 11 (sl t P.2.2 D),dv [3] [] 12 (Zi (P.2.2.length : Int)),dv [] [] 13 (Zi 0)] cw b3 ?_ ?_
 ·exact sM af<|sF (fun f=>ok1 f.1)<|sF (fun f=>or_field fo64_2 f.1 (by rfl))<|sG to62 (be_ aM bb)<|sF (fun f=>or_len tu62 f.1 rfl)<|sO (or_move rfl)<|steps_nil
 intro cl c6 de b4 cx bH Y bm
 obtain ⟨aX,aY⟩ := kt2 bH af aW
 have aq := gv (Y [3] rfl) rfl
 have ar := gv (Y [4] rfl) rfl
 have au := gv (Y [5] rfl) rfl
 have br := es_ aM bm
 refine fl_block (fun cX cK bV cO=>?_)
 refine fl_loop (body := (fun s=>pack_Pack_Entries_b1 P s.1 s.2)) (z := r) (show loopO _ _ = _ from H) (fun (s : (List ((Int × Int × Int) × (List Int))) × Int) a wx=>match s with | (i,A)=>∃ (ox : Own) (p : Option Addr) (q : Nat),a.defers = [] ∧ a.tmps.size = 34 ∧ a.eval (.tmp 0) = pt B 0 ∧ a.eval (.tmp 3) = sl p i q ∧ a.eval (.tmp 11) = sl t P.2.2 D ∧ a.eval (.tmp 12) = Zi (P.2.2.length : Int) ∧ a.eval (.tmp 13) = Zi A ∧ Evo [] (fun _=>0) ox w wx ∧ RwO ox 144 [145] wx 30 R30 p q i) ?_ ?_
 ·exact ⟨cl,none,0,b4,cx,aX,aY,aq,ar,au,br,RwO.nil_⟩
 ·rintro ⟨i,A⟩ bX c7 df ⟨cm,p,q,b5,cz,aZ,a1,av,I,J,bn,S⟩ H cY bO bS cy
  have H : pack_Pack_Entries_b1 P i A = some bX := H
  refine rq_seq 34 cm (bz 1) [dv [] [13,12] 14 (.bool (decide (A < (P.2.2.length : Int))))] cz b5 ?_ ?_
  ·exact sS (fun s=>or_lss (s.1.trans J) (s.2.1.trans I) rfl)<|steps_nil
  intro bc c8 dg a9 bg bI bx aI
  obtain ⟨a2,ag,K,aw,M⟩ := kt5 bI aZ a1 av I J
  have ax := gv (bx [0] rfl) rfl
  have E := es_ bn aI
  have u := re_ aI S
  refine fl_seq (fun cZ bP bT=>?_)
  refine fl_cond ax H (fun b0 H=>?_) (fun b0 H=>?_)
  ·refine fl_skip ?_
   refine bP _ _ ?_
   refine fl_seq (fun c0 bQ cP=>?_)
   refine fl_block (fun c1 bR cR cQ=>?_)
   obtain ⟨b,Z,H⟩ := obind H
   refine rp_seq 34 bc [186] [0,1,0,7] [dv [] [11,13] 15 (.pointer (some ((adr t).add ((A : Int).toNat * R66.s)))),dv [0] [] 16 (.agg #[Zi b.1.1,Zi b.1.2.1,Zi b.1.2.2,Zi b.2]),⟨[],[],[],Fct.blk 186 5 (fun g=>pt g 0) 66 #[Zi 0,Zi 0,Zi 0,Zi 0]⟩,⟨[2,1],[],[186],Fct.blk 187 5 (fun g=>pt g 0) 66 #[Zi b.1.1,Zi b.1.2.1,Zi b.1.2.2,Zi b.2]⟩] bg a9 ?_ ?_
   ·refine sS (fun s=>or_index (R := R66) (l := P.2.2) tl62 (s.1.trans K) (s.2.1.trans M) (RdO.some_ (RdO.evo rfl E am) Z) Z)<|sFE (fun f hE=>or_load (l := E66.f b) ta66 f.1 (RdO.cells (F := E66) (RdO.evo rfl hE (RdO.evo rfl E am)) Z) rfl)<|sO (nw0) ?_
    refine sc (fun own a wx hf aO hE=>?_) ?_
    ·obtain ⟨⟨N,cg,aT⟩,ca,-⟩ := hf
     exact px (or_store (l := #[Zi b.1.1,Zi b.1.2.1,Zi b.1.2.2,Zi b.2]) (lab := 186) (lab2 := 187) ts66 cg ca aT (by simp) (by kernel_rfl) (mem_of rfl) (by decide) (by kernel_rfl) (fun O a' w' ha hb=>⟨_,(ha 5).trans cg,hb⟩))
    exact steps_nil
   intro bd bZ cr b6 cA bJ bA aJ
   obtain ⟨ah,a3,ay,az,aA⟩ := kt5 bJ a2 ag K aw M
   obtain ⟨⟨N,(ai : bZ.eval (.tmp 5) = pt N 0),(v : BlkO bd 187 cr N 66 #[Zi b.1.1,Zi b.1.2.1,Zi b.1.2.2,Zi b.2])⟩,-⟩ := bA [3] rfl
   have G := es_ E aJ
   have T := re_ aJ u
   obtain ⟨aP,aa,H⟩ := obind H
   obtain ⟨m,bU,H⟩ := obind H
   obtain ⟨o,bW,H⟩ := obind H
   refine rd_ g_mixed 34 [Fct.rowAt 144 [145] 30 R30 p q i] bd [144] [0,0,2,0,8,24,56,0,128,504,1016,2040,4094,8190,16383,32767] [dv [] [3] 17 (sl p i q),dv [] [5] 18 (pt N 0),dv [1] [] 19 (.agg #[Zi b.1.1,Zi b.1.2.1,Zi b.1.2.2]),dv [] [0] 20 (pt B 0),dv [3] [] 21 (pt B 0),dv [4] [] 22 (pt B 1),dv [5] [] 23 (sl C P.2.1 X),dv [] [5] 24 (pt N 3),dv [7] [] 25 (Zi b.2),dv [6,8] [] 26 (.pointer (some ((adr C).add ((b.2 : Int).toNat * R22.s)))),⟨[9],[],[],Fct.nest X22 [0] 27 (fun (y : (Option Addr × Nat))=>.slice y.1 aP.length y.2) aP⟩,⟨[10],[],[],Fct.row 200 [] 28 5 R5 m⟩,⟨[2,11],[],[],Fct.rel [29,28] (fun l=>∀ (j : Option Addr) (c : Nat),l.getD 1 undef = sl j m c → l.getD 0 undef = .agg #[Zi b.1.1,Zi b.1.2.1,Zi b.1.2.2,sl j m c])⟩,⟨[12,11],[],[],Fct.row 202 [200] 30 30 R30 [(b.1,m)]⟩,⟨[0,13,16],[],[144],Fct.row 204 [145,200,202] 31 30 R30 o⟩,⟨[14],[],[],Fct.rel [3,31] (fun l=>∀ (k : Option Addr) (d : Nat),l.getD 1 undef = sl k o d → l.getD 0 undef = sl k o d)⟩] cA b6 (fm1 T) ?_ ?_
   ·refine sM a3<|sS (fun s=>or_field fo66_0 (s.1.trans ai) (by rfl))<|sFE (fun f hE=>ldS ta28 f.1 (be_ hE v))<|sM ah<|sF (fun f=>ok1 f.1)<|sF (fun f=>or_field fo64_1 f.1 (by rfl))<|sG to61 (be_ G bb)<|sS (fun s=>or_field fo66_1 (s.1.trans ai) (by rfl))<|sG to3 v<|sF (fun f=>or_index (R := R22) (l := P.2.1) tl61 f.1 f.2.1 (RdO.some_ (RdO.evo rfl G al) aa) aa)<|sFE (fun f hE=>or_loadN1 X22 0 to22 f.1 (Addr.add_zero' _).symm (RdO.evo rfl hE (RdO.evo rfl G al)) aa (fun _=>rfl)) ?_
    refine sc (fun own a wx hf aO hE=>?_) ?_
    ·obtain ⟨⟨⟨bY,bh⟩,cd,aR⟩,-⟩ := hf
     exact px (or_call cf41 (args1 cd) (bytes_Clone_w _ aP bY bh (RdO.zero aR) m bU) (post_row (m' := (look0 [(1,200)])) (.inl (Rep.fl_flat _)) rfl rfl (fun _=>rfl)))
    refine sc (fun own a wx hf aO hE=>?_) ?_
    ·obtain ⟨cc,⟨⟨j,c⟩,(aj : a.eval (.tmp 28) = sl j m c),ab⟩,-⟩ := hf
     exact px (or_mono (f := Fct.val 29 (.agg #[Zi b.1.1,Zi b.1.2.1,Zi b.1.2.2,sl j m c])) (ok2 cc aj) (fun O a' w' v' hp h=>fun _ _ bi=>by cases (aj.symm.trans ((hp.2 28 (by decide)).symm.trans bi)); exact h))
    refine sc (fun own a wx hf aO hE=>?_) ?_
    ·obtain ⟨(cp : ∀ (j : Option Addr) (c : Nat),a.eval (.tmp 28) = sl j m c → a.eval (.tmp 29) = .agg #[Zi b.1.1,Zi b.1.2.1,Zi b.1.2.2,sl j m c]),⟨⟨j,c⟩,aj,ab⟩,-⟩ := hf
     have ce := cp _ _ aj
     exact px (or_litN (R := R30) (lab := 202) (L := [200]) (e := 30) (cs := #[Zi b.1.1,Zi b.1.2.1,Zi b.1.2.2,sl j m c]) (l := [(b.1,m)]) (n := 1) [(29,.agg #[Zi b.1.1,Zi b.1.2.1,Zi b.1.2.2,sl j m c])] rfl rfl ⟨ce,trivial⟩ (by kernel_rfl) rfl (by decide) ⟨(Ex.iff X30).2 ⟨((),(j,c)),rfl,⟨trivial,(RwO.rd ab)⟩⟩,rfl⟩ rfl)
    refine sc (fun own a wx hf aO hE=>?_) ?_
    ·obtain ⟨cb,⟨⟨cU,cF⟩,cf,aS⟩,aQ,-⟩ := hf
     exact px (or_append (R := R30) (lab := 144) (lab2 := 204) (L := [145]) (L3 := [145,200,202]) tp23 cb aQ (by decide) cf (RwO.rd aS) bW (by decide) (by decide) (mem_of rfl) (.inr ⟨rfl,rfl,by decide,by decide⟩))
    refine sc (fun own a wx hf aO hE=>?_) ?_
    ·obtain ⟨⟨⟨k,d⟩,(ak : a.eval (.tmp 31) = sl k o d),cD⟩,-⟩ := hf
     exact px (or_mono (f := Fct.val 3 (sl k o d)) (or_assign ak) (fun O a' w' v' hp h=>fun _ _ bi=>by cases (ak.symm.trans ((hp.2 31 (by decide)).symm.trans bi)); exact h))
    exact steps_nil
   intro be ao ct b7 cB bK bB bo
   obtain ⟨a4,aB,aC,aD⟩ := kt4 bK ah ay az aA
   obtain ⟨⟨⟨k,d⟩,(ak : ao.eval (.tmp 31) = sl k o d),(U : RwO be 204 [145,200,202] ct 30 R30 k d o)⟩,(cS : ∀ (k : Option Addr) (d : Nat),ao.eval (.tmp 31) = sl k o d → ao.eval (.tmp 3) = sl k o d),-⟩ := bB [14,15] rfl
   have a5 := cS _ _ ak
   have bs := es_ G bo
   refine bR _ _ ?_
   refine bQ _ _ ?_
   refine rq 34 be (bz 2) [dv [] [13] 32 (Zi (ad A 1)),dv [0] [] 13 (Zi (ad A 1))] cB b7 ?_ ?_
   ·exact sS (fun s=>or_add (s.1.trans aD) rfl rfl)<|sV<|steps_nil
   intro cn c9 dh b8 cC bL bC aK
   obtain ⟨a6,a7,aE,aF⟩ := kt4 bL a4 a5 aB aC
   have aG := gv (bC [1] rfl) rfl
   have bt := es_ bs aK
   have V := re_ aK U
   exact bO _ _ _ H ⟨(rl [(200,145),(202,145),(204,144)] cn),k,d,b8,cC,a6,a7,aE,aF,aG,(Evo.rl_ bt (fun _=>Nat.le_refl 0) rfl),(RwO.more (RwO.rl_ V) (by decide))⟩
  refine fl_exit ?_
  refine bT _ _ _ rfl ?_
  replace H := cy _ H
  refine bS _ _ _ rfl ?_
  refine bV _ _ ?_
  refine bN _ _ ?_
  refine rq_seq 34 bc (bz 2) [dv [] [3] 33 (sl p i q),dv [0] [] 2 (sl p i q)] bg a9 ?_ ?_
  ·exact sM ag<|sA<|steps_nil
  intro co da di b9 dj cJ bD aL
  have a8 := gv (bD [1] rfl) rfl
  have bu := es_ E aL
  have W := re_ aL u
  refine fl_ret ?_
  obtain rfl := (osome H).symm
  exact ch _ _ _ _ (.inl rfl) b9 (results1_ rfl (RVal.tmp_ a8)) ⟨(rl [(144,1),(145,2)] co),(p,q),rfl,(Evo.rl_ bu (fun _=>Nat.le_refl 0) rfl),(RwO.rl_ W)⟩
theorem pack_Pack_Get_1_w (w : World) (T : Int) (q : (List Int) × (List (List Int)) × (List ((Int × Int × Int) × Int))) (E : Nat) (ae : TypeId) (c : Nat) (B : TypeId) (h : Option Addr) (j : Nat) (i : Option Addr) (k : Nat) (a : Option Addr) (b : Nat) (v : Int × Int × Int) (G : Nat) (af : TypeId) (L : BlkO (fun _=>0) 0 w E ae #[pt c 0]) (t : BlkO (fun _=>0) 0 w c B #[sl h q.1 j,sl i q.2.1 k,sl a q.2.2 b]) (C : RdO (fun _=>0) [0] w R5 h j q.1) (D : RdO (fun _=>0) [0] w R22 i k q.2.1) (d : RdO (fun _=>0) [0] w R66 a b q.2.2) (M : BlkO (fun _=>0) 0 w G af #[Zi v.1,Zi v.2.1,Zi v.2.2]) (r : Bool) (S : pack_Pack_Get_1 T q v = some r) :
  Calls Try.prog 43 #[Zi T,pt E 0,pt G 0] w fun e w'=>∃ U : Own,e = .returned (.bool r) ∧ Evo [] (fun _=>0) U w w' := by
 refine fl_enter (n := 16) rfl rfl rfl (Nat.le_of_ble_eq_true rfl) ?_
 intro a0 Q d0 z0 o P
 have Y := o 0 _ rfl
 have Z := o 1 _ rfl
 have aa := o 2 _ rfl
 clear o
 have X : Evo [] (fun _=>0) (fun _=>0) w w := Evo.refl _ _ _
 refine rq_seq 16 (fun _=>0) (bz 1) [dv [] [] 4 (.bool false)] z0 d0 ?_ ?_
 ·exact sO (or_assign rfl)<|steps_nil
 intro ab aj an V ag N ah H
 obtain ⟨x,y,z⟩ := kt3 N Y Z aa
 have g := es_ X H
 obtain ⟨m,p,S⟩ := obind S
 obtain ⟨u,O,S⟩ := obind S
 refine rd_seq g_mixed 16 [] ab [] [0,1,3,7,0,31,63,127,0,511,1023,2047] [dv [] [1] 5 (pt c 0),dv [0] [] 6 (pt c 0),dv [1] [] 7 (pt c 2),dv [2] [] 8 (sl a q.2.2 b),dv [] [0] 9 (Zi T),dv [3,4] [] 10 (.pointer (some ((adr a).add ((T : Int).toNat * R66.s)))),dv [5] [] 11 (.pointer (some ((adr a).add ((T : Int).toNat * R66.s)))),dv [6] [] 12 (.agg #[Zi m.1.1,Zi m.1.2.1,Zi m.1.2.2]),dv [] [2] 13 (.agg #[Zi v.1,Zi v.2.1,Zi v.2.2]),dv [7,8] [] 14 (.bool u),dv [9] [] 15 (.bool (!u)),dv [10] [] 4 (.bool (!u))] ag V nm_ ?_ ?_
 ·exact sL1 to36 y (be_ g L)<|sF (fun f=>ok1 f.1)<|sF (fun f=>or_field fo64_2 f.1 (by rfl))<|sG to62 (be_ g t)<|sM x<|sF (fun f=>or_index (R := R66) (l := q.2.2) tl62 f.1 f.2.1 (RdO.some_ (RdO.evo rfl g d) p) p)<|sF (fun f=>or_field fo66_0 f.1 (Addr.add_zero' _))<|sFE (fun f hE=>or_load (l := [Zi m.1.1,Zi m.1.2.1,Zi m.1.2.2]) ta28 f.1 (CellsAt.head_ (RdO.cells (F := E66) (RdO.evo rfl hE (RdO.evo rfl g d)) p) rfl) rfl)<|sL ta28 z (be_ g M)<|sF (fun f=>or_call cf44 (args2 f.1 f.2.1) (window_Less_w _ m.1 v  u O) post_val)<|sF (fun f=>or_not f.1 rfl)<|sA<|steps_nil
 intro ad ak ao W aq ai K I
 have A := gv (K [11] rfl) rfl
 have J := es_ g I
 refine fl_ret ?_
 obtain rfl := osome S
 exact P _ _ _ _ (.inl rfl) W (results1_ rfl (RVal.tmp_ A)) ⟨ad,rfl,J⟩
theorem sort_Search_Get_1_w (w : World) (n1 : Int) (b : (List Int) × (List (List Int)) × (List ((Int × Int × Int) × Int))) (o : Nat) (X : TypeId) (v : Nat) (D : TypeId) (g : Option Addr) (j : Nat) (h : Option Addr) (k : Nat) (i : Option Addr) (l : Nat) (u : Int × Int × Int) (p : Nat) (Y : TypeId) (au : BlkO (fun _=>0) 0 w o X #[pt v 0]) (M : BlkO (fun _=>0) 0 w v D #[sl g b.1 j,sl h b.2.1 k,sl i b.2.2 l]) (A : RdO (fun _=>0) [0] w R5 g j b.1) (B : RdO (fun _=>0) [0] w R22 h k b.2.1) (C : RdO (fun _=>0) [0] w R66 i l b.2.2) (av : BlkO (fun _=>0) 0 w p Y #[Zi u.1,Zi u.2.1,Zi u.2.2]) (r : Int) (x : sort_Search_Get_1 n1 b u = some r) :
  Calls Try.prog 42 #[Zi n1,.func (.func 43) #[] #[pt o 0,pt p 0]] w fun e w'=>∃ bE : Own,e = .returned (Zi r) ∧ Evo [] (fun _=>0) bE w w' := by
 refine fl_enter (n := 26) rfl rfl rfl (Nat.le_of_ble_eq_true rfl) ?_
 intro a0 Q d0 z0 S bv
 have bP := S 0 _ rfl
 have bQ := S 1 _ rfl
 clear S
 have bO : Evo [] (fun _=>0) (fun _=>0) w w := Evo.refl _ _ _
 refine rq_seq 26 (fun _=>0) (bz 1) [dv [] [] 4 (Zi 0)] z0 d0 ?_ ?_
 ·exact sO (or_assign rfl)<|steps_nil
 intro bT ck cn bM bV bs b6 bo
 obtain ⟨aF,aG⟩ := kt2 bs bP bQ
 have bq := es_ bO bo
 refine rq_seq 26 bT [0,0,3] [dv [] [0] 8 (Zi n1),dv [] [] 5 (Zi 0),dv [0] [] 6 (Zi n1)] bV bM ?_ ?_
 ·exact sM aF<|sO (or_assign rfl)<|sA<|steps_nil
 intro bU cl co bN bW bt aA bp
 have aH := kt bt aG
 have aI := gv (aA [1] rfl) rfl
 have aJ := gv (aA [2] rfl) rfl
 have br := es_ bq bp
 refine fl_seq (fun ci bu b8=>?_)
 refine fl_block (fun cj b7 bw b9=>?_)
 refine fl_loop (body := (fun s=>sort_Search_Get_1_b1 b u s.1 s.2)) (z := r) (show loopO _ _ = _ from x) (fun (s : Int × Int) a wx=>match s with | (c,t)=>∃ (ox : Own),a.defers = [] ∧ a.tmps.size = 26 ∧ a.eval (.tmp 1) = .func (.func 43) #[] #[pt o 0,pt p 0] ∧ a.eval (.tmp 5) = Zi c ∧ a.eval (.tmp 6) = Zi t ∧ Evo [] (fun _=>0) ox w wx) ?_ ?_
 ·exact ⟨bU,bN,bW,aH,aI,aJ,br⟩
 ·rintro ⟨c,t⟩ Z bZ ca ⟨bx,bi,bG,aa,E,F,aK⟩ x bX a7 ba bF
  have x : sort_Search_Get_1_b1 b u c t = some Z := x
  refine fl_seq (fun bY a8 bb=>?_)
  refine rq_seq 26 bx [0,0,3] [dv [] [5] 9 (Zi c),dv [] [6] 10 (Zi t),dv [0,1] [] 11 (.bool (decide (c < t)))] bG bi ?_ ?_
  ·exact sM E<|sM F<|sF (fun f=>or_lss f.1 f.2.1 rfl)<|steps_nil
  intro aB b0 cb ay aD a2 aV aL
  obtain ⟨ab,y,G⟩ := kt3 a2 aa E F
  have N := gv (aV [2] rfl) rfl
  have P := es_ aK aL
  refine fl_cond N x (fun bg x=>?_) (fun bg x=>?_)
  ·refine fl_skip ?_
   refine a8 _ _ ?_
   refine fl_block (fun ax a9 bd bS=>?_)
   have aw : ∀ (q : Act) (L : World) (V : Own) (T : Int) (U : Int),q.defers = [] → q.tmps.size = 26 → q.eval (.tmp 1) = .func (.func 43) #[] #[pt o 0,pt p 0] → q.eval (.tmp 5) = Zi T → q.eval (.tmp 6) = Zi U → Evo [] (fun _=>0) V w L → sort_Search_Get_1_k2 T U = some Z → (ax .normal q L ∧ ax (.exit 1) q L) := by
    intro q L V T U bj bH ae af ag aM x
    refine and_both (a9 _ _) (bd _ _) ?_
    exact a7 _ _ _ x ⟨V,bj,bH,ae,af,ag,aM⟩
   obtain ⟨d,be,x⟩ := obind x
   refine rq_seq 26 aB [0,0,3,7,15,31,63] [dv [] [5] 12 (Zi c),dv [] [6] 13 (Zi t),dv [0,1] [] 14 (Zi (ad c t)),dv [2] [] 15 (.int .u64 (IntKind.u64.wrap (ad c t))),dv [3] [] 16 (.int .u64 d),dv [4] [] 17 (Zi (IntKind.i64.wrap d)),dv [5] [] 7 (Zi (IntKind.i64.wrap d))] aD ay ?_ ?_
   ·exact sM y<|sM G<|sF (fun f=>or_add f.1 f.2.1 rfl)<|sF (fun f=>or_conv f.1 tn3 tn104 rfl)<|sF (fun f=>or_shr f.1 rfl be)<|sF (fun f=>or_conv f.1 tn104 tn3 rfl)<|sA<|steps_nil
   intro bA b1 cc bk bI a3 aW aN
   obtain ⟨H,ah,ai⟩ := kt3 a3 ab y G
   have I := gv (aW [6] rfl) rfl
   have m := es_ P aN
   obtain ⟨W,bc,x⟩ := obind x
   refine rq_seq 26 bA [0,0,3,7] [dv [] [1] 18 (.func (.func 43) #[] #[pt o 0,pt p 0]),dv [] [7] 19 (Zi (IntKind.i64.wrap d)),dv [0,1] [] 20 (.bool W),dv [2] [] 21 (.bool (!W))] bI bk ?_ ?_
   ·exact sM H<|sM I<|sFE (fun f hE=>or_callf cf43 f.1 (args1 f.2.1) rfl (pack_Pack_Get_1_w _ (IntKind.i64.wrap d) b o X v D g j h k i l u p Y (BlkO.zero_ (be_ hE (be_ m au))) (BlkO.zero_ (be_ hE (be_ m M))) (RdO.zero (RdO.evo rfl hE (RdO.evo rfl m A))) (RdO.zero (RdO.evo rfl hE (RdO.evo rfl m B))) (RdO.zero (RdO.evo rfl hE (RdO.evo rfl m C))) (BlkO.zero_ (be_ hE (be_ m av))) W bc) post_val)<|sF (fun f=>or_not f.1 rfl)<|steps_nil
   intro aC b2 cd az aE a4 aX aO
   obtain ⟨J,aj,ak,K⟩ := kt4 a4 H ah ai I
   have O := gv (aX [3] rfl) rfl
   have R := es_ m aO
   refine fl_cond O x (fun bh x=>?_) (fun bh x=>?_)
   ·refine rq 26 aC (bz 3) [dv [] [7] 22 (Zi (IntKind.i64.wrap d)),dv [0] [] 23 (Zi (ad (IntKind.i64.wrap d) 1)),dv [1] [] 5 (Zi (ad (IntKind.i64.wrap d) 1))] aE az ?_ ?_
    ·exact sM K<|sF (fun f=>or_add f.1 rfl rfl)<|sA<|steps_nil
    intro bB b3 ce bl bJ a5 aY aP
    obtain ⟨al,an⟩ := kt2 a5 J ak
    have am := gv (aY [2] rfl) rfl
    have aS := es_ R aP
    exact (aw _ _ bB _ _ bl bJ al am an aS x).1
   refine rq 26 aC (bz 2) [dv [] [7] 24 (Zi (IntKind.i64.wrap d)),dv [0] [] 6 (Zi (IntKind.i64.wrap d))] aE az ?_ ?_
   ·exact sM K<|sA<|steps_nil
   intro bC b4 cf bm bK a6 aZ aQ
   obtain ⟨ao,ap⟩ := kt2 a6 J aj
   have aq := gv (aZ [1] rfl) rfl
   have aT := es_ R aQ
   exact (aw _ _ bC _ _ bm bK ao ap aq aT x).1
  refine fl_exit ?_
  refine bb _ _ _ rfl ?_
  replace x := bF _ x
  refine ba _ _ _ rfl ?_
  refine bw _ _ ?_
  refine bu _ _ ?_
  refine rq_seq 26 aB (bz 2) [dv [] [5] 25 (Zi c),dv [0] [] 4 (Zi c)] aD ay ?_ ?_
  ·exact sM y<|sA<|steps_nil
  intro bD b5 cg bn ch bR a1 aR
  have ar := gv (a1 [1] rfl) rfl
  have aU := es_ P aR
  refine fl_ret ?_
  obtain rfl := (osome x).symm
  exact bv _ _ _ _ (.inl rfl) bn (results1_ rfl (RVal.tmp_ ar)) ⟨bD,rfl,aU⟩
theorem pack_Pack_Get_w (w : World) (k : (List Int) × (List (List Int)) × (List ((Int × Int × Int) × Int))) (d : Nat) (a5 : TypeId) (N : Option Addr) (O : Nat) (q : Option Addr) (C : Nat) (b : Option Addr) (j : Nat) (H : Int × Int × Int) (B : BlkO (fun _=>0) 0 w d a5 #[sl N k.1 O,sl q k.2.1 C,sl b k.2.2 j]) (ak : RdO (fun _=>0) [0] w R5 N O k.1) (D : RdO (fun _=>0) [0] w R22 q C k.2.1) (m : RdO (fun _=>0) [0] w R66 b j k.2.2) (r : (List Int) × Bool) (M : pack_Pack_Get k H = some r) :
  Calls Try.prog 22 #[pt d 0,.agg #[Zi H.1,Zi H.2.1,Zi H.2.2]] w fun e w'=>∃ (ag : Own) (x : Option Addr × Nat),e = .returned (.tuple #[.slice x.1 r.1.length x.2,.bool r.2]) ∧ Evo [] (fun _=>0) ag w w' ∧ RwO ag 1 [] w' 5 R5 x.1 x.2 r.1 := by
 refine fl_enter (n := 50) rfl rfl rfl (Nat.le_of_ble_eq_true rfl) ?_
 intro a0 Q d0 z0 ab aq
 have bj := ab 0 _ rfl
 have bk := ab 1 _ rfl
 clear ab
 have bi : Evo [] (fun _=>0) (fun _=>0) w w := Evo.refl _ _ _
 refine rq_seq 50 (fun _=>0) [0,0,0,4] [⟨[],[0],[],Fct.blk 34 2 (fun g=>pt g 0) 36 #[pt d 0]⟩,⟨[],[1],[],Fct.blk 36 3 (fun g=>pt g 0) 28 #[Zi H.1,Zi H.2.1,Zi H.2.2]⟩,dv [] [] 4 (.slice none 0 0),dv [] [] 5 (.bool false)] z0 d0 ?_ ?_
 ·exact sS (fun s=>nw1 (s.1.trans bj))<|sS (fun s=>nw1 (s.1.trans bk))<|sO (or_assign rfl)<|sO (or_assign rfl)<|steps_nil
 intro aD aF a6 bc bu bx aP aJ
 obtain ⟨⟨ai,(Y : aF.eval (.tmp 2) = pt ai 0),(I : BlkO aD 34 a6 ai 36 #[pt d 0])⟩,⟨aj,(av : aF.eval (.tmp 3) = pt aj 0),(V : BlkO aD 36 a6 aj 28 #[Zi H.1,Zi H.2.1,Zi H.2.2])⟩,-⟩ := aP [0,1] rfl
 have aM := es_ bi aJ
 refine fl_seq (fun bD aW bC=>?_)
 refine rq_seq 50 aD (bz 2) [dv [] [2] 7 (pt d 0),dv [0] [] 8 (.bool false)] bu bc ?_ ?_
 ·exact sL1 to36 Y I<|sF (fun f=>ok1 f.1)<|steps_nil
 intro bn bF bL bd bv aT aQ al
 obtain ⟨P,Z⟩ := kt2 aT Y av
 have aw := gv (aQ [1] rfl) rfl
 have A := es_ aM al
 obtain ⟨t,J⟩ := be2 al I V
 refine fl_f aw ?_
 refine fl_skip ?_
 refine aW _ _ ?_
 obtain ⟨c,aZ,M⟩ := obind M
 refine rq_seq 50 bn [0,1,3,7,15,0,63,127] [dv [] [2] 9 (pt d 0),dv [0] [] 10 (pt d 0),dv [1] [] 11 (pt d 2),dv [2] [] 12 (sl b k.2.2 j),dv [3] [] 13 (Zi (k.2.2.length : Int)),dv [] [2,3] 14 (.func (.func 43) #[] #[pt ai 0,pt aj 0]),dv [4,5] [] 15 (Zi c),dv [6] [] 6 (Zi c)] bv bd ?_ ?_
 ·exact sL1 to36 P t<|sF (fun f=>ok1 f.1)<|sF (fun f=>or_field fo64_2 f.1 (by rfl))<|sG to62 (be_ A B)<|sF (fun f=>or_len tu62 f.1 rfl)<|sS (fun s=>ok2 (s.1.trans P) (s.2.1.trans Z))<|sFE (fun f E=>or_call cf42 (args2 f.1 f.2.1) (sort_Search_Get_1_w _ (k.2.2.length : Int) k ai 36 d a5 N O q C b j H aj 28 (BlkO.zero_ (be_ E t)) (BlkO.zero_ (be_ E (be_ A B))) (RdO.zero (RdO.evo rfl E (RdO.evo rfl A ak))) (RdO.zero (RdO.evo rfl E (RdO.evo rfl A D))) (RdO.zero (RdO.evo rfl E (RdO.evo rfl A m))) (BlkO.zero_ (be_ E J)) c aZ) post_val)<|sA<|steps_nil
 intro bo bG bM be bw aU aR am
 obtain ⟨S,ax⟩ := kt2 aU P Z
 have T := gv (aR [7] rfl) rfl
 have L := es_ A am
 obtain ⟨u,W⟩ := be2 am t J
 refine fl_seq (fun bE aX aY=>?_)
 obtain ⟨z,ad,M⟩ := obind M
 obtain ⟨bt,a2,M⟩ := obind M
 refine rd_seq g_mixed 50 [] bo [] [0,0,2,6,14,30,63,127,255,511,1023,2047,255,8191,16383,32767,255,131071,262143] [dv [] [6] 16 (Zi c),dv [] [2] 17 (pt d 0),dv [1] [] 18 (pt d 0),dv [2] [] 19 (pt d 2),dv [3] [] 20 (sl b k.2.2 j),dv [4] [] 21 (Zi (k.2.2.length : Int)),dv [0,5] [] 22 (.bool (decide (c = (k.2.2.length : Int)))),dv [6] [] 23 (.bool (decide (c = (k.2.2.length : Int)))),dc [7] [2] (!(decide (c = (k.2.2.length : Int)))) 24 (pt d 0),dc [7,8] [] (!(decide (c = (k.2.2.length : Int)))) 25 (pt d 0),dc [7,9] [] (!(decide (c = (k.2.2.length : Int)))) 26 (pt d 2),dc [7,10] [] (!(decide (c = (k.2.2.length : Int)))) 27 (sl b k.2.2 j),dc [7] [6] (!(decide (c = (k.2.2.length : Int)))) 28 (Zi c),dc [7,11,12] [] (!(decide (c = (k.2.2.length : Int)))) 29 (.pointer (some ((adr b).add ((c : Int).toNat * R66.s)))),dc [7,13] [] (!(decide (c = (k.2.2.length : Int)))) 30 (.pointer (some ((adr b).add ((c : Int).toNat * R66.s)))),dc [7,14] [] (!(decide (c = (k.2.2.length : Int)))) 31 (.agg #[Zi z.1.1,Zi z.1.2.1,Zi z.1.2.2]),dc [7] [3] (!(decide (c = (k.2.2.length : Int)))) 32 (.agg #[Zi H.1,Zi H.2.1,Zi H.2.2]),dc [7,15,16] [] (!(decide (c = (k.2.2.length : Int)))) 33 (.bool (!decide (z.1 = H))),dv [7,17] [] 34 (.bool bt)] bw be nm_ ?_ ?_
 ·exact sM T<|sL1 to36 S u<|sF (fun f=>ok1 f.1)<|sF (fun f=>or_field fo64_2 f.1 (by rfl))<|sG to62 (be_ L B)<|sF (fun f=>or_len tu62 f.1 rfl)<|sF (fun f=>or_eql f.1 f.2.1 rfl)<|sV<|cF (fun _ s E _=>ld1 to36 (s.1.trans S) (be_ E u))<|cF (fun f _ _ G=>ok1 (f.2.1.1 G))<|cF (fun f _ _ G=>or_field fo64_2 (f.2.1.1 G) (by rfl))<|cF (fun f _ E G=>ld1 to62 (f.2.1.1 G) (be_ E (be_ L B)))<|cF (fun _ s _ _=>or_move (s.1.trans T))<|cF (fun f _ _ G=>or_index (R := R66) (l := k.2.2) tl62 (f.2.1.1 G) (f.2.2.1.1 G) (RdO.some_ (RdO.evo rfl L m) (gd_t ad G)) (gd_t ad G))<|cF (fun f _ _ G=>or_field fo66_0 (f.2.1.1 G) (Addr.add_zero' _))<|cF (fun f _ E G=>or_load (l := [Zi z.1.1,Zi z.1.2.1,Zi z.1.2.2]) ta28 (f.2.1.1 G) (CellsAt.head_ (RdO.cells (F := E66) (RdO.evo rfl E (RdO.evo rfl L m)) (gd_t ad G)) rfl) rfl)<|cFL ta28 ax W<|cF (fun f _ _ G=>or_neqA sg28 (f.2.1.1 G) (f.2.2.1.1 G) (sn28 z.1.1 z.1.2.1 z.1.2.2 H.1 H.2.1 H.2.2 _) rfl)<|sF (fun f=>or_or f.1 rfl (fun hx=>f.2.1.1 hx) (osome a2).symm)<|steps_nil
 intro a3 bH bN aH a8 aV aS an
 obtain ⟨aa,ay⟩ := kt2 aV S T
 have ah := gv (aS [18] rfl) rfl
 have o := es_ L an
 have K := be_ an u
 refine fl_cond ah M (fun bb M=>?_) (fun bb M=>?_)
 ·refine rq_seq 50 a3 (bz 2) [dv [] [] 4 (.slice none 0 0),dv [] [] 5 (.bool false)] a8 aH ?_ ?_
  ·exact sO (or_assign rfl)<|sO (or_assign rfl)<|steps_nil
  intro bp bI bO bf bR bA ao aK
  have az := gv (ao [0] rfl) rfl
  have aA := gv (ao [1] rfl) rfl
  have aN := es_ o aK
  refine fl_ret ?_
  refine aY _ _ _ rfl ?_
  obtain rfl := osome M
  exact aq _ _ _ _ (.inl rfl) bf (results2_ rfl (RVal.tmp_ az) (RVal.tmp_ aA)) ⟨bp,(none,0),rfl,aN,RwO.nil_⟩
 refine fl_skip ?_
 refine aX _ _ ?_
 obtain ⟨a7,ae,M⟩ := obind M
 obtain ⟨aE,af,M⟩ := obind M
 obtain ⟨v,a1,M⟩ := obind M
 refine rd_seq g_mixed 50 [] a3 [] [0,1,3,7,0,16,48,112,0,496,1008,2032,4095,8191,16383,32767,65535] [dv [] [2] 35 (pt d 0),dv [0] [] 36 (pt d 0),dv [1] [] 37 (pt d 1),dv [2] [] 38 (sl q k.2.1 C),dv [] [2] 39 (pt d 0),dv [4] [] 40 (pt d 0),dv [5] [] 41 (pt d 2),dv [6] [] 42 (sl b k.2.2 j),dv [] [6] 43 (Zi c),dv [7,8] [] 44 (.pointer (some ((adr b).add ((c : Int).toNat * R66.s)))),dv [9] [] 45 (.pointer (some (((adr b).add ((c : Int).toNat * R66.s)).add 3))),dv [10] [] 46 (Zi a7.2),dv [3,11] [] 47 (.pointer (some ((adr q).add ((a7.2 : Int).toNat * R22.s)))),⟨[12],[],[],Fct.nest X22 [0] 48 (fun (y : (Option Addr × Nat))=>.slice y.1 aE.length y.2) aE⟩,⟨[13],[],[],Fct.row 53 [] 49 5 R5 v⟩,⟨[14],[],[],Fct.rel [4,49] (fun l=>∀ (p : Option Addr) (i : Nat),l.getD 1 undef = sl p v i → l.getD 0 undef = sl p v i)⟩,dv [] [] 5 (.bool true)] a8 aH nm_ ?_ ?_
 ·refine sL1 to36 aa K<|sF (fun f=>ok1 f.1)<|sF (fun f=>or_field fo64_1 f.1 (by rfl))<|sG to61 (be_ o B)<|sL1 to36 aa K<|sF (fun f=>ok1 f.1)<|sF (fun f=>or_field fo64_2 f.1 (by rfl))<|sG to62 (be_ o B)<|sM ay<|sF (fun f=>or_index (R := R66) (l := k.2.2) tl62 f.1 f.2.1 (RdO.some_ (RdO.evo rfl o m) ae) ae)<|sF (fun f=>or_field fo66_1 f.1 rfl)<|sFE (fun f E=>or_load1 to3 f.1 (CellsAt.one (RdO.cells (F := E66) (RdO.evo rfl E (RdO.evo rfl o m)) ae) rfl))<|sF (fun f=>or_index (R := R22) (l := k.2.1) tl61 f.1 f.2.1 (RdO.some_ (RdO.evo rfl o D) af) af)<|sFE (fun f E=>or_loadN1 X22 0 to22 f.1 (Addr.add_zero' _).symm (RdO.evo rfl E (RdO.evo rfl o D)) af (fun _=>rfl)) ?_
  refine sc (fun own a wx hf bm E=>?_) ?_
  ·obtain ⟨⟨⟨a9,aG⟩,aI,au⟩,-⟩ := hf
   exact px (or_call cf41 (args1 aI) (bytes_Clone_w _ aE a9 aG (RdO.zero au) v a1) (post_row (m' := (look0 [(1,53)])) (.inl (Rep.fl_flat _)) rfl rfl (fun _=>rfl)))
  refine sc (fun own a wx hf bm E=>?_) ?_
  ·obtain ⟨⟨⟨p,i⟩,(U : a.eval (.tmp 49) = sl p v i),ba⟩,-⟩ := hf
   exact px (or_mono (f := Fct.val 4 (sl p v i)) (or_assign U) (fun ag a' w' v' hp h=>fun _ _ bh=>by cases (U.symm.trans ((hp.2 49 (by decide)).symm.trans bh)); exact h))
  exact sO (or_assign rfl)<|steps_nil
 intro a4 ar bs bg bS bB ap aL
 have aC := gv (ap [16] rfl) rfl
 obtain ⟨⟨⟨p,i⟩,(U : ar.eval (.tmp 49) = sl p v i),(X : RwO a4 53 [] bs 5 R5 p i v)⟩,(bq : ∀ (p : Option Addr) (i : Nat),ar.eval (.tmp 49) = sl p v i → ar.eval (.tmp 4) = sl p v i),-⟩ := ap [14,15] rfl
 have aB := bq _ _ U
 have aO := es_ o aL
 refine fl_ret ?_
 obtain rfl := osome M
 exact aq _ _ _ _ (.inl rfl) bg (results2_ rfl (RVal.tmp_ aB) (RVal.tmp_ aC)) ⟨(rl [(53,1)] a4),(p,i),rfl,(Evo.rl_ aO (fun _=>Nat.le_refl 0) rfl),(RwO.rl_ X)⟩
theorem law27_alike_w (w : World) (p1 : (List Int) × (List (List Int)) × (List ((Int × Int × Int) × Int))) (ae : Nat) (ce : TypeId) (S : Option Addr) (V : Nat) (T : Option Addr) (W : Nat) (U : Option Addr) (X : Nat) (N : ByteArray × (List ((Int × Int × Int) × ByteArray))) (q : Option Addr) (E : Nat) (t3 : Int × Int × Int) (aM : BlkO (fun _=>0) 0 w ae ce #[sl S p1.1 V,sl T p1.2.1 W,sl U p1.2.2 X]) (Z : RdO (fun _=>0) [0] w R5 S V p1.1) (aa : RdO (fun _=>0) [0] w R22 T W p1.2.1) (ab : RdO (fun _=>0) [0] w R66 U X p1.2.2) (G : RdO (fun _=>0) [0] w R77 q E N.2) (r : Bool) (B : law27_alike p1 N t3 = some r) :
  Calls Try.prog 18 #[pt ae 0,.agg #[.string N.1,sl q N.2 E],.agg #[Zi t3.1,Zi t3.2.1,Zi t3.2.2]] w fun e w'=>∃ af : Own,e = .returned (.bool r) ∧ Evo [] (fun _=>0) af w w' := by
 refine fl_enter (n := 132) rfl rfl rfl (Nat.le_of_ble_eq_true rfl) ?_
 intro a0 Q d0 z0 cx cy
 have ho := cx 0 _ rfl
 have hq := cx 1 _ rfl
 have hr := cx 2 _ rfl
 clear cx
 have hn : Evo [] (fun _=>0) (fun _=>0) w w := Evo.refl _ _ _
 refine rq_seq 132 (fun _=>0) [0,0,0] [⟨[],[1],[],Fct.blk 181 4 (fun g=>pt g 0) 43 #[.string N.1,sl q N.2 E]⟩,⟨[],[2],[],Fct.blk 183 5 (fun g=>pt g 0) 28 #[Zi t3.1,Zi t3.2.1,Zi t3.2.2]⟩,dv [] [] 6 (.bool false)] z0 d0 ?_ ?_
 ·exact sS (fun s=>nw1 (s.1.trans hq))<|sS (fun s=>nw1 (s.1.trans hr))<|sO (or_assign rfl)<|steps_nil
 intro dz eQ e4 gp g3 fI fv fh
 have cf := kt fI ho
 obtain ⟨⟨M,(dI : eQ.eval (.tmp 4) = pt M 0),(bg : BlkO dz 181 e4 M 43 #[.string N.1,sl q N.2 E])⟩,⟨aL,(dJ : eQ.eval (.tmp 5) = pt aL 0),(bh : BlkO dz 183 e4 aL 28 #[Zi t3.1,Zi t3.2.1,Zi t3.2.2])⟩,-⟩ := fv [0,1] rfl
 have aG := es_ hn fh
 obtain ⟨k,f1,B⟩ := obind B
 refine rq_seq 132 dz (bz 3) [dv [] [0] 15 (pt ae 0),⟨[0],[],[],Fct.row 187 [188] 16 30 R30 k⟩,⟨[1],[],[],Fct.rel [7,16] (fun l=>∀ (u : Option Addr) (t : Nat),l.getD 1 undef = sl u k t → l.getD 0 undef = sl u k t)⟩] g3 gp ?_ ?_
 ·refine sM cf<|sFE (fun f C=>or_call cf21 (args1 f.1) (pack_Pack_Entries_w _ p1 ae ce S V T W U X (BlkO.zero_ (be_ C (be_ aG aM))) (RdO.zero (RdO.evo rfl C (RdO.evo rfl aG Z))) (RdO.zero (RdO.evo rfl C (RdO.evo rfl aG aa))) (RdO.zero (RdO.evo rfl C (RdO.evo rfl aG ab))) k f1) (post_row (m' := (look0 [(1,187),(2,188)])) (.inr (by decide)) rfl rfl (fun _=>rfl))) ?_
  refine sc (fun own a wx hf ar C=>?_) ?_
  ·obtain ⟨⟨⟨u,t⟩,(cw : a.eval (.tmp 16) = sl u k t),hd⟩,-⟩ := hf
   exact px (or_mono (f := Fct.val 7 (sl u k t)) (or_assign cw) (fun af a' w' v' hp h=>fun _ _ ao=>by cases (cw.symm.trans ((hp.2 16 (by decide)).symm.trans ao)); exact h))
  exact steps_nil
 intro eW cD gY gq g4 fJ fw dg
 obtain ⟨cg,dK,ch⟩ := kt3 fJ cf dI dJ
 obtain ⟨⟨⟨u,t⟩,(cw : cD.eval (.tmp 16) = sl u k t),(bi : RwO eW 187 [188] gY 30 R30 u t k)⟩,(hD : ∀ (u : Option Addr) (t : Nat),cD.eval (.tmp 16) = sl u k t → cD.eval (.tmp 7) = sl u k t),-⟩ := fw [1,2] rfl
 have dL := hD _ _ cw
 have aH := es_ aG dg
 obtain ⟨bj,aw⟩ := be2 dg bg bh
 obtain ⟨b,f2,B⟩ := obind B
 refine rq_seq 132 eW [0,0,3,7,15,15,31,127] [dv [] [0] 18 (pt ae 0),dv [] [5] 19 (.agg #[Zi t3.1,Zi t3.2.1,Zi t3.2.2]),⟨[0,1],[],[],Fct.mems [192] 20 (fun (x : Option Addr × Nat)=>.tuple #[.slice x.1 b.1.length x.2,.bool b.2]) (fun (x : Option Addr × Nat) own w=>RwO own 192 [] w 5 R5 x.1 x.2 b.1) (fun hk he h=>RwO.evo (hits_sub hk (by decide)) he h)⟩,⟨[2],[],[],Fct.rel [17,20] (fun l=>∀ (j : Option Addr) (d : Nat),l.getD 1 undef = .tuple #[sl j b.1 d,.bool b.2] → l.getD 0 undef = .tuple #[sl j b.1 d,.bool b.2])⟩,⟨[3,2],[],[],Fct.rel [21,20] (fun l=>∀ (j : Option Addr) (d : Nat),l.getD 1 undef = .tuple #[sl j b.1 d,.bool b.2] → l.getD 0 undef = sl j b.1 d)⟩,dv [3,2] [] 22 (.bool b.2),⟨[4,2],[],[],Fct.rel [8,20] (fun l=>∀ (j : Option Addr) (d : Nat),l.getD 1 undef = .tuple #[sl j b.1 d,.bool b.2] → l.getD 0 undef = sl j b.1 d)⟩,dv [5] [] 9 (.bool b.2)] g4 gq ?_ ?_
 ·refine sM cg<|sL ta28 ch aw<|sFE (fun f C=>or_call cf22 (args2 f.1 f.2.1) (pack_Pack_Get_w _ p1 ae ce S V T W U X t3 (BlkO.zero_ (be_ C (be_ aH aM))) (RdO.zero (RdO.evo rfl C (RdO.evo rfl aH Z))) (RdO.zero (RdO.evo rfl C (RdO.evo rfl aH aa))) (RdO.zero (RdO.evo rfl C (RdO.evo rfl aH ab))) b f2) (post_mems (m := (fun _=>0)) (m' := (look0 [(1,192)])) (fun _ _=>.inl rfl) (fun af w' a' x h1 h=>⟨x,h1,RwO.back_ h (by decide) (.inl (Rep.fl_flat _))⟩))) ?_
  refine sc (fun own a wx hf ar C=>?_) ?_
  ·obtain ⟨⟨⟨j,d⟩,(P : a.eval (.tmp 20) = .tuple #[sl j b.1 d,.bool b.2]),aN⟩,-⟩ := hf
   exact px (or_mono (f := Fct.val 17 (.tuple #[sl j b.1 d,.bool b.2])) (or_move P) (fun af a' w' v' hp h=>fun _ _ ao=>by cases (P.symm.trans ((hp.2 20 (by decide)).symm.trans ao)); exact h))
  refine sc (fun own a wx hf ar C=>?_) ?_
  ·obtain ⟨(dA : ∀ (j : Option Addr) (d : Nat),a.eval (.tmp 20) = .tuple #[sl j b.1 d,.bool b.2] → a.eval (.tmp 17) = .tuple #[sl j b.1 d,.bool b.2]),⟨⟨j,d⟩,(P : a.eval (.tmp 20) = .tuple #[sl j b.1 d,.bool b.2]),aN⟩,-⟩ := hf
   have df := dA _ _ P
   exact px (or_mono (f := Fct.val 21 (sl j b.1 d)) (ok1 df) (fun af a' w' v' hp h=>fun _ _ ao=>by cases (P.symm.trans ((hp.2 20 (by decide)).symm.trans ao)); exact h))
  refine sc (fun own a wx hf ar C=>?_) ?_
  ·obtain ⟨(dA : ∀ (j : Option Addr) (d : Nat),a.eval (.tmp 20) = .tuple #[sl j b.1 d,.bool b.2] → a.eval (.tmp 17) = .tuple #[sl j b.1 d,.bool b.2]),⟨⟨j,d⟩,P,aN⟩,-⟩ := hf
   have df := dA _ _ P
   exact px (ok1 df)
  refine sc (fun own a wx hf ar C=>?_) ?_
  ·obtain ⟨(gX : ∀ (j : Option Addr) (d : Nat),a.eval (.tmp 20) = .tuple #[sl j b.1 d,.bool b.2] → a.eval (.tmp 21) = sl j b.1 d),⟨⟨j,d⟩,(P : a.eval (.tmp 20) = .tuple #[sl j b.1 d,.bool b.2]),aN⟩,-⟩ := hf
   have gE := gX _ _ P
   exact px (or_mono (f := Fct.val 8 (sl j b.1 d)) (or_assign gE) (fun af a' w' v' hp h=>fun _ _ ao=>by cases (P.symm.trans ((hp.2 20 (by decide)).symm.trans ao)); exact h))
  exact sA<|steps_nil
 intro eX cE gZ gr g5 fK dj b2
 obtain ⟨dM,dN,dO,dP⟩ := kt4 fK cg dK ch dL
 have dR := gv (dj [7] rfl) rfl
 obtain ⟨⟨⟨j,d⟩,(P : cE.eval (.tmp 20) = .tuple #[sl j b.1 d,.bool b.2]),(bl : RwO eX 192 [] gZ 5 R5 j d b.1)⟩,(hF : ∀ (j : Option Addr) (d : Nat),cE.eval (.tmp 20) = .tuple #[sl j b.1 d,.bool b.2] → cE.eval (.tmp 8) = sl j b.1 d),-⟩ := dj [2,6] rfl
 have dQ := hF _ _ P
 have fn := es_ aH b2
 obtain ⟨bm,bn⟩ := be2 b2 bj aw
 have bk := re_ b2 bi
 refine rq_seq 132 eX (bz 2) [dv [] [] 10 (.string ByteArray.empty),dv [] [] 11 (.bool false)] g5 gr ?_ ?_
 ·exact sO (or_assign rfl)<|sO (or_assign rfl)<|steps_nil
 intro gN hR h6 gs g6 fL dk aS
 obtain ⟨av,ak,dS,ci,dT,dU⟩ := kt6 fL dM dN dO dP dQ dR
 have cH := gv (dk [0] rfl) rfl
 have cI := gv (dk [1] rfl) rfl
 have H := es_ fn aS
 obtain ⟨K,bq⟩ := be2 aS bm bn
 have bo := re_ aS bk
 have bp := re_ aS bl
 refine fl_seq (fun hJ fQ fY=>?_)
 obtain ⟨dB,f3,B⟩ := obind B
 obtain ⟨au,f8,B⟩ := obind B
 obtain ⟨dC,f4,B⟩ := obind B
 obtain ⟨cz,f5,B⟩ := obind B
 obtain ⟨an,f9,B⟩ := obind B
 obtain ⟨bd,f6,B⟩ := obind B
 refine rd_seq g_mixed 132 [] gN [] [0,1,0,4,12,31,63,127,255,127,639,1663,4095,8191,16383,32767,65535,32767,262143,524287,1048575,2097151,4194303,8388607,16777215,33554431,8388607,75497471,268435455,536870911] [dv [] [7] 23 (sl u k t),dv [0] [] 24 (Zi (k.length : Int)),dv [] [4] 25 (pt M 1),dv [2] [] 26 (sl q N.2 E),dv [3] [] 27 (Zi (N.2.length : Int)),dv [1,4] [] 28 (.bool (!decide ((k.length : Int) = (N.2.length : Int)))),dv [5] [] 29 (.bool (!decide ((k.length : Int) = (N.2.length : Int)))),dc [6] [0] (!(!decide ((k.length : Int) = (N.2.length : Int)))) 30 (pt ae 0),dc [6,7] [] (!(!decide ((k.length : Int) = (N.2.length : Int)))) 31 (Zi dB),dc [6] [4] (!(!decide ((k.length : Int) = (N.2.length : Int)))) 32 (pt M 1),dc [6,9] [] (!(!decide ((k.length : Int) = (N.2.length : Int)))) 33 (sl q N.2 E),dc [6,10] [] (!(!decide ((k.length : Int) = (N.2.length : Int)))) 34 (Zi (N.2.length : Int)),dc [6,8,11] [] (!(!decide ((k.length : Int) = (N.2.length : Int)))) 35 (.bool (!decide (dB = (N.2.length : Int)))),dv [6,12] [] 36 (.bool au),dv [13] [] 37 (.bool au),dc [14] [0] (!au) 38 (pt ae 0),dc [14,15] [] (!au) 39 (Zi dC),dc [14] [4] (!au) 40 (.agg #[.string N.1,sl q N.2 E]),⟨[14,17],[],[],Fct.cond (!au) (some 41) (Fct.row 201 [] 41 9 R9 cz)⟩,dc [14,18] [] (!au) 42 (Zi (cz.length : Int)),dc [14,16,19] [] (!au) 43 (.bool (!decide (dC = (cz.length : Int)))),dv [14,20] [] 44 (.bool an),dv [21] [] 45 (.bool an),dc [22] [0] (!an) 46 (pt ae 0),⟨[22,23],[],[],Fct.cond (!an) (some 47) (Fct.row 205 [] 47 5 R5 bd)⟩,dc [22,24] [] (!an) 48 (.string (bsS bd)),dc [22] [4] (!an) 49 (pt M 0),dc [22,26] [] (!an) 50 (.string N.1),dc [22,25,27] [] (!an) 51 (.bool (!eqS (bsS bd) N.1)),dv [22,28] [] 52 (.bool (an || (!eqS (bsS bd) N.1)))] g6 gs nm_ ?_ ?_
 ·refine sM ci<|sF (fun f=>or_len tu23 f.1 rfl)<|sS (fun s=>or_field fo43_1 (s.1.trans ak) (by rfl))<|sG to41 K<|sF (fun f=>or_len tu41 f.1 rfl)<|sF (fun f=>or_neq f.1 f.2.1 rfl)<|sV<|cF (fun _ s _ _=>or_move (s.1.trans av))<|cF (fun f _ C v=>or_call cf14 (args1 (f.2.1.1 v)) (pack_Pack_Len_w _ p1 ae ce S V T W U X (BlkO.zero_ (be_ C (be_ H aM))) (RdO.zero (RdO.evo rfl C (RdO.evo rfl H Z))) (RdO.zero (RdO.evo rfl C (RdO.evo rfl H aa))) (RdO.zero (RdO.evo rfl C (RdO.evo rfl H ab))) dB (gd_t f3 v)) post_val)<|cF (fun _ s _ _=>or_field fo43_1 (s.1.trans ak) (by rfl))<|cF (fun f _ C v=>ld1 to41 (f.2.1.1 v) (be_ C K))<|cF (fun f _ _ v=>or_len tu41 (f.2.1.1 v) rfl)<|cF (fun f _ _ v=>or_neq (f.2.1.1 v) (f.2.2.1.1 v) rfl)<|sF (fun f=>or_or f.1 rfl (fun hx=>f.2.1.1 hx) (osome f8).symm)<|sV<|cF (fun _ s _ _=>or_move (s.1.trans av))<|cF (fun f _ C v=>or_call cf13 (args1 (f.2.1.1 v)) (pack_Pack_Blobs_w _ p1 ae ce S V T W U X (BlkO.zero_ (be_ C (be_ H aM))) (RdO.zero (RdO.evo rfl C (RdO.evo rfl H Z))) (RdO.zero (RdO.evo rfl C (RdO.evo rfl H aa))) (RdO.zero (RdO.evo rfl C (RdO.evo rfl H ab))) dC (gd_t f4 v)) post_val)<|cFL ta43 ak K<|cF (fun f _ C v=>or_call cf35 (args1 (f.2.1.1 v)) (ref27_Blobs_w _ N q E (RdO.zero (RdO.evo rfl C (RdO.evo rfl H G))) cz (gd_t f5 v)) (post_row (m' := (look0 [(1,201)])) (.inl (Rep.fl_flat _)) rfl rfl (fun _=>rfl))) ?_
  refine sc (fun own a wx hf ar C=>?_) ?_
  ·obtain ⟨gF,gm,-⟩ := hf
   refine sg_f rfl rfl rfl gF (fun v=>?_)
   obtain ⟨⟨hG,hi⟩,gG,hh⟩ := gm.1 v
   exact or_len tu80 gG rfl
  refine cF (fun f _ _ v=>or_neq (f.2.1.1 v) (f.2.2.1.1 v) rfl)<|sF (fun f=>or_or f.1 rfl (fun hx=>f.2.1.1 hx) (osome f9).symm)<|sV<|cF (fun _ s _ _=>or_move (s.1.trans av))<|cF (fun f _ C v=>or_call cf20 (args1 (f.2.1.1 v)) (pack_Pack_Head_w _ p1 ae ce S V T W U X (BlkO.zero_ (be_ C (be_ H aM))) (RdO.zero (RdO.evo rfl C (RdO.evo rfl H Z))) (RdO.zero (RdO.evo rfl C (RdO.evo rfl H aa))) (RdO.zero (RdO.evo rfl C (RdO.evo rfl H ab))) bd (gd_t f6 v)) (post_row (m' := (look0 [(1,205)])) (.inl (Rep.fl_flat _)) rfl rfl (fun _=>rfl))) ?_
  refine sc (fun own a wx hf ar C=>?_) ?_
  ·obtain ⟨gH,gn,-⟩ := hf
   refine sg_f rfl rfl rfl gH (fun v=>?_)
   obtain ⟨⟨hH,hj⟩,gI,dG⟩ := gn.1 v
   exact or_convBS tu22 tn5 tS9 gI (RwO.rd dG)
  exact cF (fun _ s _ _=>or_field fo43_0 (s.1.trans ak) (by rfl))<|cF (fun f _ C v=>ld1 to9 (f.2.1.1 v) (be_ C K))<|cF (fun f _ _ v=>or_neqS tS9 (f.2.1.1 v) (f.2.2.1.1 v) rfl)<|sF (fun f=>or_or f.1 rfl (fun hx=>f.2.1.1 hx) rfl)<|steps_nil
 intro eY hS h7 eR e9 fM fx aT
 obtain ⟨dV,dW,dX,dY,dZ,d1,cJ,cK⟩ := kt8 fM av ak dS ci dT dU cH cI
 have cL := gv (fx [29] rfl) rfl
 have dh := es_ H aT
 obtain ⟨bt,bu⟩ := be2 aT K bq
 have br := re_ aT bo
 have bs := re_ aT bp
 refine fl_cond cL B (fun gh B=>?_) (fun gh B=>?_)
 ·refine rq_seq 132 eY (bz 1) [dv [] [] 6 (.bool false)] e9 eR ?_ ?_
  ·exact sO (or_assign rfl)<|steps_nil
  intro gO hT h8 gt il hv fy fi
  have d2 := gv (fy [0] rfl) rfl
  have fo := es_ dh fi
  refine fl_ret ?_
  refine fY _ _ _ rfl ?_
  obtain rfl := osome B
  exact cy _ _ _ _ (.inl rfl) gt (results1_ rfl (RVal.tmp_ d2)) ⟨gO,rfl,fo⟩
 refine fl_skip ?_
 refine fQ _ _ ?_
 refine fl_seq (fun hK fR dt=>?_)
 refine rq_seq 132 eY (bz 1) [dv [] [] 12 (Zi 0)] e9 eR ?_ ?_
 ·exact sO (or_assign rfl)<|steps_nil
 intro gP hU h9 gu g7 fN fz aU
 obtain ⟨d3,d4,d5,d6,d7,d8,cM,cN⟩ := kt8 fN dV dW dX dY dZ d1 cJ cK
 have cO := gv (fz [0] rfl) rfl
 have fp := es_ dh aU
 obtain ⟨bx,bA⟩ := be2 aU bt bu
 have bv := re_ aU br
 have bw := re_ aU bs
 refine fl_block (fun hL hA ga du=>?_)
 refine fl_loop (body := (fun s=>law27_alike_b1 p1 N t3 k b s.1 s.2.1 s.2.2)) (z := r) (show loopO _ _ = _ from B) (fun (s : ByteArray × Bool × Int) a wx=>match s with | (I,al,p)=>∃ (ox : Own),a.defers = [] ∧ a.tmps.size = 132 ∧ a.eval (.tmp 0) = pt ae 0 ∧ a.eval (.tmp 4) = pt M 0 ∧ a.eval (.tmp 5) = pt aL 0 ∧ a.eval (.tmp 7) = sl u k t ∧ a.eval (.tmp 8) = sl j b.1 d ∧ a.eval (.tmp 9) = .bool b.2 ∧ a.eval (.tmp 10) = .string I ∧ a.eval (.tmp 11) = .bool al ∧ a.eval (.tmp 12) = Zi p ∧ Evo [] (fun _=>0) ox w wx ∧ BlkO ox 181 wx M 43 #[.string N.1,sl q N.2 E] ∧ BlkO ox 183 wx aL 28 #[Zi t3.1,Zi t3.2.1,Zi t3.2.2] ∧ RwO ox 187 [256] wx 30 R30 u t k ∧ RwO ox 192 [] wx 5 R5 j d b.1) ?_ ?_
 ·exact ⟨(rl [(188,256)] gP),gu,g7,d3,d4,d5,d6,d7,d8,cM,cN,cO,(Evo.rl_ fp (fun _=>Nat.le_refl 0) rfl),(BlkO.rl_ bx),(BlkO.rl_ bA),(RwO.rl_ bv),(RwO.rl_ bw)⟩
 ·rintro ⟨I,al,p⟩ dE hV ia ⟨gQ,gw,g8,d9,ea,eb,cj,ec,ed,cP,cQ,a7,fj,bD,bE,bB,bC⟩ B hM fS b4 dD
  have B : law27_alike_b1 p1 N t3 k b I al p = some dE := B
  refine fl_seq (fun hN fT fZ=>?_)
  refine rq_seq 132 gQ [0,0,2,7] [dv [] [12] 53 (Zi p),dv [] [7] 54 (sl u k t),dv [1] [] 55 (Zi (k.length : Int)),dv [0,2] [] 56 (.bool (decide (p < (k.length : Int))))] g8 gw ?_ ?_
  ·exact sM a7<|sM cj<|sF (fun f=>or_len tu23 f.1 rfl)<|sF (fun f=>or_lss f.1 f.2.1 rfl)<|steps_nil
  intro eZ hW ib eS fa dn fA aV
  obtain ⟨ee,aP,ef,aQ,ck,cl,a8,a9⟩ := kt8 dn d9 ea eb cj ec ed cP cQ
  have Y := kt dn a7
  have cR := gv (fA [3] rfl) rfl
  have ap := es_ fj aV
  obtain ⟨ah,bF⟩ := be2 aV bD bE
  have L := re_ aV bB
  have ax := re_ aV bC
  refine fl_cond cR B (fun gi B=>?_) (fun gi B=>?_)
  ·refine fl_skip ?_
   refine fT _ _ ?_
   refine fl_seq (fun hO fU dw=>?_)
   refine fl_block (fun hP fV hC dx=>?_)
   refine fl_seq (fun hQ fW f0=>?_)
   obtain ⟨D,b5,B⟩ := obind B
   obtain ⟨A,b6,B⟩ := obind B
   obtain ⟨cA,b7,B⟩ := obind B
   obtain ⟨e5,b8,B⟩ := obind B
   obtain ⟨g1,gb,B⟩ := obind B
   refine rd_seq g_mixed 132 [] eZ [] [0,0,3,7,15,0,32,0,224,480,992,2047,4095,8191,8191,32767,65535,131071,262143,8191,532479,8191,3678207,7872511,16261119,33554431,67108863] [dv [] [7] 59 (sl u k t),dv [] [12] 60 (Zi p),dv [0,1] [] 61 (.pointer (some ((adr u).add ((p : Int).toNat * R30.s)))),dv [2] [] 62 (.pointer (some ((adr u).add ((p : Int).toNat * R30.s)))),⟨[3],[],[],Fct.nest X30 [187,256] 63 (fun (y : (Unit × (Option Addr × Nat)))=>.agg #[Zi D.1.1,Zi D.1.2.1,Zi D.1.2.2]) D⟩,dv [] [4] 64 (pt M 1),dv [5] [] 65 (sl q N.2 E),dv [] [12] 66 (Zi p),dv [6,7] [] 67 (.pointer (some ((adr q).add ((p : Int).toNat * R77.s)))),dv [8] [] 68 (.pointer (some ((adr q).add ((p : Int).toNat * R77.s)))),dv [9] [] 69 (.agg #[Zi A.1.1,Zi A.1.2.1,Zi A.1.2.2]),dv [4,10] [] 70 (.bool (!decide (D.1 = A.1))),dv [11] [] 71 (.bool (!decide (D.1 = A.1))),dc [12] [7] (!(!decide (D.1 = A.1))) 72 (sl u k t),dc [12] [12] (!(!decide (D.1 = A.1))) 73 (Zi p),dc [12,13,14] [] (!(!decide (D.1 = A.1))) 74 (.pointer (some ((adr u).add ((p : Int).toNat * R30.s)))),dc [12,15] [] (!(!decide (D.1 = A.1))) 75 (.pointer (some (((adr u).add ((p : Int).toNat * R30.s)).add 3))),⟨[12,16],[],[],Fct.cond (!(!decide (D.1 = A.1))) (some 76) (Fct.nest X30 [187,256] 76 (fun (y : (Unit × (Option Addr × Nat)))=>.slice y.2.1 cA.2.length y.2.2) cA)⟩,dc [12,17] [] (!(!decide (D.1 = A.1))) 77 (.string (bsS cA.2)),dc [12] [4] (!(!decide (D.1 = A.1))) 78 (pt M 1),dc [12,19] [] (!(!decide (D.1 = A.1))) 79 (sl q N.2 E),dc [12] [12] (!(!decide (D.1 = A.1))) 80 (Zi p),dc [12,20,21] [] (!(!decide (D.1 = A.1))) 81 (.pointer (some ((adr q).add ((p : Int).toNat * R77.s)))),dc [12,22] [] (!(!decide (D.1 = A.1))) 82 (.pointer (some (((adr q).add ((p : Int).toNat * R77.s)).add 3))),dc [12,23] [] (!(!decide (D.1 = A.1))) 83 (.string e5.2),dc [12,18,24] [] (!(!decide (D.1 = A.1))) 84 (.bool (!eqS (bsS cA.2) e5.2)),dv [12,25] [] 85 (.bool g1)] fa eS nm_ ?_ ?_
   ·refine sM aQ<|sM Y<|sF (fun f=>or_index (R := R30) (l := k) tl23 f.1 f.2.1 (RdO.some_ (RwO.rd L) b5) b5)<|sF (fun f=>or_field fo30_0 f.1 (Addr.add_zero' _))<|sFE (fun f C=>or_loadN X30 0 3 ta28 f.1 (Addr.add_zero' _).symm (RwO.rd (re_ C L)) b5 (fun _=>rfl) (fun _=>rfl))<|sS (fun s=>or_field fo43_1 (s.1.trans aP) (by rfl))<|sG to41 ah<|sM Y<|sF (fun f=>or_index (R := R77) (l := N.2) tl41 f.1 f.2.1 (RdO.some_ (RdO.evo rfl ap G) b6) b6)<|sF (fun f=>or_field fo77_0 f.1 (Addr.add_zero' _))<|sFE (fun f C=>or_load (l := [Zi A.1.1,Zi A.1.2.1,Zi A.1.2.2]) ta75 f.1 (CellsAt.head_ (RdO.cells (F := E77) (RdO.evo rfl C (RdO.evo rfl ap G)) b6) rfl) rfl) ?_
    refine sc (fun own a wx hf ar C=>?_) ?_
    ·obtain ⟨⟨⟨_,_⟩,gJ,⟨-,-⟩⟩,gK,-⟩ := hf
     exact px (or_neqA sg75 gJ gK (sn75 D.1.1 D.1.2.1 D.1.2.2 A.1.1 A.1.2.1 A.1.2.2 _) rfl)
    refine sV<|cF (fun _ s _ _=>or_move (s.1.trans aQ))<|cF (fun _ s _ _=>or_move (s.1.trans Y))<|cF (fun f _ _ v=>or_index (R := R30) (l := k) tl23 (f.2.1.1 v) (f.2.2.1.1 v) (RdO.some_ (RwO.rd L) (gd_t b7 v)) (gd_t b7 v))<|cF (fun f _ _ v=>or_field fo30_1 (f.2.1.1 v) rfl)<|cF (fun f _ C v=>or_loadN1 X30 3 to22 (f.2.1.1 v) rfl (RwO.rd (re_ C L)) (gd_t b7 v) (fun _=>rfl)) ?_
    refine sc (fun own a wx hf ar C=>?_) ?_
    ·obtain ⟨gL,go,-⟩ := hf
     refine sg_f rfl rfl rfl gL (fun v=>?_)
     obtain ⟨⟨_,⟨hI,hl⟩⟩,gM,⟨-,dH⟩⟩ := go.1 v
     exact or_convBS tu22 tn5 tS9 gM dH
    exact cF (fun _ s _ _=>or_field fo43_1 (s.1.trans aP) (by rfl))<|cF (fun f _ C v=>ld1 to41 (f.2.1.1 v) (be_ C ah))<|cF (fun _ s _ _=>or_move (s.1.trans Y))<|cF (fun f _ _ v=>or_index (R := R77) (l := N.2) tl41 (f.2.1.1 v) (f.2.2.1.1 v) (RdO.some_ (RdO.evo rfl ap G) (gd_t b8 v)) (gd_t b8 v))<|cF (fun f _ _ v=>or_field fo77_1 (f.2.1.1 v) rfl)<|cF (fun f _ C v=>or_load1 to9 (f.2.1.1 v) (CellsAt.one (RdO.cells (F := E77) (RdO.evo rfl C (RdO.evo rfl ap G)) (gd_t b8 v)) rfl))<|cF (fun f _ _ v=>or_neqS tS9 (f.2.1.1 v) (f.2.2.1.1 v) rfl)<|sF (fun f=>or_or f.1 rfl (fun hx=>f.2.1.1 hx) (osome gb).symm)<|steps_nil
   intro e0 hX ic eT fb dp fB aW
   obtain ⟨eg,cm,cn,eh,ei,ej,cS,cU⟩ := kt8 dp ee aP ef aQ ck cl a8 a9
   have ba := kt dp Y
   have cV := gv (fB [26] rfl) rfl
   have a3 := es_ ap aW
   obtain ⟨ay,az⟩ := be2 aW ah bF
   have bG := re_ aW L
   have bH := re_ aW ax
   refine fl_cond cV B (fun gj B=>?_) (fun gj B=>?_)
   ·refine rq_seq 132 e0 (bz 1) [dv [] [] 6 (.bool false)] fb eT ?_ ?_
    ·exact sO (or_assign rfl)<|steps_nil
    intro gR hY id gx im hw fC fk
    have ek := gv (fC [0] rfl) rfl
    have fq := es_ a3 fk
    refine fl_ret ?_
    refine f0 _ _ _ rfl ?_
    refine dx _ _ _ rfl ?_
    refine dw _ _ _ rfl ?_
    replace B := dD _ B
    refine b4 _ _ _ rfl ?_
    refine du _ _ _ rfl ?_
    refine dt _ _ _ rfl ?_
    obtain rfl := osome B
    exact cy _ _ _ _ (.inl rfl) gx (results1_ rfl (RVal.tmp_ ek)) ⟨gR,rfl,fq⟩
   refine fl_skip ?_
   refine fW _ _ ?_
   refine fl_seq (fun gg fX hB=>?_)
   have eO : ∀ (O : Act) (aJ : World) (aI : Own) (aK : ByteArray) (a5 : Bool),O.defers = [] → O.tmps.size = 132 → O.eval (.tmp 0) = pt ae 0 → O.eval (.tmp 4) = pt M 0 → O.eval (.tmp 5) = pt aL 0 → O.eval (.tmp 7) = sl u k t → O.eval (.tmp 8) = sl j b.1 d → O.eval (.tmp 9) = .bool b.2 → O.eval (.tmp 10) = .string aK → O.eval (.tmp 11) = .bool a5 → O.eval (.tmp 12) = Zi p → Evo [] (fun _=>0) aI w aJ → BlkO aI 181 aJ M 43 #[.string N.1,sl q N.2 E] → BlkO aI 183 aJ aL 28 #[Zi t3.1,Zi t3.2.1,Zi t3.2.2] → RwO aI 187 [326] aJ 30 R30 u t k → RwO aI 192 [] aJ 5 R5 j d b.1 → law27_alike_k2 p1 N k p aK a5 = some dE → gg .normal O aJ := by
    intro O aJ aI aK a5 gy g9 co el em cp en eo cW cX bb aF bJ bK ai bI B
    refine fX _ _ ?_
    obtain ⟨be,b9,B⟩ := obind B
    obtain ⟨c,f7,B⟩ := obind B
    refine rq_seq 132 aI [0,0,0,6,14,30,63,127,255,255,511,2047] [dv [] [0] 101 (pt ae 0),dv [] [7] 102 (sl u k t),dv [] [12] 103 (Zi p),dv [1,2] [] 104 (.pointer (some ((adr u).add ((p : Int).toNat * R30.s)))),dv [3] [] 105 (.pointer (some ((adr u).add ((p : Int).toNat * R30.s)))),⟨[4],[],[],Fct.nest X30 [187,326] 106 (fun (y : (Unit × (Option Addr × Nat)))=>.agg #[Zi be.1.1,Zi be.1.2.1,Zi be.1.2.2]) be⟩,⟨[0,5],[],[],Fct.mems [334] 107 (fun (x : Option Addr × Nat)=>.tuple #[.slice x.1 c.1.length x.2,.bool c.2]) (fun (x : Option Addr × Nat) own w=>RwO own 334 [] w 5 R5 x.1 x.2 c.1) (fun hk he h=>RwO.evo (hits_sub hk (by decide)) he h)⟩,⟨[6],[],[],Fct.rel [100,107] (fun l=>∀ (o : Option Addr) (i : Nat),l.getD 1 undef = .tuple #[sl o c.1 i,.bool c.2] → l.getD 0 undef = .tuple #[sl o c.1 i,.bool c.2])⟩,⟨[7,6],[],[],Fct.rel [108,107] (fun l=>∀ (o : Option Addr) (i : Nat),l.getD 1 undef = .tuple #[sl o c.1 i,.bool c.2] → l.getD 0 undef = sl o c.1 i)⟩,dv [7,6] [] 109 (.bool c.2),⟨[8,6],[],[],Fct.rel [13,107] (fun l=>∀ (o : Option Addr) (i : Nat),l.getD 1 undef = .tuple #[sl o c.1 i,.bool c.2] → l.getD 0 undef = sl o c.1 i)⟩,dv [9] [] 14 (.bool c.2)] g9 gy ?_ ?_
    ·refine sM co<|sM cp<|sM bb<|sF (fun f=>or_index (R := R30) (l := k) tl23 f.1 f.2.1 (RdO.some_ (RwO.rd ai) b9) b9)<|sF (fun f=>or_field fo30_0 f.1 (Addr.add_zero' _))<|sFE (fun f C=>or_loadN X30 0 3 ta28 f.1 (Addr.add_zero' _).symm (RwO.rd (re_ C ai)) b9 (fun _=>rfl) (fun _=>rfl)) ?_
     refine sc (fun own a wx hf ar C=>?_) ?_
     ·obtain ⟨fe,⟨⟨_,_⟩,ff,⟨-,-⟩⟩,-⟩ := hf
      exact px (or_call cf22 (args2 fe ff) (pack_Pack_Get_w _ p1 ae ce S V T W U X be.1 (BlkO.zero_ (be_ C (be_ aF aM))) (RdO.zero (RdO.evo rfl C (RdO.evo rfl aF Z))) (RdO.zero (RdO.evo rfl C (RdO.evo rfl aF aa))) (RdO.zero (RdO.evo rfl C (RdO.evo rfl aF ab))) c f7) (post_mems (m := (fun _=>0)) (m' := (look0 [(1,334)])) (fun _ _=>.inl rfl) (fun af w' a' x h1 h=>⟨x,h1,RwO.back_ h (by decide) (.inl (Rep.fl_flat _))⟩)))
     refine sc (fun own a wx hf ar C=>?_) ?_
     ·obtain ⟨⟨⟨o,i⟩,(J : a.eval (.tmp 107) = .tuple #[sl o c.1 i,.bool c.2]),aO⟩,-⟩ := hf
      exact px (or_mono (f := Fct.val 100 (.tuple #[sl o c.1 i,.bool c.2])) (or_move J) (fun af a' w' v' hp h=>fun _ _ ao=>by cases (J.symm.trans ((hp.2 107 (by decide)).symm.trans ao)); exact h))
     refine sc (fun own a wx hf ar C=>?_) ?_
     ·obtain ⟨(cd : ∀ (o : Option Addr) (i : Nat),a.eval (.tmp 107) = .tuple #[sl o c.1 i,.bool c.2] → a.eval (.tmp 100) = .tuple #[sl o c.1 i,.bool c.2]),⟨⟨o,i⟩,(J : a.eval (.tmp 107) = .tuple #[sl o c.1 i,.bool c.2]),aO⟩,-⟩ := hf
      have b1 := cd _ _ J
      exact px (or_mono (f := Fct.val 108 (sl o c.1 i)) (ok1 b1) (fun af a' w' v' hp h=>fun _ _ ao=>by cases (J.symm.trans ((hp.2 107 (by decide)).symm.trans ao)); exact h))
     refine sc (fun own a wx hf ar C=>?_) ?_
     ·obtain ⟨(cd : ∀ (o : Option Addr) (i : Nat),a.eval (.tmp 107) = .tuple #[sl o c.1 i,.bool c.2] → a.eval (.tmp 100) = .tuple #[sl o c.1 i,.bool c.2]),⟨⟨o,i⟩,J,aO⟩,-⟩ := hf
      have b1 := cd _ _ J
      exact px (ok1 b1)
     refine sc (fun own a wx hf ar C=>?_) ?_
     ·obtain ⟨(ge : ∀ (o : Option Addr) (i : Nat),a.eval (.tmp 107) = .tuple #[sl o c.1 i,.bool c.2] → a.eval (.tmp 108) = sl o c.1 i),⟨⟨o,i⟩,(J : a.eval (.tmp 107) = .tuple #[sl o c.1 i,.bool c.2]),aO⟩,-⟩ := hf
      have fg := ge _ _ J
      exact px (or_mono (f := Fct.val 13 (sl o c.1 i)) (or_assign fg) (fun af a' w' v' hp h=>fun _ _ ao=>by cases (J.symm.trans ((hp.2 107 (by decide)).symm.trans ao)); exact h))
     exact sA<|steps_nil
    intro e1 cG g0 gz ha dq dl aX
    obtain ⟨ep,cq,eq,er,es,et,cY,cZ⟩ := kt8 dq co el em cp en eo cW cX
    have bc := kt dq bb
    have c1 := gv (dl [11] rfl) rfl
    obtain ⟨⟨⟨o,i⟩,(J : cG.eval (.tmp 107) = .tuple #[sl o c.1 i,.bool c.2]),(bN : RwO e1 334 [] g0 5 R5 o i c.1)⟩,(gW : ∀ (o : Option Addr) (i : Nat),cG.eval (.tmp 107) = .tuple #[sl o c.1 i,.bool c.2] → cG.eval (.tmp 13) = sl o c.1 i),-⟩ := dl [6,10] rfl
    have c0 := gW _ _ J
    have b3 := es_ aF aX
    obtain ⟨aA,bO⟩ := be2 aX bJ bK
    have bL := re_ aX ai
    have bM := re_ aX bI
    obtain ⟨e6,ca,B⟩ := obind B
    obtain ⟨g2,gc,B⟩ := obind B
    refine rd_seq g_mixed 132 [] e1 [] [0,1,3,7,15,7,39,7,231,487,999,2047,4095] [dv [] [14] 110 (.bool c.2),dv [0] [] 111 (.bool (!c.2)),dv [1] [] 112 (.bool (!c.2)),dc [2] [13] (!(!c.2)) 113 (sl o c.1 i),dc [2,3] [] (!(!c.2)) 114 (.string (bsS c.1)),dc [2] [4] (!(!c.2)) 115 (pt M 1),dc [2,5] [] (!(!c.2)) 116 (sl q N.2 E),dc [2] [12] (!(!c.2)) 117 (Zi p),dc [2,6,7] [] (!(!c.2)) 118 (.pointer (some ((adr q).add ((p : Int).toNat * R77.s)))),dc [2,8] [] (!(!c.2)) 119 (.pointer (some (((adr q).add ((p : Int).toNat * R77.s)).add 3))),dc [2,9] [] (!(!c.2)) 120 (.string e6.2),dc [2,4,10] [] (!(!c.2)) 121 (.bool (!eqS (bsS c.1) e6.2)),dv [2,11] [] 122 (.bool g2)] ha gz nm_ ?_ ?_
    ·exact sM c1<|sF (fun f=>or_not f.1 rfl)<|sV<|cF (fun _ s _ _=>or_move (s.1.trans c0))<|cF (fun f _ C v=>or_convBS tu22 tn5 tS9 (f.2.1.1 v) (RwO.rd (re_ C bN)))<|cF (fun _ s _ _=>or_field fo43_1 (s.1.trans cq) (by rfl))<|cF (fun f _ C v=>ld1 to41 (f.2.1.1 v) (be_ C aA))<|cF (fun _ s _ _=>or_move (s.1.trans bc))<|cF (fun f _ _ v=>or_index (R := R77) (l := N.2) tl41 (f.2.1.1 v) (f.2.2.1.1 v) (RdO.some_ (RdO.evo rfl b3 G) (gd_t ca v)) (gd_t ca v))<|cF (fun f _ _ v=>or_field fo77_1 (f.2.1.1 v) rfl)<|cF (fun f _ C v=>or_load1 to9 (f.2.1.1 v) (CellsAt.one (RdO.cells (F := E77) (RdO.evo rfl C (RdO.evo rfl b3 G)) (gd_t ca v)) rfl))<|cF (fun f _ _ v=>or_neqS tS9 (f.2.1.1 v) (f.2.2.1.1 v) rfl)<|sF (fun f=>or_or f.1 rfl (fun hx=>f.2.1.1 hx) (osome gc).symm)<|steps_nil
    intro e2 hZ ie eU fc dr fD aY
    obtain ⟨eu,ev,ew,ex,ey,ez,c2,c3⟩ := kt8 dr ep cq eq er es et cY cZ
    have c4 := kt dr bc
    have cB := gv (fD [12] rfl) rfl
    have di := es_ b3 aY
    obtain ⟨bR,bS⟩ := be2 aY aA bO
    have bP := re_ aY bL
    have bQ := re_ aY bM
    refine fl_cond cB B (fun gk B=>?_) (fun gk B=>?_)
    ·refine rq_seq 132 e2 (bz 1) [dv [] [] 6 (.bool false)] fc eU ?_ ?_
     ·exact sO (or_assign rfl)<|steps_nil
     intro gS h0 ig gA io hy fE fl
     have eA := gv (fE [0] rfl) rfl
     have fr := es_ di fl
     refine fl_ret ?_
     refine dx _ _ _ rfl ?_
     refine dw _ _ _ rfl ?_
     replace B := dD _ B
     refine b4 _ _ _ rfl ?_
     refine du _ _ _ rfl ?_
     refine dt _ _ _ rfl ?_
     obtain rfl := osome B
     exact cy _ _ _ _ (.inl rfl) gA (results1_ rfl (RVal.tmp_ eA)) ⟨gS,rfl,fr⟩
    refine fl_skip ?_
    refine fV _ _ ?_
    refine fU _ _ ?_
    refine rq 132 e2 (bz 3) [dv [] [12] 57 (Zi p),dv [0] [] 58 (Zi (ad p 1)),dv [1] [] 12 (Zi (ad p 1))] fc eU ?_ ?_
    ·exact sM c4<|sF (fun f=>or_add f.1 rfl rfl)<|sA<|steps_nil
    intro gT h2 ih gB hb fO fF aZ
    obtain ⟨eB,eC,eD,eE,eF,eG,c5,c6⟩ := kt8 fO eu ev ew ex ey ez c2 c3
    have c7 := gv (fF [2] rfl) rfl
    have fs := es_ di aZ
    obtain ⟨bV,bW⟩ := be2 aZ bR bS
    have bT := re_ aZ bP
    have bU := re_ aZ bQ
    exact fS _ _ _ B ⟨(rl [(326,256)] gT),gB,hb,eB,eC,eD,eE,eF,eG,c5,c6,c7,(Evo.rl_ fs (fun _=>Nat.le_refl 0) rfl),(BlkO.rl_ bV),(BlkO.rl_ bW),(RwO.rl_ bT),(RwO.rl_ bU)⟩
   obtain ⟨ag,cb,B⟩ := obind B
   refine rd_seq g_mixed 132 [] e0 [] [0,1,0,7,15,31,0,127] [dv [] [4] 86 (pt M 1),dv [0] [] 87 (sl q N.2 E),dv [] [12] 88 (Zi p),dv [1,2] [] 89 (.pointer (some ((adr q).add ((p : Int).toNat * R77.s)))),dv [3] [] 90 (.pointer (some ((adr q).add ((p : Int).toNat * R77.s)))),dv [4] [] 91 (.agg #[Zi ag.1.1,Zi ag.1.2.1,Zi ag.1.2.2]),dv [] [5] 92 (.agg #[Zi t3.1,Zi t3.2.1,Zi t3.2.2]),dv [5,6] [] 93 (.bool (decide (ag.1 = t3)))] fb eT nm_ ?_ ?_
   ·exact sS (fun s=>or_field fo43_1 (s.1.trans cm) (by rfl))<|sG to41 ay<|sM ba<|sF (fun f=>or_index (R := R77) (l := N.2) tl41 f.1 f.2.1 (RdO.some_ (RdO.evo rfl a3 G) cb) cb)<|sF (fun f=>or_field fo77_0 f.1 (Addr.add_zero' _))<|sFE (fun f C=>or_load (l := [Zi ag.1.1,Zi ag.1.2.1,Zi ag.1.2.2]) ta75 f.1 (CellsAt.head_ (RdO.cells (F := E77) (RdO.evo rfl C (RdO.evo rfl a3 G)) cb) rfl) rfl)<|sL ta28 cn az<|sF (fun f=>or_eqlA sg75 f.1 f.2.1 (se75 ag.1.1 ag.1.2.1 ag.1.2.2 t3.1 t3.2.1 t3.2.2 _) rfl)<|steps_nil
   intro e3 h3 ii eV fd ds fG a1
   obtain ⟨cr,aR,cs,ct,cu,cv,c8,c9⟩ := kt8 ds eg cm cn eh ei ej cS cU
   have aE := kt ds ba
   have da := gv (fG [7] rfl) rfl
   have a4 := es_ a3 a1
   obtain ⟨aj,aD⟩ := be2 a1 ay az
   have aB := re_ a1 bG
   have aC := re_ a1 bH
   refine fl_cond da B (fun gl B=>?_) (fun gl B=>?_)
   ·obtain ⟨e7,cc,B⟩ := obind B
    refine rq 132 e3 [0,1,0,7,15,31,63,127] [dv [] [4] 94 (pt M 1),dv [0] [] 95 (sl q N.2 E),dv [] [12] 96 (Zi p),dv [1,2] [] 97 (.pointer (some ((adr q).add ((p : Int).toNat * R77.s)))),dv [3] [] 98 (.pointer (some (((adr q).add ((p : Int).toNat * R77.s)).add 3))),dv [4] [] 99 (.string e7.2),dv [5] [] 10 (.string e7.2),dv [] [] 11 (.bool true)] fd eV ?_ ?_
    ·exact sS (fun s=>or_field fo43_1 (s.1.trans aR) (by rfl))<|sG to41 aj<|sM aE<|sF (fun f=>or_index (R := R77) (l := N.2) tl41 f.1 f.2.1 (RdO.some_ (RdO.evo rfl a4 G) cc) cc)<|sF (fun f=>or_field fo77_1 f.1 rfl)<|sFE (fun f C=>or_load1 to9 f.1 (CellsAt.one (RdO.cells (F := E77) (RdO.evo rfl C (RdO.evo rfl a4 G)) cc) rfl))<|sA<|sO (or_assign rfl)<|steps_nil
    intro gU h4 ij gC hc fP dm a2
    obtain ⟨eH,eI,eJ,eK,eL,eM,de⟩ := kt7 fP cr aR cs ct cu cv aE
    have db := gv (dm [6] rfl) rfl
    have dd := gv (dm [7] rfl) rfl
    have ft := es_ a4 a2
    obtain ⟨bZ,b0⟩ := be2 a2 aj aD
    have bX := re_ a2 aB
    have bY := re_ a2 aC
    exact (eO _ _ (rl [(256,326)] gU) _ _ gC hc eH eI eJ eK eL eM db dd de (Evo.rl_ ft (fun _=>Nat.le_refl 0) rfl) (BlkO.rl_ bZ) (BlkO.rl_ b0) (RwO.rl_ bX) (RwO.rl_ bY) B)
   refine fl_skip ?_
   exact (eO _ _ (rl [(256,326)] e3) _ _ eV fd cr aR cs ct cu cv c8 c9 aE (Evo.rl_ a4 (fun _=>Nat.le_refl 0) rfl) (BlkO.rl_ aj) (BlkO.rl_ aD) (RwO.rl_ aB) (RwO.rl_ aC) B)
  refine fl_exit ?_
  refine fZ _ _ _ rfl ?_
  replace B := dD _ B
  refine b4 _ _ _ rfl ?_
  refine ga _ _ ?_
  refine fR _ _ ?_
  obtain ⟨e8,gd,B⟩ := obind B
  refine rq_seq 132 eZ [0,1,0,7,15,31,31,127,255,511] [dv [] [8] 123 (sl j b.1 d),dv [0] [] 124 (.string (bsS b.1)),dv [] [10] 125 (.string I),dv [1,2] [] 126 (.bool (eqS (bsS b.1) I)),dv [3] [] 127 (.bool (eqS (bsS b.1) I)),dc [4] [9] (eqS (bsS b.1) I) 128 (.bool b.2),dc [4] [11] (eqS (bsS b.1) I) 129 (.bool al),dc [4,5,6] [] (eqS (bsS b.1) I) 130 (.bool (b.2 == al)),dv [4,7] [] 131 (.bool e8),dv [8] [] 6 (.bool e8)] fa eS ?_ ?_
  ·exact sM ck<|sFE (fun f C=>or_convBS tu22 tn5 tS9 f.1 (RwO.rd (re_ C ax)))<|sM a8<|sF (fun f=>or_eqlS tS9 f.1 f.2.1 rfl)<|sV<|cT (fun _ s _ _=>or_move (s.1.trans cl))<|cT (fun _ s _ _=>or_move (s.1.trans a9))<|cT (fun f _ _ v=>or_eqlb tb4 (f.2.1.1 v) (f.2.2.1.1 v) rfl)<|sF (fun f=>or_and f.1 (fun hx=>f.2.1.1 hx) rfl (osome gd).symm)<|sA<|steps_nil
  intro gV h5 ik gD ip hz fH fm
  have eN := gv (fH [9] rfl) rfl
  have fu := es_ ap fm
  refine fl_ret ?_
  obtain rfl := (osome B).symm
  exact cy _ _ _ _ (.inl rfl) gD (results1_ rfl (RVal.tmp_ eN)) ⟨gV,rfl,fu⟩
end Go.Proofs.Ytnmkonlfnpcoiaa
