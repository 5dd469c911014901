import Derived.Test.YtnmkonlfnpcoiaaWp3
import Derived.Test.YtnmkonlfnpcoiaaSp4
namespace Go.Proofs.Ytnmkonlfnpcoiaa
open Go.RowKit
set_option linter.unusedVariables false
set_option maxRecDepth 10000
theorem pack_Write_1_w (w : World) (own : Own) (J : Int) (E : List Int) (m : Nat) (p : TypeId) (d : Option Addr) (g : Nat) (B : ∀ b,own b ≤ 2) (U : BlkO own 1 w m p #[sl d E g]) (A : RwO own 2 [] w 5 R5 d g E) (r : List Int) (Y : pack_Write_1 J E = some r) :
  Calls Try.prog 24 #[Zi J,pt m 0] w fun e w'=>∃ (o : Own) (x : Option Addr × Nat),e = .returned (.tuple #[]) ∧ Evo [1,2] own o w w' ∧ RwO o 2 [] w' 5 R5 x.1 x.2 r ∧ BlkO o 1 w' m p #[.slice x.1 r.length x.2] := by
 refine fl_enter (n := 9) rfl rfl rfl (Nat.le_of_ble_eq_true rfl) ?_
 intro a0 Q d0 z0 u X
 have ao := u 0 _ rfl
 have H := u 1 _ rfl
 clear u
 have an : Evo [1,2] own own w w := Evo.refl _ _ _
 obtain ⟨aa,W,Y⟩ := obind Y
 obtain ⟨j,Z,Y⟩ := obind Y
 refine rd_ g_mixed 9 [Fct.rowAt 2 [] 5 R5 d g E,Fct.at_ 1 m p #[sl d E g]] own [2,1] [0,0,2,6,14,31,63] [dv [8] [1] 3 (sl d E g),dv [] [0] 4 (Zi J),dv [1] [] 5 (.int .u64 (IntKind.u64.wrap J)),⟨[2],[],[],Fct.row 50 [] 6 26 R26 [IntKind.u64.wrap J]⟩,⟨[3],[],[],Fct.row 53 [] 7 5 R5 aa⟩,⟨[0,4,7],[],[2],Fct.row 55 [] 8 5 R5 j⟩,⟨[5,8],[1],[1],Fct.by_ [57] [8] (fun l own w=>∀ (i : Option Addr) (c : Nat),l.getD 0 undef = sl i j c → BlkO own 57 w m p #[sl i j c]) (fun hk he h _ _ G=>BlkO.evo (not_hit hk (by decide)) he (h _ _ G))⟩] z0 d0 (fm2 A U) ?_ ?_
 ·refine sc (fun own a wx I v hE=>?_) ?_
  ·obtain ⟨(k : BlkO own 1 wx m p #[sl d E g]),-⟩ := I
   obtain ⟨M,-⟩ := v
   exact px (ld1 to22 (M.trans H) k)
  refine sM ao<|sF (fun f=>or_conv f.1 tn3 tn26 rfl)<|sF (fun f=>or_lit (lab := 50) (e := 26) (cs := #[.int .u64 (IntKind.u64.wrap J)]) (F := E26) (nw1 f.1) rfl rfl (show 1 ≤ maxLen by decide)) ?_
  refine sc (fun own a wx I v hE=>?_) ?_
  ·obtain ⟨⟨⟨af,O⟩,ak,C⟩,-⟩ := I
   exact px (or_call cf25 (args1 ak) (varint_Bytes_w _ [IntKind.u64.wrap J] af O (RdO.zero (RwO.rd C)) aa W) (post_row (m' := (look0 [(1,53)])) (.inl (Rep.fl_flat _)) rfl rfl (fun _=>rfl)))
  refine sc (fun own a wx I v hE=>?_) ?_
  ·obtain ⟨aj,⟨⟨aq,ap⟩,al,D⟩,t,-⟩ := I
   exact px (or_append (R := R5) (lab := 2) (lab2 := 55) (L := []) (L3 := []) tp22 aj t (by decide) al (RwO.rd D) Z (by decide) (by decide) (mem_of rfl) (.inl (Rep.fl_flat _)))
  refine sc (fun own a wx I v hE=>?_) ?_
  ·obtain ⟨⟨⟨i,c⟩,(z : a.eval (.tmp 8) = sl i j c),ag⟩,k,-⟩ := I
   obtain ⟨M,-⟩ := v
   exact px (or_store1 (lab := 1) (lab2 := 57) ts22 (M.trans H) z k (by simp) rfl (mem_of rfl) (by decide) rfl (fun o a' w' ha hb=>fun _ _ G=>by cases (z.symm.trans ((ha 8).symm.trans G)); exact hb))
  exact steps_nil
 intro K N ab ah ay V T P
 have ai := kt V H
 obtain ⟨⟨⟨i,c⟩,(z : N.eval (.tmp 8) = sl i j c),(q : RwO K 55 [] ab 5 R5 i c j)⟩,(y : ∀ (i : Option Addr) (c : Nat),N.eval (.tmp 8) = sl i j c → BlkO K 57 ab m p #[sl i j c]),-⟩ := T [5,6] rfl
 have s := y _ _ z
 have S := Evo.step an B P rfl
 obtain rfl := (osome Y).symm
 exact X _ _ _ _ (.inr rfl) ah (results0_ rfl ) ⟨(rl [(55,2),(57,1)] K),(i,c),rfl,(Evo.rl_ S B rfl),(RwO.rl_ q),(BlkO.rl_ s)⟩
theorem pack_Write_1_v_w (w : World) (own : Own) (I : Int) (s : List Int) (k : Nat) (o : TypeId) (g : Option Addr) (A : ∀ b,own b ≤ 2) (S : BlkO own 1 w k o #[sl g s s.length]) (z : RdO own [0] w R5 g s.length s) (r : List Int) (W : pack_Write_1_v I s = some r) :
  Calls Try.prog 24 #[Zi I,pt k 0] w fun e w'=>∃ (m : Own) (x : Option Addr × Nat),e = .returned (.tuple #[]) ∧ Evo [1,2] own m w w' ∧ RwO m 2 [] w' 5 R5 x.1 x.2 r ∧ BlkO m 1 w' k o #[.slice x.1 r.length x.2] := by
 refine fl_enter (n := 9) rfl rfl rfl (Nat.le_of_ble_eq_true rfl) ?_
 intro a0 Q d0 z0 t V
 have al := t 0 _ rfl
 have G := t 1 _ rfl
 clear t
 have ak : Evo [1,2] own own w w := Evo.refl _ _ _
 obtain ⟨X,U,W⟩ := obind W
 obtain ⟨i,B,W⟩ := obind W
 refine rd_ g_mixed 9 [Fct.at_ 1 k o #[sl g s s.length]] own [48,1] [0,0,2,6,14,31,63] [dv [7] [1] 3 (sl g s s.length),dv [] [0] 4 (Zi I),dv [1] [] 5 (.int .u64 (IntKind.u64.wrap I)),⟨[2],[],[],Fct.row 43 [] 6 26 R26 [IntKind.u64.wrap I]⟩,⟨[3],[],[],Fct.row 46 [] 7 5 R5 X⟩,⟨[0,4],[],[48],Fct.row 49 [] 8 5 R5 i⟩,⟨[5,7],[1],[1],Fct.by_ [51] [8] (fun l own w=>∀ (d : Option Addr) (c : Nat),l.getD 0 undef = sl d i c → BlkO own 51 w k o #[sl d i c]) (fun hk he h _ _ E=>BlkO.evo (not_hit hk (by decide)) he (h _ _ E))⟩] z0 d0 (fm1 S) ?_ ?_
 ·refine sc (fun own a wx H u Z=>?_) ?_
  ·obtain ⟨(j : BlkO own 1 wx k o #[sl g s s.length]),-⟩ := H
   obtain ⟨K,-⟩ := u
   exact px (ld1 to22 (K.trans G) j)
  refine sM al<|sF (fun f=>or_conv f.1 tn3 tn26 rfl)<|sF (fun f=>or_lit (lab := 43) (e := 26) (cs := #[.int .u64 (IntKind.u64.wrap I)]) (F := E26) (nw1 f.1) rfl rfl (show 1 ≤ maxLen by decide)) ?_
  refine sc (fun own a wx H u Z=>?_) ?_
  ·obtain ⟨⟨⟨ad,M⟩,ai,C⟩,-⟩ := H
   exact px (or_call cf25 (args1 ai) (varint_Bytes_w _ [IntKind.u64.wrap I] ad M (RdO.zero (RwO.rd C)) X U) (post_row (m' := (look0 [(1,46)])) (.inl (Rep.fl_flat _)) rfl rfl (fun _=>rfl)))
  refine sc (fun own a wx H u Z=>?_) ?_
  ·obtain ⟨ah,⟨⟨an,am⟩,aj,D⟩,-⟩ := H
   exact px (or_appendF (R := R5) (lab := 48) (lab2 := 49) tp22 ah (RdO.evo rfl Z z) aj (RwO.rd D) (apF_some B).1 (apF_some B).2 (by decide) (by decide) (Rep.fl_flat _) (mem_of rfl) (by decide))
  refine sc (fun own a wx H u Z=>?_) ?_
  ·obtain ⟨⟨⟨d,c⟩,(y : a.eval (.tmp 8) = sl d i c),ae⟩,j,-⟩ := H
   obtain ⟨K,-⟩ := u
   exact px (or_store1 (lab := 1) (lab2 := 51) ts22 (K.trans G) y j (by simp) rfl (mem_of rfl) (by decide) rfl (fun m a' w' ha hb=>fun _ _ E=>by cases (y.symm.trans ((ha 8).symm.trans E)); exact hb))
  exact steps_nil
 intro J L Y af av T P N
 have ag := kt T G
 obtain ⟨⟨⟨d,c⟩,(y : L.eval (.tmp 8) = sl d i c),(p : RwO J 49 [] Y 5 R5 d c i)⟩,(v : ∀ (d : Option Addr) (c : Nat),L.eval (.tmp 8) = sl d i c → BlkO J 51 Y k o #[sl d i c]),-⟩ := P [5,6] rfl
 have q := v _ _ y
 have O := Evo.step ak A N rfl
 obtain rfl := (osome W).symm
 exact V _ _ _ _ (.inr rfl) af (results0_ rfl ) ⟨(rl [(49,2),(51,1)] J),(d,c),rfl,(Evo.rl_ O A rfl),(RwO.rl_ p),(BlkO.rl_ q)⟩
theorem pack_Write_2_w (w : World) (own : Own) (M : List Int) (F : Option Addr) (H : Nat) (J : List Int) (d : Nat) (j : TypeId) (o : Option Addr) (X : Nat) (aJ : TypeId) (D : ∀ b,own b ≤ 2) (aI : RdO own [0] w R5 F H M) (ah : BlkO own 1 w d j #[sl o J J.length]) (I : RdO own [0] w R5 o J.length J) (ag : BlkO own 0 w X aJ #[.func (.func 24) #[] #[pt d 0]]) (r : List Int) (hs : pack_Write_2 M J = some r) :
  Calls Try.prog 26 #[sl F M H,pt X 0,pt d 0] w fun e w'=>∃ (q : Own) (x : Option Addr × Nat),e = .returned (.tuple #[]) ∧ Evo [1,2] own q w w' ∧ RwO q 2 [] w' 5 R5 x.1 x.2 r ∧ BlkO q 1 w' d j #[.slice x.1 r.length x.2] := by
 refine fl_enter (n := 11) rfl rfl rfl (Nat.le_of_ble_eq_true rfl) ?_
 intro a0 Q d0 z0 v al
 have ad := v 0 _ rfl
 have aG := v 1 _ rfl
 have aH := v 2 _ rfl
 clear v
 have aF : Evo [1,2] own own w w := Evo.refl _ _ _
 obtain ⟨p,ak,hs⟩ := obind hs
 refine rr_seq 11 [Fct.at_ 1 d j #[sl o J J.length]] own [1] [0,0,2,7] [dv [] [1] 4 (.func (.func 24) #[] #[pt d 0]),dv [] [0] 5 (sl F M H),dv [1] [] 6 (Zi (M.length : Int)),⟨[0,2,4],[],[1],Fct.mems [28,29] 7 (fun (x : Option Addr × Nat)=>.tuple #[]) (fun (x : Option Addr × Nat) own w=>RwO own 28 [] w 5 R5 x.1 x.2 p ∧ BlkO own 29 w d j #[.slice x.1 p.length x.2]) (fun hk he h=>⟨RwO.evo (hits_sub hk (by decide)) he h.1,BlkO.evo (not_hit hk (by decide)) he h.2⟩)⟩] z0 d0 (fm1 ah) ?_ ?_
 ·refine sL1 to59 aG ag<|sM ad<|sF (fun f=>or_len tu22 f.1 rfl) ?_
  refine sc (fun own a wx S E Y=>?_) ?_
  ·obtain ⟨aB,aC,i,-⟩ := S
   exact px (or_callf cf24 aB (args1 aC) rfl (pack_Write_1_v_w _ (forth own (look0 [(1,1)])) (M.length : Int) J d j o (look0_le rfl) (BlkO.forth_ (m := (look0 [(1,1)])) i) (RdO.forth_ (m := (look0 [(1,1)])) (RdO.evo rfl Y I)) p ak) (post_mems (m := (look0 [(1,1)])) (m' := (look0 [(1,29),(2,28)])) (hm_of rfl) (fun q w' a' x h1 h=>⟨x,h1,⟨RwO.back_ h.1 (by decide) (.inl (Rep.fl_flat _)),BlkO.back_ h.2 (by decide)⟩⟩)))
  exact steps_nil
 intro T aw ap ay aK ai ae Z
 obtain ⟨O,t⟩ := kt2 ai ad aH
 obtain ⟨⟨⟨y,k⟩,(aM : aw.eval (.tmp 7) = .tuple #[]),(z : RwO T 28 [] ap 5 R5 y k p),(A : BlkO T 29 ap d j #[sl y p k])⟩,-⟩ := ae [3] rfl
 have K := Evo.step aF D Z rfl
 obtain ⟨s,an,hs⟩ := obind hs
 refine rr 11 [Fct.rowAt 28 [] 5 R5 y k p,Fct.at_ 29 d j #[sl y p k]] T [28,29] [0,0,3,7] [dv [5] [2] 8 (sl y p k),dv [] [0] 9 (sl F M H),⟨[0,1,4],[],[28],Fct.row 35 [] 10 5 R5 s⟩,⟨[2,5],[2],[29],Fct.by_ [37] [10] (fun l own w=>∀ (g : Option Addr) (c : Nat),l.getD 0 undef = sl g s c → BlkO own 37 w d j #[sl g s c]) (fun hk he h _ _ P=>BlkO.evo (not_hit hk (by decide)) he (h _ _ P))⟩] aK ay (fm2 z A) ?_ ?_
 ·refine sc (fun own a wx S E Y=>?_) ?_
  ·obtain ⟨(i : BlkO own 29 wx d j #[sl y p k]),-⟩ := S
   obtain ⟨V,-⟩ := E
   exact px (ld1 to22 (V.trans t) i)
  refine sM O ?_
  refine sc (fun own a wx S E Y=>?_) ?_
  ·obtain ⟨aD,aE,N,-⟩ := S
   exact px (or_append (R := R5) (lab := 28) (lab2 := 35) (L := []) (L3 := []) tp22 aD N (by decide) aE (RdO.evo rfl Y (RdO.evo rfl K aI)) an (by decide) (by decide) (mem_of rfl) (.inl (Rep.fl_flat _)))
  refine sc (fun own a wx S E Y=>?_) ?_
  ·obtain ⟨⟨⟨g,c⟩,(u : a.eval (.tmp 10) = sl g s c),ax⟩,i,-⟩ := S
   obtain ⟨V,-⟩ := E
   exact px (or_store1 (lab := 29) (lab2 := 37) ts22 (V.trans t) u i (by simp) rfl (mem_of rfl) (by decide) rfl (fun q a' w' ha hb=>fun _ _ P=>by cases (u.symm.trans ((ha 10).symm.trans P)); exact hb))
  exact steps_nil
 intro U W aq az aR aj af aa
 have aA := kt aj t
 obtain ⟨⟨⟨g,c⟩,(u : W.eval (.tmp 10) = sl g s c),(B : RwO U 35 [] aq 5 R5 g c s)⟩,(G : ∀ (g : Option Addr) (c : Nat),W.eval (.tmp 10) = sl g s c → BlkO U 37 aq d j #[sl g s c]),-⟩ := af [2,3] rfl
 have C := G _ _ u
 have ab := Evo.step K D aa rfl
 obtain rfl := (osome hs).symm
 exact al _ _ _ _ (.inr rfl) az (results0_ rfl ) ⟨(rl [(35,2),(37,1)] U),(g,c),rfl,(Evo.rl_ ab D rfl),(RwO.rl_ B),(BlkO.rl_ C)⟩
theorem pack_Write_2_v_w (w : World) (own : Own) (N : List Int) (H : Option Addr) (J : Nat) (X : List Int) (d : Nat) (o : TypeId) (i : Option Addr) (k : Nat) (Z : Nat) (aL : TypeId) (F : ∀ b,own b ≤ 2) (aK : RdO own [0] w R5 H J N) (ai : BlkO own 1 w d o #[sl i X k]) (K : RwO own 2 [] w 5 R5 i k X) (ah : BlkO own 0 w Z aL #[.func (.func 24) #[] #[pt d 0]]) (r : List Int) (hs : pack_Write_2_v N X = some r) :
  Calls Try.prog 26 #[sl H N J,pt Z 0,pt d 0] w fun e w'=>∃ (s : Own) (x : Option Addr × Nat),e = .returned (.tuple #[]) ∧ Evo [1,2] own s w w' ∧ RwO s 2 [] w' 5 R5 x.1 x.2 r ∧ BlkO s 1 w' d o #[.slice x.1 r.length x.2] := by
 refine fl_enter (n := 11) rfl rfl rfl (Nat.le_of_ble_eq_true rfl) ?_
 intro a0 Q d0 z0 y am
 have ae := y 0 _ rfl
 have aI := y 1 _ rfl
 have aJ := y 2 _ rfl
 clear y
 have aH : Evo [1,2] own own w w := Evo.refl _ _ _
 obtain ⟨q,al,hs⟩ := obind hs
 refine rr_seq 11 [Fct.at_ 1 d o #[sl i X k],Fct.rowAt 2 [] 5 R5 i k X] own [1,2] [0,0,2,7] [dv [] [1] 4 (.func (.func 24) #[] #[pt d 0]),dv [] [0] 5 (sl H N J),dv [1] [] 6 (Zi (N.length : Int)),⟨[0,2,4,5],[],[1,2],Fct.mems [28,29] 7 (fun (x : Option Addr × Nat)=>.tuple #[]) (fun (x : Option Addr × Nat) own w=>RwO own 28 [] w 5 R5 x.1 x.2 q ∧ BlkO own 29 w d o #[.slice x.1 q.length x.2]) (fun hk he h=>⟨RwO.evo (hits_sub hk (by decide)) he h.1,BlkO.evo (not_hit hk (by decide)) he h.2⟩)⟩] z0 d0 (fm2 ai K) ?_ ?_
 ·refine sL1 to59 aI ah<|sM ae<|sF (fun f=>or_len tu22 f.1 rfl) ?_
  refine sc (fun own a wx T G hE=>?_) ?_
  ·obtain ⟨aD,aE,j,E,-⟩ := T
   exact px (or_callf cf24 aD (args1 aE) rfl (pack_Write_1_w _ (forth own (look0 [(1,1),(2,2)])) (N.length : Int) X d o i k (look0_le rfl) (BlkO.forth_ (m := (look0 [(1,1),(2,2)])) j) (RwO.forth_ (m := (look0 [(1,1),(2,2)])) E) q al) (post_mems (m := (look0 [(1,1),(2,2)])) (m' := (look0 [(1,29),(2,28)])) (hm_of rfl) (fun s w' a' x h1 h=>⟨x,h1,⟨RwO.back_ h.1 (by decide) (.inl (Rep.fl_flat _)),BlkO.back_ h.2 (by decide)⟩⟩)))
  exact steps_nil
 intro U ay aq aA aM aj af aa
 obtain ⟨P,u⟩ := kt2 aj ae aJ
 obtain ⟨⟨⟨z,p⟩,(aO : ay.eval (.tmp 7) = .tuple #[]),(A : RwO U 28 [] aq 5 R5 z p q),(B : BlkO U 29 aq d o #[sl z q p])⟩,-⟩ := af [3] rfl
 have M := Evo.step aH F aa rfl
 obtain ⟨t,ao,hs⟩ := obind hs
 refine rr 11 [Fct.rowAt 28 [] 5 R5 z p q,Fct.at_ 29 d o #[sl z q p]] U [28,29] [0,0,3,7] [dv [5] [2] 8 (sl z q p),dv [] [0] 9 (sl H N J),⟨[0,1,4],[],[28],Fct.row 35 [] 10 5 R5 t⟩,⟨[2,5],[2],[29],Fct.by_ [37] [10] (fun l own w=>∀ (g : Option Addr) (c : Nat),l.getD 0 undef = sl g t c → BlkO own 37 w d o #[sl g t c]) (fun hk he h _ _ S=>BlkO.evo (not_hit hk (by decide)) he (h _ _ S))⟩] aM aA (fm2 A B) ?_ ?_
 ·refine sc (fun own a wx T G hE=>?_) ?_
  ·obtain ⟨(j : BlkO own 29 wx d o #[sl z q p]),-⟩ := T
   obtain ⟨W,-⟩ := G
   exact px (ld1 to22 (W.trans u) j)
  refine sM P ?_
  refine sc (fun own a wx T G hE=>?_) ?_
  ·obtain ⟨aF,aG,O,-⟩ := T
   exact px (or_append (R := R5) (lab := 28) (lab2 := 35) (L := []) (L3 := []) tp22 aF O (by decide) aG (RdO.evo rfl hE (RdO.evo rfl M aK)) ao (by decide) (by decide) (mem_of rfl) (.inl (Rep.fl_flat _)))
  refine sc (fun own a wx T G hE=>?_) ?_
  ·obtain ⟨⟨⟨g,c⟩,(v : a.eval (.tmp 10) = sl g t c),az⟩,j,-⟩ := T
   obtain ⟨W,-⟩ := G
   exact px (or_store1 (lab := 29) (lab2 := 37) ts22 (W.trans u) v j (by simp) rfl (mem_of rfl) (by decide) rfl (fun s a' w' ha hb=>fun _ _ S=>by cases (v.symm.trans ((ha 10).symm.trans S)); exact hb))
  exact steps_nil
 intro V Y ar aB aT ak ag ab
 have aC := kt ak u
 obtain ⟨⟨⟨g,c⟩,(v : Y.eval (.tmp 10) = sl g t c),(C : RwO V 35 [] ar 5 R5 g c t)⟩,(I : ∀ (g : Option Addr) (c : Nat),Y.eval (.tmp 10) = sl g t c → BlkO V 37 ar d o #[sl g t c]),-⟩ := ag [2,3] rfl
 have D := I _ _ v
 have ad := Evo.step M F ab rfl
 obtain rfl := (osome hs).symm
 exact am _ _ _ _ (.inr rfl) aB (results0_ rfl ) ⟨(rl [(35,2),(37,1)] V),(g,c),rfl,(Evo.rl_ ad F rfl),(RwO.rl_ C),(BlkO.rl_ D)⟩
set_option maxHeartbeats 2000000 in
theorem pack_Write_w (w : World) (ae : List Int) (O : Option Addr) (P : Nat) (l2 : List ((Int × Int × Int) × (List Int))) (ec : Option Addr) (ed : Nat) (ea : RdO (fun _=>0) [0] w R5 O P ae) (ki : RdO (fun _=>0) [0] w R30 ec ed l2) (r : (List Int) × Int) (q : pack_Write ae l2 = some r) :
  Calls Try.prog 10 #[sl O ae P,sl ec l2 ed] w fun e w'=>∃ (k : Own) (x : Option Addr × Nat),e = .returned (.tuple #[.slice x.1 r.1.length x.2,Zi r.2]) ∧ Evo [] (fun _=>0) k w w' ∧ RwO k 1 [] w' 5 R5 x.1 x.2 r.1 := by
 refine fl_enter (n := 91) rfl rfl rfl (Nat.le_of_ble_eq_true rfl) ?_
 intro a0 Q d0 z0 fn ft
 have k9 := fn 0 _ rfl
 have la := fn 1 _ rfl
 clear fn
 have k7 : Evo [] (fun _=>0) (fun _=>0) w w := Evo.refl _ _ _
 refine rq_seq 91 (fun _=>0) (bz 2) [dv [] [] 4 (.slice none 0 0),dv [] [] 5 (Zi 0)] z0 d0 ?_ ?_
 ·exact sO (or_assign rfl)<|sO (or_assign rfl)<|steps_nil
 intro gO lM me gI g7 il lb hm
 obtain ⟨dO,dP⟩ := kt2 il k9 la
 have ar := es_ k7 hm
 refine rngO_cases q (fun ak iM q=>?_) (fun c i6 q=>?_)
 ·refine rq_seq 91 gO [0,0,3,7,15,15,31,127] [dv [] [0] 16 (sl O ae P),dv [] [1] 17 (sl ec l2 ed),dv [0,1] [] 18 (.tuple #[.pointer none,Zi ak.2]),dv [2] [] 15 (.tuple #[.pointer none,Zi ak.2]),dv [3] [] 19 (.pointer none),dv [3] [] 20 (Zi ak.2),dv [4] [] 6 (.pointer none),dv [5] [] 7 (Zi ak.2)] g7 gI ?_ ?_
  ·refine sM dO<|sM dP ?_
   refine sc (fun own _ _ f _ S=>px (or_call cf23 (args2 f.1 f.2.1) (pack_packed_n _ (forth own (inL [0])) ae O P l2 ec ed inL_le (RdO.alias_ (La := [0]) (RdO.evo rfl S (RdO.evo rfl ar ea)) (by decide)) (RdO.alias_ (La := [0]) (RdO.evo rfl S (RdO.evo rfl ar ki)) (by decide)) ak iM) post_valA)) ?_
   exact sV<|sF (fun f=>ok1 f.1)<|sF (fun f=>ok1 f.1)<|sA<|sA<|steps_nil
  intro kj lN mf jz kB lc fo hn
  have fQ := gv (fo [6] rfl) rfl
  have dQ := gv (fo [7] rfl) rfl
  have hy := es_ ar hn
  refine fl_seq (fun ly iN i0=>?_)
  refine rq_seq 91 kj (bz 2) [dv [] [7] 21 (Zi ak.2),dv [0] [] 22 (.bool (!decide (ak.2 = 0)))] kB jz ?_ ?_
  ·exact sM dQ<|sF (fun f=>or_neq f.1 rfl rfl)<|steps_nil
  intro gP lO mg gJ g8 im hX hq
  obtain ⟨fR,fS⟩ := kt2 im fQ dQ
  have eo := gv (hX [1] rfl) rfl
  have fi := es_ hy hq
  refine fl_cond eo q (fun jv q=>?_) (fun jv q=>?_)
  ·refine rq_seq 91 gP [0,0,3] [dv [] [7] 23 (Zi ak.2),dv [] [] 4 (.slice none 0 0),dv [0] [] 5 (Zi ak.2)] g8 gJ ?_ ?_
   ·exact sM fS<|sO (or_assign rfl)<|sA<|steps_nil
   intro kk lP mh jA mv ld fp hr
   have fT := gv (fp [1] rfl) rfl
   have fU := gv (fp [2] rfl) rfl
   have hz := es_ fi hr
   refine fl_ret ?_
   refine i0 _ _ _ rfl ?_
   obtain rfl := osome q
   exact ft _ _ _ _ (.inl rfl) jA (results2_ rfl (RVal.tmp_ fT) (RVal.tmp_ fU)) ⟨kk,(none,0),rfl,hz,RwO.nil_⟩
  refine fl_skip ?_
  refine iN _ _ ?_
  refine rp_seq 91 gP [259,263] [0,1,0,7] [⟨[],[],[],Fct.rowF 259 24 5 R5 [71,82,84,49]⟩,⟨[0],[],[259],Fct.viewF [260] 25 R5 [71,82,84,49]⟩,⟨[],[],[],Fct.blk 263 8 (fun g=>pt g 0) 22 #[.slice none 0 0]⟩,⟨[2,1],[],[263],Fct.by_ [264] [8,25] (fun l own w=>∃ N : Nat,l.getD 0 undef = pt N 0 ∧ (∀ (V : Option Addr),l.getD 1 undef = .slice V [71,82,84,49].length ([71,82,84,49].length) → BlkO own 264 w N 22 #[.slice V [71,82,84,49].length ([71,82,84,49].length)])) (fun Y X h=>by obtain ⟨g,e,h⟩ := h; exact ⟨g,e,fun _ ab=>BlkO.evo (not_hit Y (by decide)) X (h _ ab)⟩)⟩] g8 gJ ?_ ?_
  ·refine sO (or_litF (lab := 259) (e := 5) (cs := #[.int .u8 71,.int .u8 82,.int .u8 84,.int .u8 49]) (F := E5) (nw0) rfl rfl (show 4 ≤ maxLen by decide)) ?_
   refine sc (fun own a T G H S=>?_) ?_
   ·obtain ⟨⟨lw,fd,fF⟩,-⟩ := G
    exact px (or_convM (lab := 259) (lab2 := 260) tu22 tn5 fd fF (mem_of rfl) (by decide) (by simp))
   refine sO (nw0) ?_
   refine sc (fun own a T G H S=>?_) ?_
   ·obtain ⟨⟨N,ff,fM⟩,⟨V,(aj : a.eval (.tmp 25) = .slice V [71,82,84,49].length ([71,82,84,49].length)),k0⟩,-⟩ := G
    exact px (or_store1 (lab := 263) (lab2 := 264) ts22 ff aj fM (by simp) rfl (mem_of rfl) (by decide) rfl (fun k a' w' ha hb=>⟨_,(ha 8).trans ff,fun _ ab=>by cases (aj.symm.trans ((ha 25).symm.trans ab)); exact hb⟩))
   exact steps_nil
  intro fu ei gX jB kC io hY ht
  have fV := kt io fR
  obtain ⟨⟨V,(aj : ei.eval (.tmp 25) = .slice V [71,82,84,49].length ([71,82,84,49].length)),(bS : RdO fu [260] gX R5 V ([71,82,84,49].length) [71,82,84,49])⟩,⟨N,(dR : ei.eval (.tmp 8) = pt N 0),(em : ∀ (V : Option Addr),ei.eval (.tmp 25) = .slice V [71,82,84,49].length ([71,82,84,49].length) → BlkO fu 264 gX N 22 #[.slice V [71,82,84,49].length ([71,82,84,49].length)])⟩,-⟩ := hY [1,3] rfl
  have bT := em _ aj
  have hA := es_ fi ht
  refine rp_seq 91 fu [267] [0,0,3] [dv [] [8] 26 (.func (.func 24) #[] #[pt N 0]),⟨[],[],[],Fct.blk 267 9 (fun g=>pt g 0) 59 #[.nilFunc]⟩,⟨[1,0],[],[267],Fct.blk 268 9 (fun g=>pt g 0) 59 #[.func (.func 24) #[] #[pt N 0]]⟩] kC jB ?_ ?_
  ·refine sS (fun s=>ok1 (s.1.trans dR))<|sO (nw0) ?_
   refine sc (fun own a T G H S=>?_) ?_
   ·obtain ⟨⟨bL,fg,fN⟩,fe,-⟩ := G
    exact px (or_store1 (lab := 267) (lab2 := 268) ts59 fg fe fN (by simp) rfl (mem_of rfl) (by decide) rfl (fun k a' w' ha hb=>⟨_,(ha 9).trans fg,hb⟩))
   exact steps_nil
  intro gQ jk kx jC kD ip hZ dD
  obtain ⟨fW,dS⟩ := kt2 ip fV dR
  obtain ⟨⟨bL,(dT : jk.eval (.tmp 9) = pt bL 0),(bW : BlkO gQ 268 kx bL 59 #[.func (.func 24) #[] #[pt N 0]])⟩,-⟩ := hZ [2] rfl
  have hB := es_ hA dD
  have bV := be_ dD bT
  have bU := RdO.evo rfl dD bS
  refine rq_seq 91 gQ (bz 2) [dv [] [9,8] 27 (.func (.func 26) #[] #[pt bL 0,pt N 0]),dv [0] [] 10 (.func (.func 26) #[] #[pt bL 0,pt N 0])] kD jC ?_ ?_
  ·exact sS (fun s=>ok2 (s.1.trans dT) (s.2.1.trans dS))<|sA<|steps_nil
  intro md lQ mi l4 mw iq h0 dE
  obtain ⟨k3,k4,k5⟩ := kt3 iq fW dS dT
  have jZ := gv (h0 [1] rfl) rfl
  have k8 := es_ hB dE
  obtain ⟨hh,hi⟩ := be2 dE bV bW
  have hg := RdO.evo rfl dE bU
  exact nomatch q
 refine rq_seq 91 gO [0,0,3,7,15,15,31,127] [dv [] [0] 16 (sl O ae P),dv [] [1] 17 (sl ec l2 ed),⟨[0,1],[],[],Fct.mems [246,247,0,248,249,250,251] 18 (fun (x : (Option Addr × Nat) × (Option Addr × Nat) × (Option Addr × Nat) × (Option Addr × Nat))=>.tuple #[.pointer (some ⟨x.1.2,0,none⟩),Zi c.2]) (fun (x : (Option Addr × Nat) × (Option Addr × Nat) × (Option Addr × Nat) × (Option Addr × Nat)) own w=>RdO own [246,247,0] w R5 x.2.1.1 x.2.1.2 c.1.1 ∧ RwO own 248 [246,249,0] w 22 R22 x.2.2.1.1 x.2.2.1.2 c.1.2.1 ∧ RwO own 250 [] w 66 R66 x.2.2.2.1 x.2.2.2.2 c.1.2.2 ∧ BlkO own 251 w x.1.2 64 #[.slice x.2.1.1 c.1.1.length x.2.1.2,.slice x.2.2.1.1 c.1.2.1.length x.2.2.1.2,.slice x.2.2.2.1 c.1.2.2.length x.2.2.2.2]) (fun Y X h=>⟨RdO.evo (hits_sub Y (by decide)) X h.1,RwO.evo (hits_sub Y (by decide)) X h.2.1,RwO.evo (hits_sub Y (by decide)) X h.2.2.1,BlkO.evo (not_hit Y (by decide)) X h.2.2.2⟩)⟩,⟨[2],[],[],Fct.rel [15,18] (fun l=>∀ (b : Nat),l.getD 1 undef = .tuple #[pt b 0,Zi c.2] → l.getD 0 undef = .tuple #[pt b 0,Zi c.2])⟩,⟨[3,2],[],[],Fct.rel [19,18] (fun l=>∀ (b : Nat),l.getD 1 undef = .tuple #[pt b 0,Zi c.2] → l.getD 0 undef = pt b 0)⟩,dv [3,2] [] 20 (Zi c.2),⟨[4,2],[],[],Fct.rel [6,18] (fun l=>∀ (b : Nat),l.getD 1 undef = .tuple #[pt b 0,Zi c.2] → l.getD 0 undef = pt b 0)⟩,dv [5] [] 7 (Zi c.2)] g7 gI ?_ ?_
 ·refine sM dO<|sM dP ?_
  refine sc (fun own _ _ f _ S=>px (or_call cf23 (args2 f.1 f.2.1) (pack_packed_w _ (forth own (inL [0])) ae O P l2 ec ed inL_le (RdO.alias_ (La := [0]) (RdO.evo rfl S (RdO.evo rfl ar ea)) (by decide)) (RdO.alias_ (La := [0]) (RdO.evo rfl S (RdO.evo rfl ar ki)) (by decide)) c i6) (post_alias (La := [0]) (m' := (look0 [(1,246),(2,251),(3,247),(4,248),(5,249),(6,250)])) (fun k w' a' x ho lr h1 h=>⟨x,h1,⟨RdO.backN_ ho lr h.1 (by decide) (by decide) (by decide),RwO.backM_ ho h.2.1 (by decide) (by decide) (by decide) (by decide),RwO.backN_ ho h.2.2.1 (by decide) (Rep.fl_flat _),BlkO.backN_ ho h.2.2.2 (by decide)⟩⟩)))) ?_
  refine sc (fun own a T G H S=>?_) ?_
  ·obtain ⟨⟨⟨⟨dN,b⟩,⟨U,B⟩,⟨I,v⟩,⟨C,t⟩⟩,(K : a.eval (.tmp 18) = .tuple #[pt b 0,Zi c.2]),a7,a8,a9,aS⟩,-⟩ := G
   exact px (or_mono (f := Fct.val 15 (.tuple #[pt b 0,Zi c.2])) (or_move K) (fun k a' w' v' hp h=>fun _ ab=>by cases (K.symm.trans ((hp.2 18 (by decide)).symm.trans ab)); exact h))
  refine sc (fun own a T G H S=>?_) ?_
  ·obtain ⟨(fE : ∀ (b : Nat),a.eval (.tmp 18) = .tuple #[pt b 0,Zi c.2] → a.eval (.tmp 15) = .tuple #[pt b 0,Zi c.2]),⟨⟨⟨dN,b⟩,⟨U,B⟩,⟨I,v⟩,⟨C,t⟩⟩,(K : a.eval (.tmp 18) = .tuple #[pt b 0,Zi c.2]),a7,a8,a9,aS⟩,-⟩ := G
   have fc := fE _ K
   exact px (or_mono (f := Fct.val 19 (pt b 0)) (ok1 fc) (fun k a' w' v' hp h=>fun _ ab=>by cases (K.symm.trans ((hp.2 18 (by decide)).symm.trans ab)); exact h))
  refine sc (fun own a T G H S=>?_) ?_
  ·obtain ⟨(fE : ∀ (b : Nat),a.eval (.tmp 18) = .tuple #[pt b 0,Zi c.2] → a.eval (.tmp 15) = .tuple #[pt b 0,Zi c.2]),⟨⟨⟨dN,b⟩,⟨U,B⟩,⟨I,v⟩,⟨C,t⟩⟩,K,a7,a8,a9,aS⟩,-⟩ := G
   have fc := fE _ K
   exact px (ok1 fc)
  refine sc (fun own a T G H S=>?_) ?_
  ·obtain ⟨(kw : ∀ (b : Nat),a.eval (.tmp 18) = .tuple #[pt b 0,Zi c.2] → a.eval (.tmp 19) = pt b 0),⟨⟨⟨dN,b⟩,⟨U,B⟩,⟨I,v⟩,⟨C,t⟩⟩,(K : a.eval (.tmp 18) = .tuple #[pt b 0,Zi c.2]),a7,a8,a9,aS⟩,-⟩ := G
   have j0 := kw _ K
   exact px (or_mono (f := Fct.val 6 (pt b 0)) (or_assign j0) (fun k a' w' v' hp h=>fun _ ab=>by cases (K.symm.trans ((hp.2 18 (by decide)).symm.trans ab)); exact h))
  exact sA<|steps_nil
 intro bN ej eb jD kE le fq hu
 have dU := gv (fq [7] rfl) rfl
 obtain ⟨⟨⟨⟨dN,b⟩,⟨U,B⟩,⟨I,v⟩,⟨C,t⟩⟩,(K : ej.eval (.tmp 18) = .tuple #[pt b 0,Zi c.2]),(bX : RdO bN [246,247,0] eb R5 U B c.1.1),(bY : RwO bN 248 [246,249,0] eb 22 R22 I v c.1.2.1),(bZ : RwO bN 250 [] eb 66 R66 C t c.1.2.2),(bm : BlkO bN 251 eb b 64 #[sl U c.1.1 B,sl I c.1.2.1 v,sl C c.1.2.2 t])⟩,(lu : ∀ (b : Nat),ej.eval (.tmp 18) = .tuple #[pt b 0,Zi c.2] → ej.eval (.tmp 6) = pt b 0),-⟩ := fq [2,6] rfl
 have fX := lu _ K
 have hC := es_ ar hu
 refine fl_seq (fun lz iO i1=>?_)
 refine rq_seq 91 bN (bz 2) [dv [] [7] 21 (Zi c.2),dv [0] [] 22 (.bool (!decide (c.2 = 0)))] kE jD ?_ ?_
 ·exact sM dU<|sF (fun f=>or_neq f.1 rfl rfl)<|steps_nil
 intro gR lR mj gK g9 ir h2 aX
 obtain ⟨fY,fZ⟩ := kt2 ir fX dU
 have ep := gv (h2 [1] rfl) rfl
 have fj := es_ hC aX
 have bn := be_ aX bm
 have b0 := RdO.evo rfl aX bX
 have b1 := re_ aX bY
 have b2 := re_ aX bZ
 refine fl_cond ep q (fun jw q=>?_) (fun jw q=>?_)
 ·refine rq_seq 91 gR [0,0,3] [dv [] [7] 23 (Zi c.2),dv [] [] 4 (.slice none 0 0),dv [0] [] 5 (Zi c.2)] g9 gK ?_ ?_
  ·exact sM fZ<|sO (or_assign rfl)<|sA<|steps_nil
  intro kl lS mk jE mx lf fr hv
  have f0 := gv (fr [1] rfl) rfl
  have f1 := gv (fr [2] rfl) rfl
  have hD := es_ fj hv
  refine fl_ret ?_
  refine i1 _ _ _ rfl ?_
  obtain rfl := osome q
  exact ft _ _ _ _ (.inl rfl) jE (results2_ rfl (RVal.tmp_ f0) (RVal.tmp_ f1)) ⟨kl,(none,0),rfl,hD,RwO.nil_⟩
 refine fl_skip ?_
 refine iO _ _ ?_
 refine rp_seq 91 gR [277,281] [0,1,0,7] [⟨[],[],[],Fct.rowF 277 24 5 R5 [71,82,84,49]⟩,⟨[0],[],[277],Fct.viewF [278] 25 R5 [71,82,84,49]⟩,⟨[],[],[],Fct.blk 281 8 (fun g=>pt g 0) 22 #[.slice none 0 0]⟩,⟨[2,1],[],[281],Fct.by_ [282] [8,25] (fun l own w=>∃ d : Nat,l.getD 0 undef = pt d 0 ∧ (∀ (J : Option Addr),l.getD 1 undef = .slice J [71,82,84,49].length ([71,82,84,49].length) → BlkO own 282 w d 22 #[.slice J [71,82,84,49].length ([71,82,84,49].length)])) (fun Y X h=>by obtain ⟨g,e,h⟩ := h; exact ⟨g,e,fun _ ab=>BlkO.evo (not_hit Y (by decide)) X (h _ ab)⟩)⟩] g9 gK ?_ ?_
 ·refine sO (or_litF (lab := 277) (e := 5) (cs := #[.int .u8 71,.int .u8 82,.int .u8 84,.int .u8 49]) (F := E5) (nw0) rfl rfl (show 4 ≤ maxLen by decide)) ?_
  refine sc (fun own a T G H S=>?_) ?_
  ·obtain ⟨⟨lx,fd,fG⟩,-⟩ := G
   exact px (or_convM (lab := 277) (lab2 := 278) tu22 tn5 fd fG (mem_of rfl) (by decide) (by simp))
  refine sO (nw0) ?_
  refine sc (fun own a T G H S=>?_) ?_
  ·obtain ⟨⟨d,ff,i⟩,⟨J,(aj : a.eval (.tmp 25) = .slice J [71,82,84,49].length ([71,82,84,49].length)),k1⟩,-⟩ := G
   exact px (or_store1 (lab := 281) (lab2 := 282) ts22 ff aj i (by simp) rfl (mem_of rfl) (by decide) rfl (fun k a' w' ha hb=>⟨_,(ha 8).trans ff,fun _ ab=>by cases (aj.symm.trans ((ha 25).symm.trans ab)); exact hb⟩))
  exact steps_nil
 intro fv ek gY jF kF it h3 aY
 have f2 := kt it fY
 obtain ⟨⟨J,(aj : ek.eval (.tmp 25) = .slice J [71,82,84,49].length ([71,82,84,49].length)),(b6 : RdO fv [278] gY R5 J ([71,82,84,49].length) [71,82,84,49])⟩,⟨d,(dV : ek.eval (.tmp 8) = pt d 0),(en : ∀ (J : Option Addr),ek.eval (.tmp 25) = .slice J [71,82,84,49].length ([71,82,84,49].length) → BlkO fv 282 gY d 22 #[.slice J [71,82,84,49].length ([71,82,84,49].length)])⟩,-⟩ := h3 [1,3] rfl
 have b7 := en _ aj
 have hF := es_ fj aY
 have bo := be_ aY bn
 have b3 := RdO.evo rfl aY b0
 have b4 := re_ aY b1
 have b5 := re_ aY b2
 refine rp_seq 91 fv [285] [0,0,3] [dv [] [8] 26 (.func (.func 24) #[] #[pt d 0]),⟨[],[],[],Fct.blk 285 9 (fun g=>pt g 0) 59 #[.nilFunc]⟩,⟨[1,0],[],[285],Fct.blk 286 9 (fun g=>pt g 0) 59 #[.func (.func 24) #[] #[pt d 0]]⟩] kF jF ?_ ?_
 ·refine sS (fun s=>ok1 (s.1.trans dV))<|sO (nw0) ?_
  refine sc (fun own a T G H S=>?_) ?_
  ·obtain ⟨⟨A,fg,fO⟩,fe,-⟩ := G
   exact px (or_store1 (lab := 285) (lab2 := 286) ts59 fg fe fO (by simp) rfl (mem_of rfl) (by decide) rfl (fun k a' w' ha hb=>⟨_,(ha 9).trans fg,hb⟩))
  exact steps_nil
 intro gS jl ky jG kG iu h4 al
 obtain ⟨f3,dW⟩ := kt2 iu f2 dV
 obtain ⟨⟨A,(dX : jl.eval (.tmp 9) = pt A 0),(cd : BlkO gS 286 ky A 59 #[.func (.func 24) #[] #[pt d 0]])⟩,-⟩ := h4 [2] rfl
 have hG := es_ hF al
 obtain ⟨bp,cc⟩ := be2 al bo b7
 have b8 := RdO.evo rfl al b3
 have b9 := re_ al b4
 have ca := re_ al b5
 have cb := RdO.evo rfl al b6
 refine rq_seq 91 gS (bz 2) [dv [] [9,8] 27 (.func (.func 26) #[] #[pt A 0,pt d 0]),dv [0] [] 10 (.func (.func 26) #[] #[pt A 0,pt d 0])] kG jG ?_ ?_
 ·exact sS (fun s=>ok2 (s.1.trans dX) (s.2.1.trans dW))<|sA<|steps_nil
 intro km lT ml jH kH iv h5 am
 obtain ⟨dY,f4,f5⟩ := kt3 iv f3 dW dX
 have bw := gv (h5 [1] rfl) rfl
 have hH := es_ hG am
 obtain ⟨au,ch,aC⟩ := be3 am bp cc cd
 have aB := RdO.evo rfl am b8
 have ce := re_ am b9
 have cf := re_ am ca
 have cg := RdO.evo rfl am cb
 obtain ⟨ax,i7,q⟩ := obind q
 refine rr_seq 91 [Fct.at_ 282 d 22 #[.slice J [71,82,84,49].length ([71,82,84,49].length)]] km [282] [0,0,2,6,14,31] [dv [] [10] 28 (.func (.func 26) #[] #[pt A 0,pt d 0]),dv [] [6] 29 (pt b 0),dv [1] [] 30 (pt b 0),dv [2] [] 31 (pt b 0),dv [3] [] 32 (sl U c.1.1 B),⟨[0,4,6],[],[282],Fct.mems [291,292] 33 (fun (x : Option Addr × Nat)=>.tuple #[]) (fun (x : Option Addr × Nat) own w=>RwO own 291 [] w 5 R5 x.1 x.2 ax ∧ BlkO own 292 w d 22 #[.slice x.1 ax.length x.2]) (fun Y X h=>⟨RwO.evo (hits_sub Y (by decide)) X h.1,BlkO.evo (not_hit Y (by decide)) X h.2⟩)⟩] kH jH (fm1 ch) ?_ ?_
 ·refine sM bw<|sM dY<|sF (fun f=>ok1 f.1)<|sF (fun f=>or_field fo64_0 f.1 (by rfl))<|sG to22 au ?_
  refine sc (fun own a T G H S=>?_) ?_
  ·obtain ⟨j1,j2,i,-⟩ := G
   exact px (or_callf cf26 j1 (args1 j2) rfl (pack_Write_2_w _ (forth own (look0 [(282,1)])) c.1.1 U B [71,82,84,49] d 22 J A 59 (look0_le rfl) (RdO.more (RdO.forth_ (m := (look0 [(282,1)])) (RdO.evo rfl S aB)) (by decide)) (BlkO.forth_ (m := (look0 [(282,1)])) i) (RdO.forth_ (m := (look0 [(282,1)])) (RdO.evo rfl S cg)) (BlkO.forth_ (m := (look0 [(282,1)])) (be_ S aC)) ax i7) (post_mems (m := (look0 [(282,1)])) (m' := (look0 [(1,292),(2,291)])) (hm_of rfl) (fun k w' a' x h1 h=>⟨x,h1,⟨RwO.back_ h.1 (by decide) (.inl (Rep.fl_flat _)),BlkO.back_ h.2 (by decide)⟩⟩)))
  exact steps_nil
 intro fw jm gZ jI kI iw h6 aZ
 obtain ⟨dZ,f6,d1,eq⟩ := kt4 iw dY f4 f5 bw
 obtain ⟨⟨⟨bh,aT⟩,(l5 : jm.eval (.tmp 33) = .tuple #[]),(cl : RwO fw 291 [] gZ 5 R5 bh aT ax),(cm : BlkO fw 292 gZ d 22 #[sl bh ax aT])⟩,-⟩ := h6 [5] rfl
 have hI := es_ hH aZ
 obtain ⟨av,aD⟩ := be2 aZ au aC
 have ci := RdO.evo rfl aZ aB
 have cj := re_ aZ ce
 have ck := re_ aZ cf
 obtain ⟨bO,i8,q⟩ := obind q
 refine rd_seq g_mixed 91 [Fct.at_ 292 d 22 #[sl bh ax aT],Fct.rowAt 291 [] 5 R5 bh aT ax] fw [292,291] [0,0,2,6,14,30,63] [dv [] [9] 34 (.func (.func 24) #[] #[pt d 0]),dv [] [6] 35 (pt b 0),dv [1] [] 36 (pt b 0),dv [2] [] 37 (pt b 1),dv [3] [] 38 (sl I c.1.2.1 v),dv [4] [] 39 (Zi (c.1.2.1.length : Int)),⟨[0,5,7,8],[],[292,291],Fct.mems [296,297] 40 (fun (x : Option Addr × Nat)=>.tuple #[]) (fun (x : Option Addr × Nat) own w=>RwO own 296 [] w 5 R5 x.1 x.2 bO ∧ BlkO own 297 w d 22 #[.slice x.1 bO.length x.2]) (fun Y X h=>⟨RwO.evo (hits_sub Y (by decide)) X h.1,BlkO.evo (not_hit Y (by decide)) X h.2⟩)⟩] kI jI (fm2 cm cl) ?_ ?_
 ·refine sL1 to59 d1 aD<|sM dZ<|sF (fun f=>ok1 f.1)<|sF (fun f=>or_field fo64_1 f.1 (by rfl))<|sG to61 av<|sF (fun f=>or_len tu61 f.1 rfl) ?_
  refine sc (fun own a T G H S=>?_) ?_
  ·obtain ⟨j3,j4,i,fH,-⟩ := G
   exact px (or_callf cf24 j3 (args1 j4) rfl (pack_Write_1_w _ (forth own (look0 [(291,2),(292,1)])) (c.1.2.1.length : Int) ax d 22 bh aT (look0_le rfl) (BlkO.forth_ (m := (look0 [(291,2),(292,1)])) i) (RwO.forth_ (m := (look0 [(291,2),(292,1)])) fH) bO i8) (post_mems (m := (look0 [(291,2),(292,1)])) (m' := (look0 [(1,297),(2,296)])) (hm_of rfl) (fun k w' a' x h1 h=>⟨x,h1,⟨RwO.back_ h.1 (by decide) (.inl (Rep.fl_flat _)),BlkO.back_ h.2 (by decide)⟩⟩)))
  exact steps_nil
 intro fx jn g0 jJ kJ ix h7 a1
 obtain ⟨d2,f7,f8,er⟩ := kt4 ix dZ f6 d1 eq
 obtain ⟨⟨⟨ee,dz⟩,(l6 : jn.eval (.tmp 40) = .tuple #[]),(cq : RwO fx 296 [] g0 5 R5 ee dz bO),(cr : BlkO fx 297 g0 d 22 #[sl ee bO dz])⟩,-⟩ := h7 [6] rfl
 have hJ := es_ hI a1
 obtain ⟨aw,ct⟩ := be2 a1 av aD
 have cn := RdO.evo rfl a1 ci
 have co := re_ a1 cj
 have cp := re_ a1 ck
 refine fl_seq (fun lA iP lj=>?_)
 refine rq_seq 91 fx [0,1,3,7,15,0] [dv [] [6] 41 (pt b 0),dv [0] [] 42 (pt b 0),dv [1] [] 43 (pt b 1),dv [2] [] 44 (sl I c.1.2.1 v),dv [3] [] 45 (Zi (c.1.2.1.length : Int)),dv [] [] 46 (Zi 0)] kJ jJ ?_ ?_
 ·exact sM d2<|sF (fun f=>ok1 f.1)<|sF (fun f=>or_field fo64_1 f.1 (by rfl))<|sG to61 aw<|sF (fun f=>or_len tu61 f.1 rfl)<|sO (or_move rfl)<|steps_nil
 intro kn lU mm jK kK iy dJ an
 obtain ⟨f9,ga,gb,es⟩ := kt4 iy d2 f7 f8 er
 have et := gv (dJ [3] rfl) rfl
 have eu := gv (dJ [4] rfl) rfl
 have ev := gv (dJ [5] rfl) rfl
 have hK := es_ hJ an
 obtain ⟨bq,cz,cy⟩ := be3 an aw ct cr
 have cu := RdO.evo rfl an cn
 have cv := re_ an co
 have cw := re_ an cp
 have cx := re_ an cq
 refine fl_block (fun lB lh jf lk=>?_)
 refine fl_loop (body := (fun s=>pack_Write_b1 c s.1 s.2)) (z := r) (show loopO _ _ = _ from q) (fun (s : (List Int) × Int) a T=>match s with | (p,a4)=>∃ (ox : Own) (af : Option Addr) (ah : Nat),a.defers = [] ∧ a.tmps.size = 91 ∧ a.eval (.tmp 6) = pt b 0 ∧ a.eval (.tmp 8) = pt d 0 ∧ a.eval (.tmp 9) = pt A 0 ∧ a.eval (.tmp 10) = .func (.func 26) #[] #[pt A 0,pt d 0] ∧ a.eval (.tmp 44) = sl I c.1.2.1 v ∧ a.eval (.tmp 45) = Zi (c.1.2.1.length : Int) ∧ a.eval (.tmp 46) = Zi a4 ∧ Evo [] (fun _=>0) ox w T ∧ BlkO ox 251 T b 64 #[sl U c.1.1 B,sl I c.1.2.1 v,sl C c.1.2.2 t] ∧ RdO ox [0,318] T R5 U B c.1.1 ∧ RwO ox 248 [0,318] T 22 R22 I v c.1.2.1 ∧ RwO ox 250 [] T 66 R66 C t c.1.2.2 ∧ BlkO ox 320 T d 22 #[sl af p ah] ∧ RwO ox 324 [] T 5 R5 af ah p ∧ BlkO ox 286 T A 59 #[.func (.func 24) #[] #[pt d 0]]) ?_ ?_
 ·exact ⟨(rl [(246,318),(247,318),(249,318),(296,324),(297,320)] kn),ee,dz,jK,kK,f9,ga,gb,es,et,eu,ev,(Evo.rl_ hK (fun _=>Nat.le_refl 0) rfl),(BlkO.rl_ bq),(RdO.more (RdO.rl_ cu) (by decide)),(RwO.more (RwO.rl_ cv) (by decide)),(RwO.rl_ cw),(BlkO.rl_ cy),(RwO.rl_ cx),(BlkO.rl_ cz)⟩
 ·rintro ⟨p,a4⟩ ji lV mn ⟨ko,af,ah,jL,kM,gc,gd,ge,ew,ex,bx,bA,hw,br,cA,cB,cC,cE,cD,cF⟩ q lC iQ i2 kL
  have q : pack_Write_b1 c p a4 = some ji := q
  refine rq_seq 91 ko (bz 1) [dv [] [46,45] 47 (.bool (decide (a4 < (c.1.2.1.length : Int))))] kM jL ?_ ?_
  ·exact sS (fun s=>or_lss (s.1.trans bA) (s.2.1.trans bx) rfl)<|steps_nil
  intro gT lW mo gL hc iz h8 ao
  obtain ⟨bb,d3,bc,ey,bB,ez,bC⟩ := kt7 iz gc gd ge ew ex bx bA
  have eA := gv (h8 [0] rfl) rfl
  have fk := es_ hw ao
  obtain ⟨M,aH,Z⟩ := be3 ao br cE cF
  have aE := RdO.evo rfl ao cA
  have E := re_ ao cB
  have aF := re_ ao cC
  have aG := re_ ao cD
  refine fl_seq (fun lD iR i3=>?_)
  refine fl_cond eA q (fun jx q=>?_) (fun jx q=>?_)
  ·refine fl_skip ?_
   refine iR _ _ ?_
   refine fl_seq (fun lE iS ll=>?_)
   refine fl_block (fun lF iT ls lm=>?_)
   obtain ⟨L,dL,q⟩ := obind q
   refine rq_seq 91 gT (bz 3) [dv [] [44,46] 48 (.pointer (some ((adr I).add ((a4 : Int).toNat * R22.s)))),⟨[0],[],[],Fct.nest X22 [248,0,318] 49 (fun (y : (Option Addr × Nat))=>.slice y.1 L.length y.2) L⟩,⟨[1],[],[],Fct.rel [12,49] (fun l=>∀ (D : Option Addr) (o : Nat),l.getD 1 undef = sl D L o → l.getD 0 undef = sl D L o)⟩] hc gL ?_ ?_
   ·refine sS (fun s=>or_index (R := R22) (l := c.1.2.1) tl61 (s.1.trans bB) (s.2.1.trans bC) (RdO.some_ (RwO.rd E) dL) dL)<|sFE (fun f S=>or_loadN1 X22 0 to22 f.1 (Addr.add_zero' _).symm (RwO.rd (re_ S E)) dL (fun _=>rfl)) ?_
    refine sc (fun own a T G H S=>?_) ?_
    ·obtain ⟨⟨⟨D,o⟩,(d9 : a.eval (.tmp 49) = sl D L o),k2⟩,-⟩ := G
     exact px (or_mono (f := Fct.val 12 (sl D L o)) (or_assign d9) (fun k a' w' v' hp h=>fun _ _ ab=>by cases (d9.symm.trans ((hp.2 49 (by decide)).symm.trans ab)); exact h))
    exact steps_nil
   intro gU el kz jM kN iA h9 ap
   obtain ⟨gf,gg,gh,bD,eC,eD,eE⟩ := kt7 iA bb d3 bc ey bB ez bC
   obtain ⟨⟨⟨D,o⟩,(d9 : el.eval (.tmp 49) = sl D L o),(cK : RdO gU [248,0,318] kz R5 D o L)⟩,(kv : ∀ (D : Option Addr) (o : Nat),el.eval (.tmp 49) = sl D L o → el.eval (.tmp 12) = sl D L o),-⟩ := h9 [1,2] rfl
   have eB := kv _ _ d9
   have hL := es_ fk ap
   obtain ⟨bs,cL,aI⟩ := be3 ap M aH Z
   have cG := RdO.evo rfl ap aE
   have cH := re_ ap E
   have cI := re_ ap aF
   have cJ := re_ ap aG
   obtain ⟨bP,i9,q⟩ := obind q
   refine rr 91 [Fct.at_ 320 d 22 #[sl af p ah],Fct.rowAt 324 [] 5 R5 af ah p] gU [320,324] [0,0,3] [dv [] [10] 50 (.func (.func 26) #[] #[pt A 0,pt d 0]),dv [] [12] 51 (sl D L o),⟨[0,1,3,4],[],[320,324],Fct.mems [353,354] 52 (fun (x : Option Addr × Nat)=>.tuple #[]) (fun (x : Option Addr × Nat) own w=>RwO own 353 [] w 5 R5 x.1 x.2 bP ∧ BlkO own 354 w d 22 #[.slice x.1 bP.length x.2]) (fun Y X h=>⟨RwO.evo (hits_sub Y (by decide)) X h.1,BlkO.evo (not_hit Y (by decide)) X h.2⟩)⟩] kN jM (fm2 cL cJ) ?_ ?_
   ·refine sM bD<|sM eB ?_
    refine sc (fun own a T G H S=>?_) ?_
    ·obtain ⟨j5,j6,i,ba,-⟩ := G
     exact px (or_callf cf26 j5 (args1 j6) rfl (pack_Write_2_v_w _ (forth own (look0 [(320,1),(324,2)])) L D o p d 22 af ah A 59 (look0_le rfl) (RdO.more (RdO.forth_ (m := (look0 [(320,1),(324,2)])) (RdO.evo rfl S cK)) (by decide)) (BlkO.forth_ (m := (look0 [(320,1),(324,2)])) i) (RwO.forth_ (m := (look0 [(320,1),(324,2)])) ba) (BlkO.forth_ (m := (look0 [(320,1),(324,2)])) (be_ S aI)) bP i9) (post_mems (m := (look0 [(320,1),(324,2)])) (m' := (look0 [(1,354),(2,353)])) (hm_of rfl) (fun k w' a' x h1 h=>⟨x,h1,⟨RwO.back_ h.1 (by decide) (.inl (Rep.fl_flat _)),BlkO.back_ h.2 (by decide)⟩⟩)))
    exact steps_nil
   intro fy jo g1 jN kO iB ia a2
   obtain ⟨gi,gj,gk,eF,eG,eH,eI⟩ := kt7 iB gf gg gh bD eC eD eE
   obtain ⟨⟨⟨ef,dA⟩,(l7 : jo.eval (.tmp 52) = .tuple #[]),(cP : RwO fy 353 [] g1 5 R5 ef dA bP),(cQ : BlkO fy 354 g1 d 22 #[sl ef bP dA])⟩,-⟩ := ia [2] rfl
   have hM := es_ hL a2
   obtain ⟨bt,cR⟩ := be2 a2 bs aI
   have cM := RdO.evo rfl a2 cG
   have cN := re_ a2 cH
   have cO := re_ a2 cI
   refine iT _ _ ?_
   refine iS _ _ ?_
   refine rq 91 fy (bz 2) [dv [] [46] 53 (Zi (ad a4 1)),dv [0] [] 46 (Zi (ad a4 1))] kO jN ?_ ?_
   ·exact sS (fun s=>or_add (s.1.trans eI) rfl rfl)<|sV<|steps_nil
   intro kp lX mp jO kP iC ib aq
   obtain ⟨gl,gm,gn,eJ,eK,eL⟩ := kt6 iC gi gj gk eF eG eH
   have eM := gv (ib [1] rfl) rfl
   have hN := es_ hM aq
   obtain ⟨bu,cX,cW⟩ := be3 aq bt cR cQ
   have cS := RdO.evo rfl aq cM
   have cT := re_ aq cN
   have cU := re_ aq cO
   have cV := re_ aq cP
   exact iQ _ _ _ q ⟨(rl [(353,324),(354,320)] kp),ef,dA,jO,kP,gl,gm,gn,eJ,eK,eL,eM,(Evo.rl_ hN (fun _=>Nat.le_refl 0) rfl),(BlkO.rl_ bu),(RdO.rl_ cS),(RwO.rl_ cT),(RwO.rl_ cU),(BlkO.rl_ cW),(RwO.rl_ cV),(BlkO.rl_ cX)⟩
  refine fl_exit ?_
  refine i3 _ _ _ rfl ?_
  replace q := kL _ q
  refine i2 _ _ _ rfl ?_
  refine jf _ _ ?_
  refine iP _ _ ?_
  obtain ⟨bQ,ja,q⟩ := obind q
  refine rd_seq g_mixed 91 [Fct.at_ 320 d 22 #[sl af p ah],Fct.rowAt 324 [] 5 R5 af ah p] gT [320,324] [0,0,2,6,14,30,63] [dv [] [9] 54 (.func (.func 24) #[] #[pt d 0]),dv [] [6] 55 (pt b 0),dv [1] [] 56 (pt b 0),dv [2] [] 57 (pt b 2),dv [3] [] 58 (sl C c.1.2.2 t),dv [4] [] 59 (Zi (c.1.2.2.length : Int)),⟨[0,5,7,8],[],[320,324],Fct.mems [359,360] 60 (fun (x : Option Addr × Nat)=>.tuple #[]) (fun (x : Option Addr × Nat) own w=>RwO own 359 [] w 5 R5 x.1 x.2 bQ ∧ BlkO own 360 w d 22 #[.slice x.1 bQ.length x.2]) (fun Y X h=>⟨RwO.evo (hits_sub Y (by decide)) X h.1,BlkO.evo (not_hit Y (by decide)) X h.2⟩)⟩] hc gL (fm2 aH aG) ?_ ?_
  ·refine sL1 to59 bc Z<|sM bb<|sF (fun f=>ok1 f.1)<|sF (fun f=>or_field fo64_2 f.1 (by rfl))<|sG to62 M<|sF (fun f=>or_len tu62 f.1 rfl) ?_
   refine sc (fun own a T G H S=>?_) ?_
   ·obtain ⟨j7,j8,i,ba,-⟩ := G
    exact px (or_callf cf24 j7 (args1 j8) rfl (pack_Write_1_w _ (forth own (look0 [(320,1),(324,2)])) (c.1.2.2.length : Int) p d 22 af ah (look0_le rfl) (BlkO.forth_ (m := (look0 [(320,1),(324,2)])) i) (RwO.forth_ (m := (look0 [(320,1),(324,2)])) ba) bQ ja) (post_mems (m := (look0 [(320,1),(324,2)])) (m' := (look0 [(1,360),(2,359)])) (hm_of rfl) (fun k w' a' x h1 h=>⟨x,h1,⟨RwO.back_ h.1 (by decide) (.inl (Rep.fl_flat _)),BlkO.back_ h.2 (by decide)⟩⟩)))
   exact steps_nil
  intro fz jp g2 jP kQ iD ic a3
  obtain ⟨go,gp,gq⟩ := kt3 iD bb d3 bc
  obtain ⟨⟨⟨eg,dB⟩,(l8 : jp.eval (.tmp 60) = .tuple #[]),(cZ : RwO fz 359 [] g2 5 R5 eg dB bQ),(c0 : BlkO fz 360 g2 d 22 #[sl eg bQ dB])⟩,-⟩ := ic [6] rfl
  have hO := es_ fk a3
  obtain ⟨bv,c1⟩ := be2 a3 M Z
  have hj := RdO.evo rfl a3 aE
  have hl := re_ a3 E
  have cY := re_ a3 aF
  refine fl_seq (fun lG iU ln=>?_)
  refine rq_seq 91 fz [0,1,3,7,15,0] [dv [] [6] 61 (pt b 0),dv [0] [] 62 (pt b 0),dv [1] [] 63 (pt b 2),dv [2] [] 64 (sl C c.1.2.2 t),dv [3] [] 65 (Zi (c.1.2.2.length : Int)),dv [] [] 66 (Zi 0)] kQ jP ?_ ?_
  ·exact sM go<|sF (fun f=>ok1 f.1)<|sF (fun f=>or_field fo64_2 f.1 (by rfl))<|sG to62 bv<|sF (fun f=>or_len tu62 f.1 rfl)<|sO (or_move rfl)<|steps_nil
  intro kq lY mq jQ kR iE dK bd
  obtain ⟨gr,gs⟩ := kt2 iE gp gq
  have eN := gv (dK [3] rfl) rfl
  have eO := gv (dK [4] rfl) rfl
  have eP := gv (dK [5] rfl) rfl
  have hP := es_ hO bd
  obtain ⟨c5,c4⟩ := be2 bd c1 c0
  have c2 := re_ bd cY
  have c3 := re_ bd cZ
  refine fl_block (fun lH li jg lo=>?_)
  refine fl_loop (body := (fun s=>pack_Write_b2 c s.1 s.2)) (z := r) (show loopO _ _ = _ from q) (fun (s : (List Int) × Int) a T=>match s with | (u,a5)=>∃ (ox : Own) (ag : Option Addr) (ai : Nat),a.defers = [] ∧ a.tmps.size = 91 ∧ a.eval (.tmp 8) = pt d 0 ∧ a.eval (.tmp 9) = pt A 0 ∧ a.eval (.tmp 64) = sl C c.1.2.2 t ∧ a.eval (.tmp 65) = Zi (c.1.2.2.length : Int) ∧ a.eval (.tmp 66) = Zi a5 ∧ Evo [] (fun _=>0) ox w T ∧ BlkO ox 397 T d 22 #[sl ag u ai] ∧ RwO ox 401 [] T 5 R5 ag ai u ∧ BlkO ox 286 T A 59 #[.func (.func 24) #[] #[pt d 0]] ∧ RwO ox 250 [] T 66 R66 C t c.1.2.2) ?_ ?_
  ·exact ⟨(rl [(359,401),(360,397)] kq),eg,dB,jQ,kR,gr,gs,eN,eO,eP,(Evo.rl_ hP (fun _=>Nat.le_refl 0) rfl),(BlkO.rl_ c4),(RwO.rl_ c3),(BlkO.rl_ c5),(RwO.rl_ c2)⟩
  ·rintro ⟨u,a5⟩ jj lZ mr ⟨kr,ag,ai,jR,kT,gt,gu,eQ,bE,bF,hx,c8,c7,c9,c6⟩ q lI iV i4 kS
   have q : pack_Write_b2 c u a5 = some jj := q
   refine rq_seq 91 kr (bz 1) [dv [] [66,65] 67 (.bool (decide (a5 < (c.1.2.2.length : Int))))] kT jR ?_ ?_
   ·exact sS (fun s=>or_lss (s.1.trans bF) (s.2.1.trans bE) rfl)<|steps_nil
   intro gV l0 ms gM hd iF id be
   obtain ⟨d4,gw,bG,eR,bH⟩ := kt5 iF gt gu eQ bE bF
   have eS := gv (id [0] rfl) rfl
   have fl := es_ hx be
   obtain ⟨aK,da⟩ := be2 be c8 c9
   have aJ := re_ be c7
   have aa := re_ be c6
   refine fl_seq (fun lJ iW i5=>?_)
   refine fl_cond eS q (fun jy q=>?_) (fun jy q=>?_)
   ·refine fl_skip ?_
    refine iW _ _ ?_
    refine fl_seq (fun lK iX lp=>?_)
    refine fl_block (fun lL iY lt lq=>?_)
    obtain ⟨j,dM,q⟩ := obind q
    refine rp_seq 91 gV [444] [0,1,0,7] [dv [] [64,66] 68 (.pointer (some ((adr C).add ((a5 : Int).toNat * R66.s)))),dv [0] [] 69 (.agg #[Zi j.1.1,Zi j.1.2.1,Zi j.1.2.2,Zi j.2]),⟨[],[],[],Fct.blk 444 14 (fun g=>pt g 0) 66 #[Zi 0,Zi 0,Zi 0,Zi 0]⟩,⟨[2,1],[],[444],Fct.blk 445 14 (fun g=>pt g 0) 66 #[Zi j.1.1,Zi j.1.2.1,Zi j.1.2.2,Zi j.2]⟩] hd gM ?_ ?_
    ·refine sS (fun s=>or_index (R := R66) (l := c.1.2.2) tl62 (s.1.trans bG) (s.2.1.trans bH) (RdO.some_ (RwO.rd aa) dM) dM)<|sFE (fun f S=>or_load (l := E66.f j) ta66 f.1 (RdO.cells (F := E66) (RwO.rd (re_ S aa)) dM) rfl)<|sO (nw0) ?_
     refine sc (fun own a T G H S=>?_) ?_
     ·obtain ⟨⟨W,gN,fP⟩,j9,-⟩ := G
      exact px (or_store (l := #[Zi j.1.1,Zi j.1.2.1,Zi j.1.2.2,Zi j.2]) (lab := 444) (lab2 := 445) ts66 gN j9 fP (by simp) (by kernel_rfl) (mem_of rfl) (by decide) (by kernel_rfl) (fun k a' w' ha hb=>⟨_,(ha 14).trans gN,hb⟩))
     exact steps_nil
    intro gW jq kA jS kU iG ie bf
    obtain ⟨gx,d5,eT,eU,eV⟩ := kt5 iG d4 gw bG eR bH
    obtain ⟨⟨W,(bI : jq.eval (.tmp 14) = pt W 0),(aM : BlkO gW 445 kA W 66 #[Zi j.1.1,Zi j.1.2.1,Zi j.1.2.2,Zi j.2])⟩,-⟩ := ie [3] rfl
    have hQ := es_ fl bf
    obtain ⟨dd,aL⟩ := be2 bf aK da
    have dc := re_ bf aJ
    have db := re_ bf aa
    obtain ⟨ay,jb,q⟩ := obind q
    refine rr_seq 91 [Fct.at_ 397 d 22 #[sl ag u ai],Fct.rowAt 401 [] 5 R5 ag ai u] gW [397,401] [0,0,2,6,15] [dv [] [9] 70 (.func (.func 24) #[] #[pt d 0]),dv [] [14] 71 (pt W 0),dv [1] [] 72 (pt W 0),dv [2] [] 73 (Zi j.1.1),⟨[0,3,5,6],[],[397,401],Fct.mems [449,450] 74 (fun (x : Option Addr × Nat)=>.tuple #[]) (fun (x : Option Addr × Nat) own w=>RwO own 449 [] w 5 R5 x.1 x.2 ay ∧ BlkO own 450 w d 22 #[.slice x.1 ay.length x.2]) (fun Y X h=>⟨RwO.evo (hits_sub Y (by decide)) X h.1,BlkO.evo (not_hit Y (by decide)) X h.2⟩)⟩] kU jS (fm2 dd dc) ?_ ?_
    ·refine sL1 to59 d5 aL<|sS (fun s=>or_field fo66_0 (s.1.trans bI) (by rfl))<|sF (fun f=>or_field fo28_0 f.1 (by rfl))<|sG to3 aM ?_
     refine sc (fun own a T G H S=>?_) ?_
     ·obtain ⟨ka,kb,i,fI,-⟩ := G
      exact px (or_callf cf24 ka (args1 kb) rfl (pack_Write_1_w _ (forth own (look0 [(397,1),(401,2)])) j.1.1 u d 22 ag ai (look0_le rfl) (BlkO.forth_ (m := (look0 [(397,1),(401,2)])) i) (RwO.forth_ (m := (look0 [(397,1),(401,2)])) fI) ay jb) (post_mems (m := (look0 [(397,1),(401,2)])) (m' := (look0 [(1,450),(2,449)])) (hm_of rfl) (fun k w' a' x h1 h=>⟨x,h1,⟨RwO.back_ h.1 (by decide) (.inl (Rep.fl_flat _)),BlkO.back_ h.2 (by decide)⟩⟩)))
     exact steps_nil
    intro fA jr g3 jT kV iH ig dF
    obtain ⟨gy,d6,bJ,eW,eX,eY⟩ := kt6 iH gx d5 bI eT eU eV
    obtain ⟨⟨⟨bi,aU⟩,(l9 : jr.eval (.tmp 74) = .tuple #[]),(df : RwO fA 449 [] g3 5 R5 bi aU ay),(dg : BlkO fA 450 g3 d 22 #[sl bi ay aU])⟩,-⟩ := ig [4] rfl
    have hR := es_ hQ dF
    obtain ⟨aN,aO⟩ := be2 dF aL aM
    have de := re_ dF db
    obtain ⟨az,jc,q⟩ := obind q
    refine rr_seq 91 [Fct.at_ 450 d 22 #[sl bi ay aU],Fct.rowAt 449 [] 5 R5 bi aU ay] fA [450,449] [0,0,2,6,15] [dv [] [9] 75 (.func (.func 24) #[] #[pt d 0]),dv [] [14] 76 (pt W 0),dv [1] [] 77 (pt W 1),dv [2] [] 78 (Zi j.1.2.1),⟨[0,3,5,6],[],[450,449],Fct.mems [454,455] 79 (fun (x : Option Addr × Nat)=>.tuple #[]) (fun (x : Option Addr × Nat) own w=>RwO own 454 [] w 5 R5 x.1 x.2 az ∧ BlkO own 455 w d 22 #[.slice x.1 az.length x.2]) (fun Y X h=>⟨RwO.evo (hits_sub Y (by decide)) X h.1,BlkO.evo (not_hit Y (by decide)) X h.2⟩)⟩] kV jT (fm2 dg df) ?_ ?_
    ·refine sL1 to59 d6 aN<|sS (fun s=>or_field fo66_0 (s.1.trans bJ) (by rfl))<|sF (fun f=>or_field fo28_1 f.1 (by rfl))<|sG to3 aO ?_
     refine sc (fun own a T G H S=>?_) ?_
     ·obtain ⟨kc,kd,i,fJ,-⟩ := G
      exact px (or_callf cf24 kc (args1 kd) rfl (pack_Write_1_w _ (forth own (look0 [(449,2),(450,1)])) j.1.2.1 ay d 22 bi aU (look0_le rfl) (BlkO.forth_ (m := (look0 [(449,2),(450,1)])) i) (RwO.forth_ (m := (look0 [(449,2),(450,1)])) fJ) az jc) (post_mems (m := (look0 [(449,2),(450,1)])) (m' := (look0 [(1,455),(2,454)])) (hm_of rfl) (fun k w' a' x h1 h=>⟨x,h1,⟨RwO.back_ h.1 (by decide) (.inl (Rep.fl_flat _)),BlkO.back_ h.2 (by decide)⟩⟩)))
     exact steps_nil
    intro fB js g4 jU kW iI ih dG
    obtain ⟨gz,d7,bK,eZ,e0,e1⟩ := kt6 iI gy d6 bJ eW eX eY
    obtain ⟨⟨⟨bj,aV⟩,(ma : js.eval (.tmp 79) = .tuple #[]),(di : RwO fB 454 [] g4 5 R5 bj aV az),(dj : BlkO fB 455 g4 d 22 #[sl bj az aV])⟩,-⟩ := ih [4] rfl
    have hS := es_ hR dG
    obtain ⟨aP,aQ⟩ := be2 dG aN aO
    have dh := re_ dG de
    obtain ⟨aA,jd,q⟩ := obind q
    refine rr_seq 91 [Fct.at_ 455 d 22 #[sl bj az aV],Fct.rowAt 454 [] 5 R5 bj aV az] fB [455,454] [0,0,2,6,15] [dv [] [9] 80 (.func (.func 24) #[] #[pt d 0]),dv [] [14] 81 (pt W 0),dv [1] [] 82 (pt W 2),dv [2] [] 83 (Zi j.1.2.2),⟨[0,3,5,6],[],[455,454],Fct.mems [459,460] 84 (fun (x : Option Addr × Nat)=>.tuple #[]) (fun (x : Option Addr × Nat) own w=>RwO own 459 [] w 5 R5 x.1 x.2 aA ∧ BlkO own 460 w d 22 #[.slice x.1 aA.length x.2]) (fun Y X h=>⟨RwO.evo (hits_sub Y (by decide)) X h.1,BlkO.evo (not_hit Y (by decide)) X h.2⟩)⟩] kW jU (fm2 dj di) ?_ ?_
    ·refine sL1 to59 d7 aP<|sS (fun s=>or_field fo66_0 (s.1.trans bK) (by rfl))<|sF (fun f=>or_field fo28_2 f.1 (by rfl))<|sG to3 aQ ?_
     refine sc (fun own a T G H S=>?_) ?_
     ·obtain ⟨ke,kf,i,fK,-⟩ := G
      exact px (or_callf cf24 ke (args1 kf) rfl (pack_Write_1_w _ (forth own (look0 [(454,2),(455,1)])) j.1.2.2 az d 22 bj aV (look0_le rfl) (BlkO.forth_ (m := (look0 [(454,2),(455,1)])) i) (RwO.forth_ (m := (look0 [(454,2),(455,1)])) fK) aA jd) (post_mems (m := (look0 [(454,2),(455,1)])) (m' := (look0 [(1,460),(2,459)])) (hm_of rfl) (fun k w' a' x h1 h=>⟨x,h1,⟨RwO.back_ h.1 (by decide) (.inl (Rep.fl_flat _)),BlkO.back_ h.2 (by decide)⟩⟩)))
     exact steps_nil
    intro fC jt g5 jV kX iJ ii dH
    obtain ⟨gA,d8,e2,e3,e4,e5⟩ := kt6 iJ gz d7 bK eZ e0 e1
    obtain ⟨⟨⟨bk,aW⟩,(mb : jt.eval (.tmp 84) = .tuple #[]),(dl : RwO fC 459 [] g5 5 R5 bk aW aA),(dm : BlkO fC 460 g5 d 22 #[sl bk aA aW])⟩,-⟩ := ii [4] rfl
    have hT := es_ hS dH
    obtain ⟨aR,dn⟩ := be2 dH aP aQ
    have dk := re_ dH dh
    obtain ⟨bR,je,q⟩ := obind q
    refine rr 91 [Fct.at_ 460 d 22 #[sl bk aA aW],Fct.rowAt 459 [] 5 R5 bk aW aA] fC [460,459] [0,0,2,7] [dv [] [9] 85 (.func (.func 24) #[] #[pt d 0]),dv [] [14] 86 (pt W 3),dv [1] [] 87 (Zi j.2),⟨[0,2,4,5],[],[460,459],Fct.mems [464,465] 88 (fun (x : Option Addr × Nat)=>.tuple #[]) (fun (x : Option Addr × Nat) own w=>RwO own 464 [] w 5 R5 x.1 x.2 bR ∧ BlkO own 465 w d 22 #[.slice x.1 bR.length x.2]) (fun Y X h=>⟨RwO.evo (hits_sub Y (by decide)) X h.1,BlkO.evo (not_hit Y (by decide)) X h.2⟩)⟩] kX jV (fm2 dm dl) ?_ ?_
    ·refine sL1 to59 d8 aR<|sS (fun s=>or_field fo66_1 (s.1.trans e2) (by rfl))<|sG to3 dn ?_
     refine sc (fun own a T G H S=>?_) ?_
     ·obtain ⟨kg,kh,i,fL,-⟩ := G
      exact px (or_callf cf24 kg (args1 kh) rfl (pack_Write_1_w _ (forth own (look0 [(459,2),(460,1)])) j.2 aA d 22 bk aW (look0_le rfl) (BlkO.forth_ (m := (look0 [(459,2),(460,1)])) i) (RwO.forth_ (m := (look0 [(459,2),(460,1)])) fL) bR je) (post_mems (m := (look0 [(459,2),(460,1)])) (m' := (look0 [(1,465),(2,464)])) (hm_of rfl) (fun k w' a' x h1 h=>⟨x,h1,⟨RwO.back_ h.1 (by decide) (.inl (Rep.fl_flat _)),BlkO.back_ h.2 (by decide)⟩⟩)))
     exact steps_nil
    intro fD ju g6 jW kY iK ij dI
    obtain ⟨gB,gC,e6,e7,e8⟩ := kt5 iK gA d8 e3 e4 e5
    obtain ⟨⟨⟨eh,dC⟩,(mc : ju.eval (.tmp 88) = .tuple #[]),(dq : RwO fD 464 [] g6 5 R5 eh dC bR),(dr : BlkO fD 465 g6 d 22 #[sl eh bR dC])⟩,-⟩ := ij [3] rfl
    have hU := es_ hT dI
    have ds := be_ dI aR
    have dp := re_ dI dk
    refine iY _ _ ?_
    refine iX _ _ ?_
    refine rq 91 fD (bz 2) [dv [] [66] 89 (Zi (ad a5 1)),dv [0] [] 66 (Zi (ad a5 1))] kY jW ?_ ?_
    ·exact sS (fun s=>or_add (s.1.trans e8) rfl rfl)<|sV<|steps_nil
    intro ks l1 mt jX kZ iL ik bg
    obtain ⟨gD,gE,e9,fa⟩ := kt4 iL gB gC e6 e7
    have fb := gv (ik [1] rfl) rfl
    have hV := es_ hU bg
    obtain ⟨dx,dw⟩ := be2 bg ds dr
    have dt := re_ bg dp
    have du := re_ bg dq
    exact iV _ _ _ q ⟨(rl [(464,401),(465,397)] ks),eh,dC,jX,kZ,gD,gE,e9,fa,fb,(Evo.rl_ hV (fun _=>Nat.le_refl 0) rfl),(BlkO.rl_ dw),(RwO.rl_ du),(BlkO.rl_ dx),(RwO.rl_ dt)⟩
   refine fl_exit ?_
   refine i5 _ _ _ rfl ?_
   replace q := kS _ q
   refine i4 _ _ _ rfl ?_
   refine jg _ _ ?_
   refine iU _ _ ?_
   refine rq_seq 91 gV (bz 3) [dv [] [8] 90 (sl ag u ai),dv [0] [] 4 (sl ag u ai),dv [] [] 5 (Zi 0)] hd gM ?_ ?_
   ·exact sL1 to22 d4 aK<|sA<|sO (or_assign rfl)<|steps_nil
   intro ku l3 mu jY my lg fs fh
   have gF := gv (fs [1] rfl) rfl
   have gG := gv (fs [2] rfl) rfl
   have hW := es_ fl fh
   have dy := re_ fh aJ
   refine fl_ret ?_
   obtain rfl := osome q
   exact ft _ _ _ _ (.inl rfl) jY (results2_ rfl (RVal.tmp_ gF) (RVal.tmp_ gG)) ⟨(rl [(401,1)] ku),(ag,ai),rfl,(Evo.rl_ hW (fun _=>Nat.le_refl 0) rfl),(RwO.rl_ dy)⟩
theorem ref07_Same_w (w : World) (i : List Int) (g : Option Addr) (k : Nat) (m : List Int) (j : Option Addr) (o : Nat) (a6 : RdO (fun _=>0) [0] w R5 g k i) (aK : RdO (fun _=>0) [0] w R5 j o m) (r : Bool) (b : ref07_Same i m = some r) :
  Calls Try.prog 11 #[sl g i k,sl j m o] w fun e w'=>∃ bd : Own,e = .returned (.bool r) ∧ Evo [] (fun _=>0) bd w w' := by
 refine fl_enter (n := 26) rfl rfl rfl (Nat.le_of_ble_eq_true rfl) ?_
 intro a0 Q d0 z0 B C
 have bt := B 0 _ rfl
 have bu := B 1 _ rfl
 clear B
 have bs : Evo [] (fun _=>0) (fun _=>0) w w := Evo.refl _ _ _
 refine rq_seq 26 (fun _=>0) (bz 1) [dv [] [] 4 (.bool false)] z0 d0 ?_ ?_
 ·exact sO (or_assign rfl)<|steps_nil
 intro bx b1 b9 bn bD aP bK aB
 obtain ⟨q,t⟩ := kt2 aP bt bu
 have aH := es_ bs aB
 refine fl_seq (fun bU aT aZ=>?_)
 refine rq_seq 26 bx [0,1,0,4,15] [dv [] [0] 6 (sl g i k),dv [0] [] 7 (Zi (i.length : Int)),dv [] [1] 8 (sl j m o),dv [2] [] 9 (Zi (m.length : Int)),dv [1,3] [] 10 (.bool (!decide ((i.length : Int) = (m.length : Int))))] bD bn ?_ ?_
 ·exact sM q<|sF (fun f=>or_len tu22 f.1 rfl)<|sM t<|sF (fun f=>or_len tu22 f.1 rfl)<|sF (fun f=>or_neq f.1 f.2.1 rfl)<|steps_nil
 intro bb b3 ca az bh aQ aL aC
 obtain ⟨X,Y⟩ := kt2 aQ q t
 have O := gv (aL [4] rfl) rfl
 have T := es_ aH aC
 refine fl_cond O b (fun bl b=>?_) (fun bl b=>?_)
 ·refine rq_seq 26 bb (bz 1) [dv [] [] 4 (.bool false)] bh az ?_ ?_
  ·exact sO (or_assign rfl)<|steps_nil
  intro bA b4 cb bo ch bL aM aD
  have Z := gv (aM [0] rfl) rfl
  have aI := es_ T aD
  refine fl_ret ?_
  refine aZ _ _ _ rfl ?_
  obtain rfl := osome b
  exact C _ _ _ _ (.inl rfl) bo (results1_ rfl (RVal.tmp_ Z)) ⟨bA,rfl,aI⟩
 refine fl_skip ?_
 refine aT _ _ ?_
 refine fl_seq (fun bV aU a1=>?_)
 refine rq_seq 26 bb (bz 1) [dv [] [] 5 (Zi 0)] bh az ?_ ?_
 ·exact sO (or_assign rfl)<|steps_nil
 intro bB b5 cc bp bE aR aN aE
 obtain ⟨aa,ab⟩ := kt2 aR X Y
 have ae := gv (aN [0] rfl) rfl
 have aJ := es_ T aE
 refine fl_block (fun bW bM a7 a2=>?_)
 refine fl_loop (body := (fun s=>ref07_Same_b1 i m s)) (z := r) (show loopO _ _ = _ from b) (fun (c : Int) a wx=>∃ (ox : Own),a.defers = [] ∧ a.tmps.size = 26 ∧ a.eval (.tmp 0) = sl g i k ∧ a.eval (.tmp 1) = sl j m o ∧ a.eval (.tmp 5) = Zi c ∧ Evo [] (fun _=>0) ox w wx) ?_ ?_
 ·exact ⟨bB,bp,bE,aa,ab,ae,aJ⟩
 ·rintro c bk b6 cd ⟨bC,bq,bF,u,af,v,aF⟩ b bX aV U bi
  have b : ref07_Same_b1 i m c = some bk := b
  refine fl_seq (fun bY aW a3=>?_)
  refine rq_seq 26 bC [0,0,2,7] [dv [] [5] 11 (Zi c),dv [] [0] 12 (sl g i k),dv [1] [] 13 (Zi (i.length : Int)),dv [0,2] [] 14 (.bool (decide (c < (i.length : Int))))] bF bq ?_ ?_
  ·exact sM v<|sM u<|sF (fun f=>or_len tu22 f.1 rfl)<|sF (fun f=>or_lss f.1 f.2.1 rfl)<|steps_nil
  intro bc b7 ce aA bj aS aO aG
  obtain ⟨x,y,h⟩ := kt3 aS u af v
  have P := gv (aO [3] rfl) rfl
  have d := es_ aF aG
  refine fl_cond P b (fun bm b=>?_) (fun bm b=>?_)
  ·refine fl_skip ?_
   refine aW _ _ ?_
   refine fl_seq (fun bZ aX a4=>?_)
   refine fl_block (fun b0 aY bN a5=>?_)
   obtain ⟨be,D,b⟩ := obind b
   obtain ⟨bf,E,b⟩ := obind b
   refine rd_seq g_mixed 26 [] bc [] [0,0,3,7,0,0,48,112,255] [dv [] [0] 17 (sl g i k),dv [] [5] 18 (Zi c),dv [0,1] [] 19 (.pointer (some ((adr g).add ((c : Int).toNat * R5.s)))),dv [2] [] 20 (.int .u8 be),dv [] [1] 21 (sl j m o),dv [] [5] 22 (Zi c),dv [4,5] [] 23 (.pointer (some ((adr j).add ((c : Int).toNat * R5.s)))),dv [6] [] 24 (.int .u8 bf),dv [3,7] [] 25 (.bool (!decide (be = bf)))] bj aA nm_ ?_ ?_
   ·exact sM x<|sM h<|sF (fun f=>or_index (R := R5) (l := i) tl22 f.1 f.2.1 (RdO.some_ (RdO.evo rfl d a6) D) D)<|sFE (fun f hE=>or_load1 to5 f.1 (CellsAt.zero (RdO.cells (F := E5) (RdO.evo rfl hE (RdO.evo rfl d a6)) D) rfl))<|sM y<|sM h<|sF (fun f=>or_index (R := R5) (l := m) tl22 f.1 f.2.1 (RdO.some_ (RdO.evo rfl d aK) E) E)<|sFE (fun f hE=>or_load1 to5 f.1 (CellsAt.zero (RdO.cells (F := E5) (RdO.evo rfl hE (RdO.evo rfl d aK)) E) rfl))<|sF (fun f=>or_neq f.1 f.2.1 rfl)<|steps_nil
   intro V bG bO S W ar an ag
   obtain ⟨G,H,I⟩ := kt3 ar x y h
   have p := gv (an [8] rfl) rfl
   have A := es_ d ag
   refine fl_cond p b (fun av b=>?_) (fun av b=>?_)
   ·refine rq_seq 26 V (bz 1) [dv [] [] 4 (.bool false)] W S ?_ ?_
    ·exact sO (or_assign rfl)<|steps_nil
    intro a8 bH bP aw bS bv ao ah
    have J := gv (ao [0] rfl) rfl
    have ak := es_ A ah
    refine fl_ret ?_
    refine a5 _ _ _ rfl ?_
    refine a4 _ _ _ rfl ?_
    replace b := bi _ b
    refine U _ _ _ rfl ?_
    refine a2 _ _ _ rfl ?_
    refine a1 _ _ _ rfl ?_
    obtain rfl := osome b
    exact C _ _ _ _ (.inl rfl) aw (results1_ rfl (RVal.tmp_ J)) ⟨a8,rfl,ak⟩
   refine fl_skip ?_
   refine aY _ _ ?_
   refine aX _ _ ?_
   refine rq 26 V (bz 3) [dv [] [5] 15 (Zi c),dv [0] [] 16 (Zi (ad c 1)),dv [1] [] 5 (Zi (ad c 1))] W S ?_ ?_
   ·exact sM I<|sF (fun f=>or_add f.1 rfl rfl)<|sA<|steps_nil
   intro a9 bI bQ ax bg au ap ai
   obtain ⟨K,L⟩ := kt2 au G H
   have M := gv (ap [2] rfl) rfl
   have al := es_ A ai
   exact aV _ _ _ b ⟨a9,ax,bg,K,L,M,al⟩
  refine fl_exit ?_
  refine a3 _ _ _ rfl ?_
  replace b := bi _ b
  refine U _ _ _ rfl ?_
  refine a7 _ _ ?_
  refine aU _ _ ?_
  refine rq_seq 26 bc (bz 1) [dv [] [] 4 (.bool true)] bj aA ?_ ?_
  ·exact sO (or_assign rfl)<|steps_nil
  intro ba bJ bR ay bT bw aq aj
  have N := gv (aq [0] rfl) rfl
  have am := es_ d aj
  refine fl_ret ?_
  obtain rfl := osome b
  exact C _ _ _ _ (.inl rfl) ay (results1_ rfl (RVal.tmp_ N)) ⟨ba,rfl,am⟩
theorem internal_stringslite_HasPrefix_w (w : World) (c : ByteArray) (a : ByteArray) (r : Bool) (t : internal_stringslite_HasPrefix c a = some r) :
  Calls Try.prog 49 #[.string c,.string a] w fun e N=>∃ x : Own,e = .returned (.bool r) ∧ Evo [] (fun _=>0) x w N := by
 refine fl_enter (n := 18) rfl rfl rfl (Nat.le_of_ble_eq_true rfl) ?_
 intro T Q d0 R g q
 have D := g 0 _ rfl
 have E := g 1 _ rfl
 clear g
 have C : Evo [] (fun _=>0) (fun _=>0) w w := Evo.refl _ _ _
 refine rq_seq 18 (fun _=>0) (bz 1) [dv [] [] 4 (.bool false)] R d0 ?_ ?_
 ·exact sO (or_assign rfl)<|steps_nil
 intro F K O A H p I j
 obtain ⟨d,b⟩ := kt2 p D E
 have l := es_ C j
 obtain ⟨y,u,t⟩ := obind t
 obtain ⟨z,v,t⟩ := obind t
 refine rq_seq 18 F [0,1,0,4,15,31,63,63,191,511,63,2047,4095,8191] [dv [] [0] 5 (.string c),dv [0] [] 6 (Zi (c.size : Int)),dv [] [1] 7 (.string a),dv [2] [] 8 (Zi (a.size : Int)),dv [1,3] [] 9 (.bool (decide ((a.size : Int) ≤ (c.size : Int)))),dv [4] [] 10 (.bool (decide ((a.size : Int) ≤ (c.size : Int)))),dc [5] [0] (decide ((a.size : Int) ≤ (c.size : Int))) 11 (.string c),dc [5] [1] (decide ((a.size : Int) ≤ (c.size : Int))) 12 (.string a),dc [5,7] [] (decide ((a.size : Int) ≤ (c.size : Int))) 13 (Zi (a.size : Int)),dc [5,6,8] [] (decide ((a.size : Int) ≤ (c.size : Int))) 14 (.string y),dc [5] [1] (decide ((a.size : Int) ≤ (c.size : Int))) 15 (.string a),dc [5,9,10] [] (decide ((a.size : Int) ≤ (c.size : Int))) 16 (.bool (eqS y a)),dv [5,11] [] 17 (.bool z),dv [12] [] 4 (.bool z)] H A ?_ ?_
 ·exact sM d<|sF (fun f=>or_lenS tS9 f.1 rfl)<|sM b<|sF (fun f=>or_lenS tS9 f.1 rfl)<|sF (fun f=>or_geq f.1 f.2.1 rfl)<|sV<|cT (fun _ s _ _=>or_move (s.1.trans d))<|cT (fun _ s _ _=>or_move (s.1.trans b))<|cT (fun f _ _ h=>or_lenS tS9 (f.2.1.1 h) rfl)<|cT (fun f _ _ h=>or_sliceS tS9 (f.2.1.1 h) Bnd.none_ (Bnd.some_ (f.2.2.1.1 h)) (gd_t u h))<|cT (fun _ s _ _=>or_move (s.1.trans b))<|cT (fun f _ _ h=>or_eqlS tS9 (f.2.1.1 h) (f.2.2.1.1 h) rfl)<|sF (fun f=>or_and f.1 (fun M=>f.2.1.1 M) rfl (osome v).symm)<|sA<|steps_nil
 intro G L P B S J o k
 have i := gv (o [13] rfl) rfl
 have m := es_ l k
 refine fl_ret ?_
 obtain rfl := (osome t).symm
 exact q _ _ _ _ (.inl rfl) B (results1_ rfl (RVal.tmp_ i)) ⟨G,rfl,m⟩
theorem strings_HasPrefix_w (w : World) (t : ByteArray) (a : ByteArray) (r : Bool) (A : strings_HasPrefix t a = some r) :
  Calls Try.prog 27 #[.string t,.string a] w fun e I=>∃ s : Own,e = .returned (.bool r) ∧ Evo [] (fun _=>0) s w I := by
 refine fl_enter (n := 8) rfl rfl rfl (Nat.le_of_ble_eq_true rfl) ?_
 intro N Q d0 L b q
 have y := b 0 _ rfl
 have z := b 1 _ rfl
 clear b
 have x : Evo [] (fun _=>0) (fun _=>0) w w := Evo.refl _ _ _
 refine rq_seq 8 (fun _=>0) (bz 1) [dv [] [] 4 (.bool false)] L d0 ?_ ?_
 ·exact sO (or_assign rfl)<|steps_nil
 intro B G J u D o E i
 obtain ⟨c,d⟩ := kt2 o y z
 have k := es_ x i
 obtain ⟨h,p,A⟩ := obind A
 refine rq_seq 8 B [0,0,3,7] [dv [] [0] 5 (.string t),dv [] [1] 6 (.string a),dv [0,1] [] 7 (.bool h),dv [2] [] 4 (.bool h)] D u ?_ ?_
 ·exact sM c<|sM d<|sF (fun f=>or_call cf49 (args2 f.1 f.2.1) (internal_stringslite_HasPrefix_w _ t a  h p) post_val)<|sA<|steps_nil
 intro C H K v M F m j
 have g := gv (m [3] rfl) rfl
 have l := es_ k j
 refine fl_ret ?_
 obtain rfl := (osome A).symm
 exact q _ _ _ _ (.inl rfl) v (results1_ rfl (RVal.tmp_ g)) ⟨C,rfl,l⟩
theorem bytes_Clone_w (w : World) (v : List Int) (i : Option Addr) (o : Nat) (O : RdO (fun _=>0) [0] w R5 i o v) (r : List Int) (D : bytes_Clone v = some r) :
  Calls Try.prog 41 #[sl i v o] w fun e w'=>∃ (m : Own) (x : Option Addr × Nat),e = .returned (.slice x.1 r.length x.2) ∧ Evo [] (fun _=>0) m w w' ∧ RwO m 1 [] w' 5 R5 x.1 x.2 r := by
 refine fl_enter (n := 8) rfl rfl rfl (Nat.le_of_ble_eq_true rfl) ?_
 intro a0 Q d0 z0 s t
 have am := s 0 _ rfl
 clear s
 have al : Evo [] (fun _=>0) (fun _=>0) w w := Evo.refl _ _ _
 refine rq_seq 8 (fun _=>0) (bz 1) [dv [] [] 2 (.slice none 0 0)] z0 d0 ?_ ?_
 ·exact sO (or_assign rfl)<|steps_nil
 intro aq aF aJ af ax U aA G
 have k := kt U am
 have K := es_ al G
 refine fl_seq (fun aE X Y=>?_)
 refine rq_seq 8 aq (bz 2) [dv [] [0] 3 (sl i v o),dv [0] [] 4 (.bool i.isNone)] ax af ?_ ?_
 ·exact sM k<|sF (fun f=>or_eqlNil tu22 f.1 rfl)<|steps_nil
 intro aa aG aK E ad V P H
 have z := kt V k
 have A := gv (P [1] rfl) rfl
 have g := es_ K H
 refine wpIn_cond_split A (fun q=>?_) (fun q=>?_)
 ·have W : v = [] := RdO.nil_of (RdO.evo rfl g O) q
  have ao : ((app ([] : List Int) v).bind fun d=>some d) = some r := D
  have D : (some ([] : List Int)) = some r := by simpa [W,app,cut,capB] using ao
  refine rq_seq 8 aa (bz 1) [dv [] [] 2 (.slice none 0 0)] ad E ?_ ?_
  ·exact sO (or_assign rfl)<|steps_nil
  intro ar aH aL ah aP aC T J
  have C := gv (T [0] rfl) rfl
  have N := es_ g J
  refine fl_ret ?_
  refine Y _ _ _ rfl ?_
  obtain rfl := osome D
  exact t _ _ _ _ (.inl rfl) ah (results1_ rfl (RVal.tmp_ C)) ⟨ar,(none,0),rfl,N,RwO.nil_⟩
 refine fl_skip ?_
 refine X _ _ ?_
 obtain ⟨d,Z,D⟩ := obind D
 refine rp_seq 8 aa [27] [0,0,3,7] [⟨[],[],[],Fct.row 27 [] 5 5 R5 ([] : List Int)⟩,dv [] [0] 6 (sl i v o),⟨[0,1],[],[27],Fct.row 29 [] 7 5 R5 d⟩,⟨[2],[],[],Fct.rel [2,7] (fun l=>∀ (c : Option Addr) (b : Nat),l.getD 1 undef = sl c d b → l.getD 0 undef = sl c d b)⟩] ad E ?_ ?_
 ·refine sO (or_lit (lab := 27) (e := 5) (cs := #[]) (F := E5) (nw0) rfl rfl (show 0 ≤ maxLen by decide))<|sM z ?_
  refine sc (fun own a wx hf ap hE=>?_) ?_
  ·obtain ⟨⟨⟨aD,ay⟩,ai,y⟩,aj,-⟩ := hf
   exact px (or_append (R := R5) (lab := 27) (lab2 := 29) (L := []) (L3 := []) tp22 ai y (by decide) aj (RdO.evo rfl hE (RdO.evo rfl g O)) Z (by decide) (by decide) (mem_of rfl) (.inl (Rep.fl_flat _)))
  refine sc (fun own a wx hf ap hE=>?_) ?_
  ·obtain ⟨⟨⟨c,b⟩,(p : a.eval (.tmp 7) = sl c d b),ae⟩,-⟩ := hf
   exact px (or_mono (f := Fct.val 2 (sl c d b)) (or_assign p) (fun m a' w' v' hp h=>fun _ _ ak=>by cases (p.symm.trans ((hp.2 7 (by decide)).symm.trans ak)); exact h))
  exact steps_nil
 intro ab u aw ag aO aB S I
 obtain ⟨⟨⟨c,b⟩,(p : u.eval (.tmp 7) = sl c d b),(j : RwO ab 29 [] aw 5 R5 c b d)⟩,(au : ∀ (c : Option Addr) (b : Nat),u.eval (.tmp 7) = sl c d b → u.eval (.tmp 2) = sl c d b),-⟩ := S [2,3] rfl
 have B := au _ _ p
 have M := es_ g I
 refine fl_ret ?_
 obtain rfl := (osome D).symm
 exact t _ _ _ _ (.inl rfl) ag (results1_ rfl (RVal.tmp_ B)) ⟨(rl [(29,1)] ab),(c,b),rfl,(Evo.rl_ M (fun _=>Nat.le_refl 0) rfl),(RwO.rl_ j)⟩
theorem varint_Read_w (w : World) (m : List Int) (g : Option Addr) (p : Nat) (k : RdO (fun _=>0) [0] w R5 g p m) (r : Int × Int × Int) (c : varint_Read m = some r) :
  Calls Try.prog 61 #[sl g m p] w fun e w'=>∃ eu : Own,e = .returned (.tuple #[.int .u64 r.1,Zi r.2.1,Zi r.2.2]) ∧ Evo [] (fun _=>0) eu w w' := by
 refine fl_enter (n := 56) rfl rfl rfl (Nat.le_of_ble_eq_true rfl) ?_
 intro a0 Q d0 z0 bM v
 have eI := bM 0 _ rfl
 clear bM
 have eH : Evo [] (fun _=>0) (fun _=>0) w w := Evo.refl _ _ _
 refine rq_seq 56 (fun _=>0) (bz 3) [dv [] [] 2 (.int .u64 0),dv [] [] 3 (Zi 0),dv [] [] 4 (Zi 0)] z0 d0 ?_ ?_
 ·exact sO (or_assign rfl)<|sO (or_assign rfl)<|sO (or_assign rfl)<|steps_nil
 intro ec fc fB dT ev c5 eJ b8
 have aP := kt c5 eI
 have cx := es_ eH b8
 refine fl_scope (S := (Int × Int)) (body := (fun s=>varint_Read_b1_0 m s.1 s.2)) (z := r) (fun _=>0) ?_ (fun s a wx=>((fun (s : Int × Int)=>match s with | (j,b)=>∃ (ox : Own),a.defers = [] ∧ a.tmps.size = 56 ∧ a.eval (.tmp 0) = sl g m p ∧ a.eval (.tmp 5) = .int .u64 j ∧ a.eval (.tmp 6) = Zi b ∧ Evo [] (fun _=>0) ox w wx) : ((Int × Int)) → Prop) s) ?_ ?_
 ·intro s; rfl
 ·intro eY c3 aK
  refine rq_seq 56 ec (bz 1) [dv [] [] 5 (.int .u64 0)] ev dT ?_ ?_
  ·exact sO (or_assign rfl)<|steps_nil
  intro el fq fP d3 ez de cU cm
  have bj := kt de aP
  have bk := gv (cU [0] rfl) rfl
  have cE := es_ cx cm
  refine rq_seq 56 el (bz 1) [dv [] [] 6 (Zi 0)] ez d3 ?_ ?_
  ·exact sO (or_assign rfl)<|steps_nil
  intro em fr fQ d4 eA df cV cn
  obtain ⟨bl,bm⟩ := kt2 df bj bk
  have an := gv (cV [0] rfl) rfl
  have cF := es_ cE cn
  refine fl_seq (fun e6 du eS=>?_)
  refine fl_label ?_
  refine du _ _ ?_
  refine fl_seq (fun e7 dw eT=>?_)
  refine rq_seq 56 em (bz 2) [dv [] [6] 7 (Zi 0),dv [0] [] 8 (.bool false)] eA d4 ?_ ?_
  ·exact sM an<|sF (fun f=>or_eql f.1 rfl (by decide))<|steps_nil
  intro en fs fR d5 eB dg cW co
  obtain ⟨ao,bn,ap⟩ := kt3 dg bl bm an
  have bo := gv (cW [1] rfl) rfl
  have cG := es_ cF co
  refine fl_f bo ?_
  refine fl_skip ?_
  refine dw _ _ ?_
  refine fl_seq (fun e8 dx dE=>?_)
  refine rq_seq 56 en [0,0,2,7] [dv [] [6] 9 (Zi 0),dv [] [0] 10 (sl g m p),dv [1] [] 11 (Zi (m.length : Int)),dv [0,2] [] 12 (.bool (decide (0 = (m.length : Int))))] eB d5 ?_ ?_
  ·exact sM ap<|sM ao<|sF (fun f=>or_len tu22 f.1 rfl)<|sF (fun f=>or_eql f.1 f.2.1 rfl)<|steps_nil
  intro bS ft fS bK b6 dh cX cp
  obtain ⟨aq,bp,E⟩ := kt3 dh ao bn ap
  have aD := gv (cX [3] rfl) rfl
  have K := es_ cG cp
  refine fl_cond aD c (fun dR c=>?_) (fun dR c=>?_)
  ·refine rq_seq 56 bS (bz 3) [dv [] [] 2 (.int .u64 0),dv [] [] 3 (Zi 0),dv [] [] 4 (Zi 4)] b6 bK ?_ ?_
   ·exact sO (or_assign rfl)<|sO (or_assign rfl)<|sO (or_assign rfl)<|steps_nil
   intro eo fu fT d6 f5 eP W cq
   have bq := gv (W [0] rfl) rfl
   have br := gv (W [1] rfl) rfl
   have bs := gv (W [2] rfl) rfl
   have cH := es_ K cq
   refine fl_ret ?_
   refine dE _ _ _ rfl ?_
   refine aK.leaves _ _ _ rfl ?_
   obtain rfl := osome c
   exact v _ _ _ _ (.inl rfl) d6 (results3_ rfl (RVal.tmp_ bq) (RVal.tmp_ br) (RVal.tmp_ bs)) ⟨eo,rfl,cH⟩
  refine fl_skip ?_
  refine dx _ _ ?_
  obtain ⟨aO,ae,c⟩ := obind c
  obtain ⟨A,dK,c⟩ := obind c
  refine rq_seq 56 bS [0,0,0,6,14,30,62,0,128,510,1023,2047] [dv [] [5] 13 (.int .u64 0),dv [] [0] 14 (sl g m p),dv [] [6] 15 (Zi 0),dv [1,2] [] 16 (.pointer (some ((adr g).add ((0 : Int).toNat * R5.s)))),dv [3] [] 17 (.int .u8 aO),dv [4] [] 18 (.int .u8 (anK .u8 aO 127)),dv [5] [] 19 (.int .u64 (IntKind.u64.wrap (anK .u8 aO 127))),dv [] [6] 20 (Zi 0),dv [7] [] 21 (Zi 0),dv [6,8] [] 22 (.int .u64 A),dv [0,9] [] 23 (.int .u64 (orK .u64 0 A)),dv [10] [] 5 (.int .u64 (orK .u64 0 A))] b6 bK ?_ ?_
  ·exact sM bp<|sM aq<|sM E<|sF (fun f=>or_index (R := R5) (l := m) tl22 f.1 f.2.1 (RdO.some_ (RdO.evo rfl K k) ae) ae)<|sFE (fun f q=>or_load1 to5 f.1 (CellsAt.zero (RdO.cells (F := E5) (RdO.evo rfl q (RdO.evo rfl K k)) ae) rfl))<|sF (fun f=>or_band f.1 rfl rfl)<|sF (fun f=>or_conv f.1 tn5 tn26 rfl)<|sM E<|sF (fun f=>or_mul rfl f.1 (by decide))<|sF (fun f=>or_shl f.1 f.2.1 dK)<|sF (fun f=>or_bor f.1 f.2.1 rfl)<|sA<|steps_nil
  intro ep fv fU d7 eC di cY cr
  obtain ⟨bt,bv⟩ := kt2 di aq E
  have bu := gv (cY [11] rfl) rfl
  have cI := es_ K cr
  refine rq_seq 56 ep (bz 3) [dv [] [6] 24 (Zi 0),dv [0] [] 25 (Zi 1),dv [1] [] 6 (Zi 1)] eC d7 ?_ ?_
  ·exact sM bv<|sF (fun f=>or_add f.1 rfl (by decide))<|sA<|steps_nil
  intro eq fw fV d8 eD dj cZ cs
  obtain ⟨ar,bw⟩ := kt2 dj bt bu
  have au := gv (cZ [2] rfl) rfl
  have N := es_ cI cs
  refine fl_seq (fun e9 dy dF=>?_)
  obtain ⟨bZ,af,c⟩ := obind c
  refine rq_seq 56 eq [0,0,2,7,15,31] [dv [] [0] 26 (sl g m p),dv [] [6] 27 (Zi 1),dv [1] [] 28 (Zi 0),dv [0,2] [] 29 (.pointer (some ((adr g).add ((0 : Int).toNat * R5.s)))),dv [3] [] 30 (.int .u8 bZ),dv [4] [] 31 (.bool (decide (128 ≤ bZ)))] eD d8 ?_ ?_
  ·exact sM ar<|sM au<|sF (fun f=>or_sub f.1 rfl (by decide))<|sF (fun f=>or_index (R := R5) (l := m) tl22 f.1 f.2.1 (RdO.some_ (RdO.evo rfl N k) af) af)<|sFE (fun f q=>or_load1 to5 f.1 (CellsAt.zero (RdO.cells (F := E5) (RdO.evo rfl q (RdO.evo rfl N k)) af) rfl))<|sF (fun f=>or_geq f.1 rfl rfl)<|steps_nil
  intro bT fx fW bL b7 dk c0 ct
  obtain ⟨av,aw,G⟩ := kt3 dk ar bw au
  have aE := gv (c0 [5] rfl) rfl
  have aJ := es_ N ct
  refine fl_cond aE c (fun dS c=>?_) (fun dS c=>?_)
  ·refine fl_goto ?_
   refine dF _ _ _ rfl ?_
   exact c3 (orK .u64 0 A,1) _ _ (show loopO _ _ = _ from c) ⟨bT,bL,b7,av,aw,G,aJ⟩
  refine fl_skip ?_
  refine dy _ _ ?_
  refine fl_seq (fun fa dz eU=>?_)
  refine fl_block (fun fb dA eX eV=>?_)
  refine rq_seq 56 bT [0,1,3,7,7,23,63,127,255,511,1023] [dv [] [6] 33 (Zi 1),dv [0] [] 34 (.bool false),dv [1] [] 35 (.bool false),dc [2] [] false 36 (.slice none 0 0),dc [2] [] false 37 (Zi 0),dc [2] [] false 38 (Zi 0),dc [2] [] false 39 (.pointer none),dc [2] [] false 40 (.int .u8 0),dc [2] [] false 41 (.bool false),dv [2,8] [] 42 (.bool false),dv [9] [] 32 (.bool false)] b7 bL ?_ ?_
  ·refine sM G<|sF (fun f=>or_eql f.1 rfl (by decide))<|sV ?_
   refine sc (fun own a wx t x q=>?_) ?_
   ·obtain ⟨h,-⟩ := t
    refine sg_t rfl rfl rfl h (fun d=>?_)
    exact absurd d (by simp)
   refine sc (fun own a wx t x q=>?_) ?_
   ·obtain ⟨h,-⟩ := t
    refine sg_t rfl rfl rfl h (fun d=>?_)
    exact absurd d (by simp)
   refine sc (fun own a wx t x q=>?_) ?_
   ·obtain ⟨h,-⟩ := t
    refine sg_t rfl rfl rfl h (fun d=>?_)
    exact absurd d (by simp)
   refine sc (fun own a wx t x q=>?_) ?_
   ·obtain ⟨h,-⟩ := t
    refine sg_t rfl rfl rfl h (fun d=>?_)
    exact absurd d (by simp)
   refine sc (fun own a wx t x q=>?_) ?_
   ·obtain ⟨h,-⟩ := t
    refine sg_t rfl rfl rfl h (fun d=>?_)
    exact absurd d (by simp)
   refine sc (fun own a wx t x q=>?_) ?_
   ·obtain ⟨h,-⟩ := t
    refine sg_t rfl rfl rfl h (fun d=>?_)
    exact absurd d (by simp)
   exact sF (fun f=>or_and f.1 (fun hx=>f.2.1.1 hx) rfl rfl)<|sA<|steps_nil
  intro er fy fX d9 eE dl c1 cu
  obtain ⟨eG,bx,ax⟩ := kt3 dl av aw G
  have aF := gv (c1 [10] rfl) rfl
  have cJ := es_ aJ cu
  refine fl_f aF ?_
  refine rq_seq 56 er [0,1,3,7,7,23,63,127,255,511,1023] [dv [] [6] 44 (Zi 1),dv [0] [] 45 (.bool false),dv [1] [] 46 (.bool false),dc [2] [] false 47 (.slice none 0 0),dc [2] [] false 48 (Zi 0),dc [2] [] false 49 (Zi 0),dc [2] [] false 50 (.pointer none),dc [2] [] false 51 (.int .u8 0),dc [2] [] false 52 (.bool false),dv [2,8] [] 53 (.bool false),dv [9] [] 43 (.bool false)] eE d9 ?_ ?_
  ·refine sM ax<|sF (fun f=>or_gtr f.1 rfl (by decide))<|sV ?_
   refine sc (fun own a wx t x q=>?_) ?_
   ·obtain ⟨i,-⟩ := t
    refine sg_t rfl rfl rfl i (fun d=>?_)
    exact absurd d (by simp)
   refine sc (fun own a wx t x q=>?_) ?_
   ·obtain ⟨i,-⟩ := t
    refine sg_t rfl rfl rfl i (fun d=>?_)
    exact absurd d (by simp)
   refine sc (fun own a wx t x q=>?_) ?_
   ·obtain ⟨i,-⟩ := t
    refine sg_t rfl rfl rfl i (fun d=>?_)
    exact absurd d (by simp)
   refine sc (fun own a wx t x q=>?_) ?_
   ·obtain ⟨i,-⟩ := t
    refine sg_t rfl rfl rfl i (fun d=>?_)
    exact absurd d (by simp)
   refine sc (fun own a wx t x q=>?_) ?_
   ·obtain ⟨i,-⟩ := t
    refine sg_t rfl rfl rfl i (fun d=>?_)
    exact absurd d (by simp)
   refine sc (fun own a wx t x q=>?_) ?_
   ·obtain ⟨i,-⟩ := t
    refine sg_t rfl rfl rfl i (fun d=>?_)
    exact absurd d (by simp)
   exact sF (fun f=>or_and f.1 (fun hx=>f.2.1.1 hx) rfl rfl)<|sA<|steps_nil
  intro es fz fY ea eF dm c2 cv
  obtain ⟨bA,bB⟩ := kt2 dm bx ax
  have aG := gv (c2 [10] rfl) rfl
  have cK := es_ cJ cv
  refine fl_f aG ?_
  refine fl_skip ?_
  refine dA _ _ ?_
  refine dz _ _ ?_
  refine rq_seq 56 es [0,0,1,7,15] [dv [] [5] 54 (.int .u64 (orK .u64 0 A)),dv [] [6] 55 (Zi 1),dv [0] [] 2 (.int .u64 (orK .u64 0 A)),dv [1] [] 3 (Zi 1),dv [] [] 4 (Zi 0)] eF ea ?_ ?_
  ·exact sM bA<|sM bB<|sA<|sA<|sO (or_assign rfl)<|steps_nil
  intro et fA fZ eb f6 eQ X cw
  have bC := gv (X [2] rfl) rfl
  have bD := gv (X [3] rfl) rfl
  have bE := gv (X [4] rfl) rfl
  have cL := es_ cK cw
  refine fl_ret ?_
  refine aK.leaves _ _ _ rfl ?_
  obtain rfl := osome c
  exact v _ _ _ _ (.inl rfl) eb (results3_ rfl (RVal.tmp_ bC) (RVal.tmp_ bD) (RVal.tmp_ bE)) ⟨et,rfl,cL⟩
 ·rintro ⟨j,b⟩
  rintro dL fd fC ⟨ed,dU,ew,aQ,aR,ag,b9⟩ c eZ c4 u L
  have c : varint_Read_b1_0 m j b = some dL := c
  conv=>arg 4; whnf
  refine fl_seq (fun e0 dn eR=>?_)
  refine fl_skip ?_
  refine dn _ _ ?_
  refine fl_seq (fun e1 dp dB=>?_)
  refine rq_seq 56 ed (bz 2) [dv [] [6] 7 (Zi b),dv [0] [] 8 (.bool (decide (b = 10)))] ew dU ?_ ?_
  ·exact sM ag<|sF (fun f=>or_eql f.1 rfl rfl)<|steps_nil
  intro bN fe fD bF b0 c6 cM ca
  obtain ⟨ah,aS,ai⟩ := kt3 c6 aQ aR ag
  have aT := gv (cM [1] rfl) rfl
  have aH := es_ b9 ca
  refine fl_cond aT c (fun dM c=>?_) (fun dM c=>?_)
  ·refine rq_seq 56 bN (bz 3) [dv [] [] 2 (.int .u64 0),dv [] [] 3 (Zi 0),dv [] [] 4 (Zi 5)] b0 bF ?_ ?_
   ·exact sO (or_assign rfl)<|sO (or_assign rfl)<|sO (or_assign rfl)<|steps_nil
   intro ee ff fE dV f0 eK O cb
   have aU := gv (O [0] rfl) rfl
   have aV := gv (O [1] rfl) rfl
   have aW := gv (O [2] rfl) rfl
   have cy := es_ aH cb
   refine fl_ret ?_
   refine dB _ _ _ rfl ?_
   replace c := L _ c
   refine u.leaves _ _ _ rfl ?_
   obtain rfl := osome c
   exact v _ _ _ _ (.inl rfl) dV (results3_ rfl (RVal.tmp_ aU) (RVal.tmp_ aV) (RVal.tmp_ aW)) ⟨ee,rfl,cy⟩
  refine fl_skip ?_
  refine dp _ _ ?_
  refine fl_seq (fun e2 dq dC=>?_)
  refine rq_seq 56 bN [0,0,2,7] [dv [] [6] 9 (Zi b),dv [] [0] 10 (sl g m p),dv [1] [] 11 (Zi (m.length : Int)),dv [0,2] [] 12 (.bool (decide (b = (m.length : Int))))] b0 bF ?_ ?_
  ·exact sM ai<|sM ah<|sF (fun f=>or_len tu22 f.1 rfl)<|sF (fun f=>or_eql f.1 f.2.1 rfl)<|steps_nil
  intro bO fg fF bG b2 c7 cN cc
  obtain ⟨aj,aX,B⟩ := kt3 c7 ah aS ai
  have az := gv (cN [3] rfl) rfl
  have H := es_ aH cc
  refine fl_cond az c (fun dN c=>?_) (fun dN c=>?_)
  ·refine rq_seq 56 bO (bz 3) [dv [] [] 2 (.int .u64 0),dv [] [] 3 (Zi 0),dv [] [] 4 (Zi 4)] b2 bG ?_ ?_
   ·exact sO (or_assign rfl)<|sO (or_assign rfl)<|sO (or_assign rfl)<|steps_nil
   intro ef fh fG dW f1 eL P cd
   have aY := gv (P [0] rfl) rfl
   have aZ := gv (P [1] rfl) rfl
   have a1 := gv (P [2] rfl) rfl
   have cz := es_ H cd
   refine fl_ret ?_
   refine dC _ _ _ rfl ?_
   replace c := L _ c
   refine u.leaves _ _ _ rfl ?_
   obtain rfl := osome c
   exact v _ _ _ _ (.inl rfl) dW (results3_ rfl (RVal.tmp_ aY) (RVal.tmp_ aZ) (RVal.tmp_ a1)) ⟨ef,rfl,cz⟩
  refine fl_skip ?_
  refine dq _ _ ?_
  obtain ⟨aN,Y,c⟩ := obind c
  obtain ⟨y,dH,c⟩ := obind c
  refine rq_seq 56 bO [0,0,0,6,14,30,62,0,128,510,1023,2047] [dv [] [5] 13 (.int .u64 j),dv [] [0] 14 (sl g m p),dv [] [6] 15 (Zi b),dv [1,2] [] 16 (.pointer (some ((adr g).add ((b : Int).toNat * R5.s)))),dv [3] [] 17 (.int .u8 aN),dv [4] [] 18 (.int .u8 (anK .u8 aN 127)),dv [5] [] 19 (.int .u64 (IntKind.u64.wrap (anK .u8 aN 127))),dv [] [6] 20 (Zi b),dv [7] [] 21 (Zi (ml 7 b)),dv [6,8] [] 22 (.int .u64 y),dv [0,9] [] 23 (.int .u64 (orK .u64 j y)),dv [10] [] 5 (.int .u64 (orK .u64 j y))] b2 bG ?_ ?_
  ·exact sM aX<|sM aj<|sM B<|sF (fun f=>or_index (R := R5) (l := m) tl22 f.1 f.2.1 (RdO.some_ (RdO.evo rfl H k) Y) Y)<|sFE (fun f q=>or_load1 to5 f.1 (CellsAt.zero (RdO.cells (F := E5) (RdO.evo rfl q (RdO.evo rfl H k)) Y) rfl))<|sF (fun f=>or_band f.1 rfl rfl)<|sF (fun f=>or_conv f.1 tn5 tn26 rfl)<|sM B<|sF (fun f=>or_mul rfl f.1 rfl)<|sF (fun f=>or_shl f.1 f.2.1 dH)<|sF (fun f=>or_bor f.1 f.2.1 rfl)<|sA<|steps_nil
  intro eg fi fH dX ex c8 cO ce
  obtain ⟨a2,a4⟩ := kt2 c8 aj B
  have a3 := gv (cO [11] rfl) rfl
  have cA := es_ H ce
  refine rq_seq 56 eg (bz 3) [dv [] [6] 24 (Zi b),dv [0] [] 25 (Zi (ad b 1)),dv [1] [] 6 (Zi (ad b 1))] ex dX ?_ ?_
  ·exact sM a4<|sF (fun f=>or_add f.1 rfl rfl)<|sA<|steps_nil
  intro eh fj fI dY ey c9 cP cf
  obtain ⟨ak,a5⟩ := kt2 c9 a2 a3
  have al := gv (cP [2] rfl) rfl
  have M := es_ cA cf
  refine fl_seq (fun e3 dr dD=>?_)
  obtain ⟨bU,Z,c⟩ := obind c
  refine rq_seq 56 eh [0,0,2,7,15,31] [dv [] [0] 26 (sl g m p),dv [] [6] 27 (Zi (ad b 1)),dv [1] [] 28 (Zi (sb (ad b 1) 1)),dv [0,2] [] 29 (.pointer (some ((adr g).add ((sb (ad b 1) 1 : Int).toNat * R5.s)))),dv [3] [] 30 (.int .u8 bU),dv [4] [] 31 (.bool (decide (128 ≤ bU)))] ey dY ?_ ?_
  ·exact sM ak<|sM al<|sF (fun f=>or_sub f.1 rfl rfl)<|sF (fun f=>or_index (R := R5) (l := m) tl22 f.1 f.2.1 (RdO.some_ (RdO.evo rfl M k) Z) Z)<|sFE (fun f q=>or_load1 to5 f.1 (CellsAt.zero (RdO.cells (F := E5) (RdO.evo rfl q (RdO.evo rfl M k)) Z) rfl))<|sF (fun f=>or_geq f.1 rfl rfl)<|steps_nil
  intro bP fk fJ bH b3 da cQ cg
  obtain ⟨C,am,o⟩ := kt3 da ak a5 al
  have aA := gv (cQ [5] rfl) rfl
  have I := es_ M cg
  refine fl_cond aA c (fun dO c=>?_) (fun dO c=>?_)
  ·refine fl_goto ?_
   refine dD _ _ _ rfl ?_
   exact c4 (orK .u64 j y,ad b 1) _ _ c ⟨bP,bH,b3,C,am,o,I⟩
  refine fl_skip ?_
  refine dr _ _ ?_
  refine fl_seq (fun e4 ds aL=>?_)
  refine fl_block (fun e5 dt eW aM=>?_)
  obtain ⟨bV,aa,c⟩ := obind c
  obtain ⟨bW,dI,c⟩ := obind c
  refine rq_seq 56 bP [0,1,3,7,7,23,63,127,255,511,1023] [dv [] [6] 33 (Zi (ad b 1)),dv [0] [] 34 (.bool (decide ((ad b 1) = 10))),dv [1] [] 35 (.bool (decide ((ad b 1) = 10))),dc [2] [0] (decide ((ad b 1) = 10)) 36 (sl g m p),dc [2] [6] (decide ((ad b 1) = 10)) 37 (Zi (ad b 1)),dc [2,4] [] (decide ((ad b 1) = 10)) 38 (Zi (sb (ad b 1) 1)),dc [2,3,5] [] (decide ((ad b 1) = 10)) 39 (.pointer (some ((adr g).add ((sb (ad b 1) 1 : Int).toNat * R5.s)))),dc [2,6] [] (decide ((ad b 1) = 10)) 40 (.int .u8 bV),dc [2,7] [] (decide ((ad b 1) = 10)) 41 (.bool (decide (1 < bV))),dv [2,8] [] 42 (.bool bW),dv [9] [] 32 (.bool bW)] b3 bH ?_ ?_
  ·exact sM o<|sF (fun f=>or_eql f.1 rfl rfl)<|sV<|cT (fun _ s _ _=>or_move (s.1.trans C))<|cT (fun _ s _ _=>or_move (s.1.trans o))<|cT (fun f _ _ d=>or_sub (f.2.1.1 d) rfl rfl)<|cT (fun f _ _ d=>or_index (R := R5) (l := m) tl22 (f.2.1.1 d) (f.2.2.1.1 d) (RdO.some_ (RdO.evo rfl I k) (gd_t aa d)) (gd_t aa d))<|cT (fun f _ q d=>or_load1 to5 (f.2.1.1 d) (CellsAt.zero (RdO.cells (F := E5) (RdO.evo rfl q (RdO.evo rfl I k)) (gd_t aa d)) rfl))<|cT (fun f _ _ d=>or_gtr (f.2.1.1 d) rfl rfl)<|sF (fun f=>or_and f.1 (fun hx=>f.2.1.1 hx) rfl (osome dI).symm)<|sA<|steps_nil
  intro bQ fl fK bI b4 db cR ch
  obtain ⟨a6,a7,D⟩ := kt3 db C am o
  have aB := gv (cR [10] rfl) rfl
  have J := es_ I ch
  refine fl_cond aB c (fun dP c=>?_) (fun dP c=>?_)
  ·refine rq_seq 56 bQ (bz 3) [dv [] [] 2 (.int .u64 0),dv [] [] 3 (Zi 0),dv [] [] 4 (Zi 5)] b4 bI ?_ ?_
   ·exact sO (or_assign rfl)<|sO (or_assign rfl)<|sO (or_assign rfl)<|steps_nil
   intro ei fm fL dZ f2 eM T ci
   have a8 := gv (T [0] rfl) rfl
   have a9 := gv (T [1] rfl) rfl
   have ba := gv (T [2] rfl) rfl
   have cB := es_ J ci
   refine fl_ret ?_
   refine aM _ _ _ rfl ?_
   refine aL _ _ _ rfl ?_
   replace c := L _ c
   refine u.leaves _ _ _ rfl ?_
   obtain rfl := osome c
   exact v _ _ _ _ (.inl rfl) dZ (results3_ rfl (RVal.tmp_ a8) (RVal.tmp_ a9) (RVal.tmp_ ba)) ⟨ei,rfl,cB⟩
  obtain ⟨bX,ab,c⟩ := obind c
  obtain ⟨bY,dJ,c⟩ := obind c
  refine rq_seq 56 bQ [0,1,3,7,7,23,63,127,255,511,1023] [dv [] [6] 44 (Zi (ad b 1)),dv [0] [] 45 (.bool (decide (1 < (ad b 1)))),dv [1] [] 46 (.bool (decide (1 < (ad b 1)))),dc [2] [0] (decide (1 < (ad b 1))) 47 (sl g m p),dc [2] [6] (decide (1 < (ad b 1))) 48 (Zi (ad b 1)),dc [2,4] [] (decide (1 < (ad b 1))) 49 (Zi (sb (ad b 1) 1)),dc [2,3,5] [] (decide (1 < (ad b 1))) 50 (.pointer (some ((adr g).add ((sb (ad b 1) 1 : Int).toNat * R5.s)))),dc [2,6] [] (decide (1 < (ad b 1))) 51 (.int .u8 bX),dc [2,7] [] (decide (1 < (ad b 1))) 52 (.bool (decide (bX = 0))),dv [2,8] [] 53 (.bool bY),dv [9] [] 43 (.bool bY)] b4 bI ?_ ?_
  ·exact sM D<|sF (fun f=>or_gtr f.1 rfl rfl)<|sV<|cT (fun _ s _ _=>or_move (s.1.trans a6))<|cT (fun _ s _ _=>or_move (s.1.trans D))<|cT (fun f _ _ d=>or_sub (f.2.1.1 d) rfl rfl)<|cT (fun f _ _ d=>or_index (R := R5) (l := m) tl22 (f.2.1.1 d) (f.2.2.1.1 d) (RdO.some_ (RdO.evo rfl J k) (gd_t ab d)) (gd_t ab d))<|cT (fun f _ q d=>or_load1 to5 (f.2.1.1 d) (CellsAt.zero (RdO.cells (F := E5) (RdO.evo rfl q (RdO.evo rfl J k)) (gd_t ab d)) rfl))<|cT (fun f _ _ d=>or_eql (f.2.1.1 d) rfl rfl)<|sF (fun f=>or_and f.1 (fun hx=>f.2.1.1 hx) rfl (osome dJ).symm)<|sA<|steps_nil
  intro bR fn fM bJ b5 dd cS cj
  obtain ⟨bb,bc⟩ := kt2 dd a7 D
  have aC := gv (cS [10] rfl) rfl
  have aI := es_ J cj
  refine fl_cond aC c (fun dQ c=>?_) (fun dQ c=>?_)
  ·refine rq_seq 56 bR (bz 3) [dv [] [] 2 (.int .u64 0),dv [] [] 3 (Zi 0),dv [] [] 4 (Zi 3)] b5 bJ ?_ ?_
   ·exact sO (or_assign rfl)<|sO (or_assign rfl)<|sO (or_assign rfl)<|steps_nil
   intro ej fo fN d1 f3 eN U ck
   have bd := gv (U [0] rfl) rfl
   have be := gv (U [1] rfl) rfl
   have bf := gv (U [2] rfl) rfl
   have cC := es_ aI ck
   refine fl_ret ?_
   refine aM _ _ _ rfl ?_
   refine aL _ _ _ rfl ?_
   replace c := L _ c
   refine u.leaves _ _ _ rfl ?_
   obtain rfl := osome c
   exact v _ _ _ _ (.inl rfl) d1 (results3_ rfl (RVal.tmp_ bd) (RVal.tmp_ be) (RVal.tmp_ bf)) ⟨ej,rfl,cC⟩
  refine fl_skip ?_
  refine dt _ _ ?_
  refine ds _ _ ?_
  refine rq_seq 56 bR [0,0,1,7,15] [dv [] [5] 54 (.int .u64 (orK .u64 j y)),dv [] [6] 55 (Zi (ad b 1)),dv [0] [] 2 (.int .u64 (orK .u64 j y)),dv [1] [] 3 (Zi (ad b 1)),dv [] [] 4 (Zi 0)] b5 bJ ?_ ?_
  ·exact sM bb<|sM bc<|sA<|sA<|sO (or_assign rfl)<|steps_nil
  intro ek fp fO d2 f4 eO V cl
  have bg := gv (V [2] rfl) rfl
  have bh := gv (V [3] rfl) rfl
  have bi := gv (V [4] rfl) rfl
  have cD := es_ aI cl
  refine fl_ret ?_
  replace c := L _ c
  refine u.leaves _ _ _ rfl ?_
  obtain rfl := osome c
  exact v _ _ _ _ (.inl rfl) d2 (results3_ rfl (RVal.tmp_ bg) (RVal.tmp_ bh) (RVal.tmp_ bi)) ⟨ek,rfl,cD⟩
theorem pack_reader_number_w (w : World) (own : Own) (t : (List Int) × Int) (g : Nat) (u : TypeId) (c : Option Addr) (d : Nat) (k : ∀ b,own b ≤ 2) (aW : BlkO own 1 w g u #[sl c t.1 d,Zi t.2]) (m : RdO own [2] w R5 c d t.1) (r : Int × ((List Int) × Int)) (D : pack_reader_number t = some r) :
  Calls Try.prog 50 #[pt g 0] w fun e w'=>∃ (z : Own) (x : Option Addr × Nat),e = .returned (.int .u64 r.1) ∧ Evo [1] own z w w' ∧ RdO z [2] w' R5 x.1 x.2 r.2.1 ∧ BlkO z 1 w' g u #[.slice x.1 r.2.1.length x.2,Zi r.2.2] := by
 refine fl_enter (n := 36) rfl rfl rfl (Nat.le_of_ble_eq_true rfl) ?_
 intro a0 Q d0 z0 ai V
 have bB := ai 0 _ rfl
 clear ai
 have bA : Evo [1] own own w w := Evo.refl _ _ _
 refine rq_seq 36 own (bz 1) [dv [] [] 2 (.int .u64 0)] z0 d0 ?_ ?_
 ·exact sO (or_assign rfl)<|steps_nil
 intro bD bT b3 bo bK aX bP Z
 have N := kt aX bB
 have aJ := Evo.step bA k Z rfl
 have v := be_ Z aW
 refine fl_seq (fun bQ a7 a9=>?_)
 refine rq_seq 36 bD (bz 5) [dv [] [0] 6 (pt g 0),dv [0] [] 7 (pt g 0),dv [1] [] 8 (pt g 1),dv [2] [] 9 (Zi t.2),dv [3] [] 10 (.bool (!decide (t.2 = 0)))] bK bo ?_ ?_
 ·exact sM N<|sF (fun f=>ok1 f.1)<|sF (fun f=>or_field fo70_1 f.1 (by rfl))<|sG to31 v<|sF (fun f=>or_neq f.1 rfl rfl)<|steps_nil
 intro be bU b4 aB bj aY aP aa
 have B := kt aY N
 have X := gv (aP [4] rfl) rfl
 have S := Evo.step aJ k aa rfl
 have p := be_ aa v
 refine fl_cond X D (fun bm D=>?_) (fun bm D=>?_)
 ·refine rq_seq 36 be (bz 1) [dv [] [] 2 (.int .u64 0)] bj aB ?_ ?_
  ·exact sO (or_assign rfl)<|steps_nil
  intro bE bV b5 bp cb aZ aQ ab
  have bv := kt aZ B
  have aj := gv (aQ [0] rfl) rfl
  have ag := Evo.step S k ab rfl
  have E := be_ ab p
  refine fl_ret ?_
  refine a9 _ _ _ rfl ?_
  obtain rfl := osome D
  exact V _ _ _ _ (.inl rfl) bp (results1_ rfl (RVal.tmp_ aj)) ⟨bE,(c,d),rfl,ag,(RdO.evo rfl ag m),E⟩
 refine fl_skip ?_
 refine a7 _ _ ?_
 obtain ⟨i,bb,D⟩ := obind D
 refine rq_seq 36 be [0,1,3,7,15,31,63,63,63,127,767,2047] [dv [] [0] 12 (pt g 0),dv [0] [] 13 (pt g 0),dv [1] [] 14 (pt g 0),dv [2] [] 15 (sl c t.1 d),dv [3] [] 16 (.tuple #[.int .u64 i.1,Zi i.2.1,Zi i.2.2]),dv [4] [] 11 (.tuple #[.int .u64 i.1,Zi i.2.1,Zi i.2.2]),dv [5] [] 17 (.int .u64 i.1),dv [5] [] 18 (Zi i.2.1),dv [5] [] 19 (Zi i.2.2),dv [6] [] 3 (.int .u64 i.1),dv [7] [] 4 (Zi i.2.1),dv [8] [] 5 (Zi i.2.2)] bj aB ?_ ?_
 ·exact sM B<|sF (fun f=>ok1 f.1)<|sF (fun f=>or_field fo70_0 f.1 (by rfl))<|sG to22 p<|sFE (fun f hE=>or_call cf61 (args1 f.1) (varint_Read_w _ t.1 c d (RdO.zero (RdO.evo rfl hE (RdO.evo rfl S m))) i bb) post_val)<|sV<|sF (fun f=>ok1 f.1)<|sF (fun f=>ok1 f.1)<|sF (fun f=>ok1 f.1)<|sA<|sA<|sA<|steps_nil
 intro bF bW b6 bq bL a1 U ad
 have ak := kt a1 B
 have al := gv (U [9] rfl) rfl
 have am := gv (U [10] rfl) rfl
 have O := gv (U [11] rfl) rfl
 have aK := Evo.step S k ad rfl
 have F := be_ ad p
 refine fl_seq (fun bR a8 ba=>?_)
 refine rq_seq 36 bF (bz 2) [dv [] [5] 20 (Zi i.2.2),dv [0] [] 21 (.bool (!decide (i.2.2 = 0)))] bL bq ?_ ?_
 ·exact sM O<|sF (fun f=>or_neq f.1 rfl rfl)<|steps_nil
 intro bf bX b7 aC bk a2 aR ae
 obtain ⟨s,an,ao,ap⟩ := kt4 a2 ak al am O
 have Y := gv (aR [1] rfl) rfl
 have T := Evo.step aK k ae rfl
 have y := be_ ae F
 refine fl_cond Y D (fun bn D=>?_) (fun bn D=>?_)
 ·refine rr_seq 36 [Fct.at_ 1 g u #[sl c t.1 d,Zi t.2]] bf [1] [0,0,3,7,15] [dv [] [0] 22 (pt g 0),dv [] [5] 23 (Zi i.2.2),dv [0] [] 24 (pt g 0),dv [2] [] 25 (pt g 1),⟨[3,1,5],[],[1],Fct.at_ 43 g u #[sl c t.1 d,Zi i.2.2]⟩] bk aC (fm1 y) ?_ ?_
  ·refine sM s<|sM ap<|sF (fun f=>ok1 f.1)<|sF (fun f=>or_field fo70_1 f.1 (by rfl)) ?_
   refine sc (fun own a wx hf bc hE=>?_) ?_
   ·obtain ⟨aE,aD,q,-⟩ := hf
    exact px (or_store1 (lab := 1) (lab2 := 43) ts31 aE aD q (by simp) rfl (mem_of rfl) (by decide) rfl (fun z a' w' ha hb=>hb))
   exact steps_nil
  intro bg bY bI br bM a3 aS aH
  have aq := kt a3 s
  obtain ⟨(G : BlkO bg 43 bI g u #[sl c t.1 d,Zi i.2.2]),-⟩ := aS [4] rfl
  have aL := Evo.step T k aH rfl
  refine rq_seq 36 bg (bz 1) [dv [] [] 2 (.int .u64 0)] bM br ?_ ?_
  ·exact sO (or_assign rfl)<|steps_nil
  intro bG bZ b8 bs cc a4 aT af
  have bw := kt a4 aq
  have ar := gv (aT [0] rfl) rfl
  have ah := Evo.step aL k af rfl
  have H := be_ af G
  refine fl_ret ?_
  refine ba _ _ _ rfl ?_
  obtain rfl := osome D
  exact V _ _ _ _ (.inl rfl) bs (results1_ rfl (RVal.tmp_ ar)) ⟨(rl [(43,1)] bG),(c,d),rfl,(Evo.rl_ ah k rfl),(RdO.rl_ (RdO.evo rfl ah m)),(BlkO.rl_ H)⟩
 refine fl_skip ?_
 refine a8 _ _ ?_
 obtain ⟨A,bd,D⟩ := obind D
 refine rr_seq 36 [Fct.at_ 1 g u #[sl c t.1 d,Zi t.2]] bf [1] [0,0,2,6,14,0,62,127,255,511] [dv [] [0] 26 (pt g 0),dv [] [0] 27 (pt g 0),dv [1] [] 28 (pt g 0),dv [2] [] 29 (pt g 0),dv [3,10] [] 30 (sl c t.1 d),dv [] [4] 31 (Zi i.2.1),⟨[4,5],[],[],Fct.view [2] 32 R5 A⟩,dv [0] [] 33 (pt g 0),dv [7] [] 34 (pt g 0),⟨[8,6,10],[],[1],Fct.by_ [50] [32] (fun l own w=>∀ (o : Option Addr) (j : Nat),l.getD 0 undef = sl o A j → BlkO own 50 w g u #[sl o A j,Zi t.2]) (fun hk he h _ _ ax=>BlkO.evo (not_hit hk (by decide)) he (h _ _ ax))⟩] bk aC (fm1 y) ?_ ?_
 ·refine sM s<|sM s<|sF (fun f=>ok1 f.1)<|sF (fun f=>or_field fo70_0 f.1 (by rfl)) ?_
  refine sc (fun own a wx hf bc hE=>?_) ?_
  ·obtain ⟨aF,(q : BlkO own 1 wx g u #[sl c t.1 d,Zi t.2]),-⟩ := hf
   exact px (ld1 to22 aF q)
  refine sM ao<|sFE (fun f hE=>or_view (R := R5) (l := t.1) (L := [2]) tu22 ts5 f.1 (Bnd.some_ f.2.1) Bnd.none_ Bnd.none_ (RdO.evo rfl hE (RdO.evo rfl T m)) bd (.inl rfl) (by simp))<|sF (fun f=>ok1 f.1)<|sF (fun f=>or_field fo70_0 f.1 (by rfl)) ?_
  refine sc (fun own a wx hf bc hE=>?_) ?_
  ·obtain ⟨aG,⟨⟨o,j⟩,(C : a.eval (.tmp 32) = sl o A j),bl⟩,q,-⟩ := hf
   exact px (or_store1 (lab := 1) (lab2 := 50) ts22 aG C q (by simp) rfl (mem_of rfl) (by decide) rfl (fun z a' w' ha hb=>fun _ _ ax=>by cases (C.symm.trans ((ha 32).symm.trans ax)); exact hb))
  exact steps_nil
 intro ay aA bi bt bN a5 aU aI
 obtain ⟨au,av⟩ := kt2 a5 s an
 obtain ⟨⟨⟨o,j⟩,(C : aA.eval (.tmp 32) = sl o A j),(I : RdO ay [2] bi R5 o j A)⟩,(W : ∀ (o : Option Addr) (j : Nat),aA.eval (.tmp 32) = sl o A j → BlkO ay 50 bi g u #[sl o A j,Zi t.2]),-⟩ := aU [6,9] rfl
 have J := W _ _ C
 have aM := Evo.step T k aI rfl
 refine rq_seq 36 ay (bz 2) [dv [] [3] 35 (.int .u64 i.1),dv [0] [] 2 (.int .u64 i.1)] bN bt ?_ ?_
 ·exact sM av<|sA<|steps_nil
 intro bH b0 b9 bu cd a6 aV P
 have bx := kt a6 au
 have aw := gv (aV [1] rfl) rfl
 have aN := Evo.step aM k P rfl
 have M := be_ P J
 have K := RdO.evo rfl P I
 refine fl_ret ?_
 obtain rfl := osome D
 exact V _ _ _ _ (.inl rfl) bu (results1_ rfl (RVal.tmp_ aw)) ⟨(rl [(50,1)] bH),(o,j),rfl,(Evo.rl_ aN k rfl),(RdO.rl_ K),(BlkO.rl_ M)⟩
end Go.Proofs.Ytnmkonlfnpcoiaa
