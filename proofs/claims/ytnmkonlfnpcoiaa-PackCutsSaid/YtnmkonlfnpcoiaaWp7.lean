import Derived.Test.YtnmkonlfnpcoiaaWp6
import Derived.Test.YtnmkonlfnpcoiaaSp7
namespace Go.Proofs.Ytnmkonlfnpcoiaa
open Go.RowKit
set_option linter.unusedVariables false
set_option maxRecDepth 10000
theorem law27_Cut_w (w : World) (own : Own) (l1 : List ((Int × Int × Int) × (List Int))) (Al1 : Option Addr) (cl1 : Nat) (hown : ∀ b, own b ≤ 1) (hl1 : RdO own [1] w R30 Al1 cl1 l1) (r : List ((Int × Int × Int) × (List Int))) (hs : law27_Cut l1 = some r) :
  Calls Try.prog 8 #[sl Al1 l1 cl1] w fun e w' => ∃ (own' : Own) (x : Option Addr × Nat), e = .returned (.slice x.1 r.length x.2) ∧ Evo [] own own' w w' ∧ RwO own' 2 [1, 3] w' 30 R30 x.1 x.2 r := by
 refine fl_enter (n := 33) rfl rfl rfl (Nat.le_of_ble_eq_true rfl) ?_
 intro a0 Q d0 z0 harg hret
 have ha0 := harg 0 _ rfl
 clear harg
 have hE0 : Evo [] own own w w := Evo.refl _ _ _
 refine rq_seq 33 own (bz 1) [dv [] [] 2 (.slice none 0 0)] z0 d0 ?_ ?_
 ·exact sO (or_assign rfl) <| steps_nil
 intro o107 a107 w107 d107 z107 hk107 hf107 hE107
 have e107_0 := kt hk107 ha0
 have hX107 := Evo.step hE0 hown hE107 rfl
 refine rq_seq 33 o107 (bz 1) [dv [] [] 3 (.slice none 0 0)] z107 d107 ?_ ?_
 ·exact sO (or_assign rfl) <| steps_nil
 intro o108 a108 w108 d108 z108 hk108 hf108 hE108
 have e108_0 := kt hk108 e107_0
 have e108_3 := gv (hf108 [0] rfl) rfl
 have hX108 := Evo.step hX107 hown hE108 rfl
 refine fl_seq (fun Q109 hn109 hp109 => ?_)
 refine rq_seq 33 o108 (bz 1) [dv [] [] 4 (Zi 0)] z108 d108 ?_ ?_
 ·exact sO (or_assign rfl) <| steps_nil
 intro o110 a110 w110 d110 z110 hk110 hf110 hE110
 obtain ⟨e110_0, e110_3⟩ := kt2 hk110 e108_0 e108_3
 have e110_4 := gv (hf110 [0] rfl) rfl
 have hX110 := Evo.step hX108 hown hE110 rfl
 refine fl_block (fun Q111 hn111 hx111 hp111 => ?_)
 refine fl_loop (body := (fun s => law27_Cut_b1 l1 s.1 s.2)) (z := r) (show loopO _ _ = _ from hs) (fun (s : (List ((Int × Int × Int) × (List Int))) × Int) a wx => match s with | (out140, i143) => ∃ (ox : Own) (A138 : Option Addr) (c139 : Nat), a.defers = [] ∧ a.tmps.size = 33 ∧ a.eval (.tmp 0) = sl Al1 l1 cl1 ∧ a.eval (.tmp 3) = sl A138 out140 c139 ∧ a.eval (.tmp 4) = Zi i143 ∧ Evo [] own ox w wx ∧ RwO ox 141 [1, 142] wx 30 R30 A138 c139 out140) ?_ ?_
 ·exact ⟨o110, none, 0, d110, z110, e110_0, e110_3, e110_4, hX110, RwO.nil_⟩
 ·rintro ⟨out140, i143⟩ zz172 a172 w172 ⟨o172, A138, c139, d173, z173, e173_0, e173_3, e173_4, hE173, b173_A138⟩ hs Q172 hn172 hp172 z172
  have hs : law27_Cut_b1 l1 out140 i143 = some zz172 := hs
  refine fl_seq (fun Q174 hn174 hp174 => ?_)
  obtain ⟨x175, hx175, hs⟩ := obind hs
  refine rq_seq 33 o172 [0, 0, 2, 7, 15, 31, 63, 127] [dv [] [4] 6 (Zi i143), dv [] [0] 7 (sl Al1 l1 cl1), dv [1] [] 8 (Zi (l1.length : Int)), dv [0, 2] [] 9 (.bool (decide (i143 < (l1.length : Int)))), dv [3] [] 10 (.bool (decide (i143 < (l1.length : Int)))), dc [4] [4] (decide (i143 < (l1.length : Int))) 11 (Zi i143), dc [4, 5] [] (decide (i143 < (l1.length : Int))) 12 (.bool (decide (i143 < 20))), dv [4, 6] [] 13 (.bool x175)] z173 d173 ?_ ?_
  ·exact sM e173_4 <| sM e173_0 <| sF (fun f => or_len tu23 f.1 rfl) <| sF (fun f => or_lss f.1 f.2.1 rfl) <| sV <| cT (fun _ s _ _ => or_move (s.1.trans e173_4)) <| cT (fun f _ _ hg => or_lss (f.2.1.1 hg) rfl rfl) <| sF (fun f => or_and f.1 (fun hx => f.2.1.1 hx) rfl (osome hx175).symm) <| steps_nil
  intro o176 a176 w176 d176 z176 hk176 hf176 hE176
  obtain ⟨e176_0, e176_3, e176_4⟩ := kt3 hk176 e173_0 e173_3 e173_4
  have e176_13 := gv (hf176 [7] rfl) rfl
  have hX176 := Evo.step hE173 hown hE176 rfl
  have b176_A138 := re_ hE176 b173_A138
  refine fl_cond e176_13 hs (fun c177 hs => ?_) (fun c177 hs => ?_)
  ·refine fl_skip ?_
   refine hn174 _ _ ?_
   refine fl_seq (fun Q178 hn178 hp178 => ?_)
   refine fl_block (fun Q179 hn179 hx179 hp179 => ?_)
   obtain ⟨x180, hx180, hs⟩ := obind hs
   refine rp_seq 33 o176 [183] [0, 0, 3, 7, 0, 31] [dv [] [0] 16 (sl Al1 l1 cl1), dv [] [4] 17 (Zi i143), dv [0, 1] [] 18 (.pointer (some ((adr Al1).add ((i143 : Int).toNat * R30.s)))), ⟨[2], [], [], Fct.nest X30 [1] 19 (fun (y : (Unit × (Option Addr × Nat))) => .agg #[Zi x180.1.1, Zi x180.1.2.1, Zi x180.1.2.2, .slice y.2.1 x180.2.length y.2.2]) x180⟩, ⟨[], [], [], Fct.blk 183 5 (fun g => pt g 0) 30 #[Zi 0, Zi 0, Zi 0, .slice none 0 0]⟩, ⟨[4, 3], [], [183], Fct.by_ [184] [5, 19] (fun l own w => ∃ g182 : Nat, l.getD 0 undef = pt g182 0 ∧ (∀ (A181 : Option Addr) (cA181 : Nat), l.getD 1 undef = .agg #[Zi x180.1.1, Zi x180.1.2.1, Zi x180.1.2.2, sl A181 x180.2 cA181] → BlkO own 184 w g182 30 #[Zi x180.1.1, Zi x180.1.2.1, Zi x180.1.2.2, sl A181 x180.2 cA181])) (fun hk he h => by obtain ⟨g, e, h⟩ := h; exact ⟨g, e, fun _ _ h0' => BlkO.evo (not_hit hk (by decide)) he (h _ _ h0')⟩)⟩] z176 d176 ?_ ?_
   ·refine sM e176_0 <| sM e176_4 <| sF (fun f => or_index (R := R30) (l := l1) tl23 f.1 f.2.1 (RdO.some_ (RdO.evo rfl hX176 hl1) hx180) hx180) <| sFE (fun f hE => or_loadN X30 0 4 ta30 f.1 (Addr.add_zero' _).symm (RdO.evo rfl hE (RdO.evo rfl hX176 hl1)) hx180 (fun _ => rfl) (fun _ => rfl)) <| sO (nw0) ?_
    refine sc (fun own a wx hf hsl hE => ?_) ?_
    ·obtain ⟨⟨g182, f_5, b_g182⟩, ⟨⟨_, ⟨A181, cA181⟩⟩, (f_19 : a.eval (.tmp 19) = .agg #[Zi x180.1.1, Zi x180.1.2.1, Zi x180.1.2.2, sl A181 x180.2 cA181]), ⟨-, b_A181⟩⟩, -⟩ := hf
     exact px (or_store (l := #[Zi x180.1.1, Zi x180.1.2.1, Zi x180.1.2.2, sl A181 x180.2 cA181]) (lab := 183) (lab2 := 184) ts30 f_5 f_19 b_g182 (by simp) (by kernel_rfl) (mem_of rfl) (by decide) (by kernel_rfl) (fun own' a' w' ha hb => ⟨_, (ha 5).trans f_5, fun _ _ h0' => by cases (f_19.symm.trans ((ha 19).symm.trans h0')); exact hb⟩))
    exact steps_nil
   intro o185 a185 w185 d185 z185 hk185 hf185 hE185
   obtain ⟨e185_0, e185_3, e185_4⟩ := kt3 hk185 e176_0 e176_3 e176_4
   obtain ⟨⟨⟨_, ⟨A181, cA181⟩⟩, (f_19 : a185.eval (.tmp 19) = .agg #[Zi x180.1.1, Zi x180.1.2.1, Zi x180.1.2.2, sl A181 x180.2 cA181]), ⟨-, (b185_A181 : RdO o185 [1] w185 R5 A181 cA181 x180.2)⟩⟩, ⟨g182, (e185_5 : a185.eval (.tmp 5) = pt g182 0), (bq_g182 : ∀ (A181 : Option Addr) (cA181 : Nat), a185.eval (.tmp 19) = .agg #[Zi x180.1.1, Zi x180.1.2.1, Zi x180.1.2.2, sl A181 x180.2 cA181] → BlkO o185 184 w185 g182 30 #[Zi x180.1.1, Zi x180.1.2.1, Zi x180.1.2.2, sl A181 x180.2 cA181])⟩, -⟩ := hf185 [3, 5] rfl
   have b185_g182 := bq_g182 _ _ f_19
   have hX185 := Evo.step hX176 hown hE185 rfl
   have b185_A138 := re_ hE185 b176_A138
   obtain ⟨x188, hx188, hs⟩ := obind hs
   refine rr_seq 33 [Fct.at_ 184 g182 30 #[Zi x180.1.1, Zi x180.1.2.1, Zi x180.1.2.2, sl A181 x180.2 cA181]] o185 [184] [0, 1, 0, 4, 12, 28, 63, 127, 255] [dv [] [5] 20 (pt g182 3), dv [0, 9] [] 21 (sl A181 x180.2 cA181), dv [] [5] 22 (pt g182 3), dv [2, 9] [] 23 (sl A181 x180.2 cA181), dv [3] [] 24 (Zi (x180.2.length : Int)), dv [4] [] 25 (Zi (mn (x180.2.length : Int) 30)), ⟨[1, 5], [], [], Fct.view [1] 26 R5 x188⟩, dv [] [5] 27 (pt g182 3), ⟨[7, 6, 9], [], [184], Fct.by_ [190] [26] (fun l own w => ∀ (A189 : Option Addr) (cA189 : Nat), l.getD 0 undef = sl A189 x188 cA189 → BlkO own 190 w g182 30 #[Zi x180.1.1, Zi x180.1.2.1, Zi x180.1.2.2, sl A189 x188 cA189]) (fun hk he h _ _ h0' => BlkO.evo (not_hit hk (by decide)) he (h _ _ h0'))⟩] z185 d185 (fm1 b185_g182) ?_ ?_
   ·refine sS (fun s => or_field fo30_1 (s.1.trans e185_5) (by rfl)) ?_
    refine sc (fun own a wx hf hsl hE => ?_) ?_
    ·obtain ⟨f_20, (b_g182 : BlkO own 184 wx g182 30 #[Zi x180.1.1, Zi x180.1.2.1, Zi x180.1.2.2, sl A181 x180.2 cA181]), -⟩ := hf
     exact px (ld1 to22 f_20 b_g182)
    refine sS (fun s => or_field fo30_1 (s.1.trans e185_5) (by rfl)) ?_
    refine sc (fun own a wx hf hsl hE => ?_) ?_
    ·obtain ⟨f_22, (b_g182 : BlkO own 184 wx g182 30 #[Zi x180.1.1, Zi x180.1.2.1, Zi x180.1.2.2, sl A181 x180.2 cA181]), -⟩ := hf
     exact px (ld1 to22 f_22 b_g182)
    refine sF (fun f => or_len tu22 f.1 rfl) <| sF (fun f => or_min f.1 rfl) <| sFE (fun f hE => or_view (R := R5) (l := x180.2) (L := [1]) tu22 ts5 f.1 Bnd.none_ (Bnd.some_ f.2.1) Bnd.none_ (RdO.evo rfl hE b185_A181) hx188 (.inl rfl) (by simp)) <| sS (fun s => or_field fo30_1 (s.1.trans e185_5) (by rfl)) ?_
    refine sc (fun own a wx hf hsl hE => ?_) ?_
    ·obtain ⟨f_27, ⟨⟨A189, cA189⟩, (f_26 : a.eval (.tmp 26) = sl A189 x188 cA189), b_A189⟩, b_g182, -⟩ := hf
     exact px (or_store1 (lab := 184) (lab2 := 190) ts22 f_27 f_26 b_g182 (by simp) rfl (mem_of rfl) (by decide) rfl (fun own' a' w' ha hb => fun _ _ h0' => by cases (f_26.symm.trans ((ha 26).symm.trans h0')); exact hb))
    exact steps_nil
   intro o191 a191 w191 d191 z191 hk191 hf191 hE191
   obtain ⟨e191_0, e191_3, e191_4, e191_5⟩ := kt4 hk191 e185_0 e185_3 e185_4 e185_5
   obtain ⟨⟨⟨A189, cA189⟩, (f_26 : a191.eval (.tmp 26) = sl A189 x188 cA189), (b191_A189 : RdO o191 [1] w191 R5 A189 cA189 x188)⟩, (bq_g182 : ∀ (A189 : Option Addr) (cA189 : Nat), a191.eval (.tmp 26) = sl A189 x188 cA189 → BlkO o191 190 w191 g182 30 #[Zi x180.1.1, Zi x180.1.2.1, Zi x180.1.2.2, sl A189 x188 cA189]), -⟩ := hf191 [6, 8] rfl
   have b191_g182 := bq_g182 _ _ f_26
   have hX191 := Evo.step hX185 hown hE191 rfl
   have b191_A138 := re_ hE191 b185_A138
   obtain ⟨x196, hx196, hs⟩ := obind hs
   refine rr 33 [Fct.rowAt 141 [1, 142] 30 R30 A138 c139 out140] o191 [141] [0, 0, 2, 7, 15] [dv [] [3] 28 (sl A138 out140 c139), dv [] [5] 29 (.agg #[Zi x180.1.1, Zi x180.1.2.1, Zi x180.1.2.2, sl A189 x188 cA189]), ⟨[1], [], [], Fct.row 195 [1] 30 30 R30 [(x180.1, x188)]⟩, ⟨[0, 2, 5], [], [141], Fct.row 197 [1, 142, 195] 31 30 R30 x196⟩, ⟨[3], [], [], Fct.rel [3, 31] (fun l => ∀ (A198 : Option Addr) (cA198 : Nat), l.getD 1 undef = sl A198 x196 cA198 → l.getD 0 undef = sl A198 x196 cA198)⟩] z191 d191 (fm1 b191_A138) ?_ ?_
   ·refine sM e191_3 <| sL ta30 e191_5 b191_g182 <| sFE (fun f hE => or_litN (R := R30) (lab := 195) (L := [1]) (e := 30) (cs := #[Zi x180.1.1, Zi x180.1.2.1, Zi x180.1.2.2, sl A189 x188 cA189]) (l := [(x180.1, x188)]) (n := 1) [(29, .agg #[Zi x180.1.1, Zi x180.1.2.1, Zi x180.1.2.2, sl A189 x188 cA189])] rfl rfl ⟨f.1, trivial⟩ (by kernel_rfl) rfl (by decide) ⟨(Ex.iff X30).2 ⟨((), (A189, cA189)), rfl, ⟨trivial, (RdO.evo rfl hE b191_A189)⟩⟩, rfl⟩ rfl) ?_
    refine sc (fun own a wx hf hsl hE => ?_) ?_
    ·obtain ⟨f_28, ⟨⟨A194, cA194⟩, f_30, b_A194⟩, b_A138, -⟩ := hf
     exact px (or_append (R := R30) (lab := 141) (lab2 := 197) (L := [1, 142]) (L3 := [1, 142, 195]) tp23 f_28 b_A138 (by decide) f_30 (RwO.rd b_A194) hx196 (by decide) (by decide) (mem_of rfl) (.inr ⟨rfl, rfl, by decide, by decide⟩))
    refine sc (fun own a wx hf hsl hE => ?_) ?_
    ·obtain ⟨⟨⟨A198, cA198⟩, (f_31 : a.eval (.tmp 31) = sl A198 x196 cA198), b_A198⟩, -⟩ := hf
     exact px (or_mono (f := Fct.val 3 (sl A198 x196 cA198)) (or_assign f_31) (fun own' a' w' v' hp h => fun _ _ h0' => by cases (f_31.symm.trans ((hp.2 31 (by decide)).symm.trans h0')); exact h))
    exact steps_nil
   intro o199 a199 w199 d199 z199 hk199 hf199 hE199
   obtain ⟨e199_0, e199_4⟩ := kt2 hk199 e191_0 e191_4
   obtain ⟨⟨⟨A198, cA198⟩, (f_31 : a199.eval (.tmp 31) = sl A198 x196 cA198), (b199_A198 : RwO o199 197 [1, 142, 195] w199 30 R30 A198 cA198 x196)⟩, (q_3 : ∀ (A198 : Option Addr) (cA198 : Nat), a199.eval (.tmp 31) = sl A198 x196 cA198 → a199.eval (.tmp 3) = sl A198 x196 cA198), -⟩ := hf199 [3, 4] rfl
   have e199_3 := q_3 _ _ f_31
   have hX199 := Evo.step hX191 hown hE199 rfl
   refine hn179 _ _ ?_
   refine hn178 _ _ ?_
   refine rq 33 o199 (bz 3) [dv [] [4] 14 (Zi i143), dv [0] [] 15 (Zi (ad i143 1)), dv [1] [] 4 (Zi (ad i143 1))] z199 d199 ?_ ?_
   ·exact sM e199_4 <| sF (fun f => or_add f.1 rfl rfl) <| sA <| steps_nil
   intro o200 a200 w200 d200 z200 hk200 hf200 hE200
   obtain ⟨e200_0, e200_3⟩ := kt2 hk200 e199_0 e199_3
   have e200_4 := gv (hf200 [2] rfl) rfl
   have hX200 := Evo.step hX199 hown hE200 rfl
   have b200_A198 := re_ hE200 b199_A198
   exact hn172 _ _ _ hs ⟨(rl [(195, 142), (197, 141)] o200), A198, cA198, d200, z200, e200_0, e200_3, e200_4, (Evo.rl_ hX200 hown rfl), (RwO.more (RwO.rl_ b200_A198) (by decide))⟩
  refine fl_exit ?_
  refine hp174 _ _ _ rfl ?_
  replace hs := z172 _ hs
  refine hp172 _ _ _ rfl ?_
  refine hx111 _ _ ?_
  refine hn109 _ _ ?_
  refine rq_seq 33 o176 (bz 2) [dv [] [3] 32 (sl A138 out140 c139), dv [0] [] 2 (sl A138 out140 c139)] z176 d176 ?_ ?_
  ·exact sM e176_3 <| sA <| steps_nil
  intro o201 a201 w201 d201 z201 hk201 hf201 hE201
  have e201_2 := gv (hf201 [1] rfl) rfl
  have hX201 := Evo.step hX176 hown hE201 rfl
  have b201_A138 := re_ hE201 b176_A138
  refine fl_ret ?_
  obtain rfl := (osome hs).symm
  exact hret _ _ _ _ (.inl rfl) d201 (results1_ rfl (RVal.tmp_ e201_2)) ⟨(rl [(141, 2), (142, 3)] o201), (A138, c139), rfl, (Evo.rl_ hX201 hown rfl), (RwO.rl_ b201_A138)⟩
end Go.Proofs.Ytnmkonlfnpcoiaa
