import Derived.Test.YtoccfdohlefifaaWp5
import Derived.Test.YtoccfdohlefifaaSp6
namespace Go.Proofs.Ytoccfdohlefifaa
open Go.RowKit
set_option linter.unusedVariables false
set_option maxRecDepth 10000
theorem guard_Guard_Has_w (w : World) (g1 : (((List ((Int × Int) × (Int × Int))) × (List ((Int × Int) × (List Int))) × (List Int))) × (List Int) × (List (Int × Int)) × (List ((Int × Int) × Bool)) × (List (((Int × Int) × (Int × Int)) × Bool))) (gg1 : Nat) (tg1 : TypeId) (gg1_0 : Nat) (tg1_0 : TypeId) (Ag1_0_0 : Option Addr) (cg1_0_0 : Nat) (mg1_0_1 : Nat) (Ag1_0_2 : Option Addr) (cg1_0_2 : Nat) (Ag1_1 : Option Addr) (cg1_1 : Nat) (Ag1_2 : Option Addr) (cg1_2 : Nat) (mg1_3 : Nat) (mg1_4 : Nat) (p2 : Int × Int) (hgg1 : BlkO (fun _ => 0) 0 w gg1 tg1 #[pt gg1_0 0, sl Ag1_1 g1.2.1 cg1_1, sl Ag1_2 g1.2.2.1 cg1_2, .map (some mg1_3), .map (some mg1_4)]) (hAg1_1 : RdO (fun _ => 0) [0] w R3 Ag1_1 cg1_1 g1.2.1) (hAg1_2 : RdO (fun _ => 0) [0] w R25 Ag1_2 cg1_2 g1.2.2.1) (hmg1_3 : MpO (fun _ => 0) 0 w mg1_3 vv25 vv4 g1.2.2.2.1) (hmg1_4 : MpO (fun _ => 0) 0 w mg1_4 vv81 vv4 g1.2.2.2.2) (hgg1_0 : BlkO (fun _ => 0) 0 w gg1_0 tg1_0 #[sl Ag1_0_0 g1.1.1 cg1_0_0, .map (some mg1_0_1), sl Ag1_0_2 g1.1.2.2 cg1_0_2]) (hAg1_0_0 : RdO (fun _ => 0) [0] w R80 Ag1_0_0 cg1_0_0 g1.1.1) (hmg1_0_1 : MpN (fun _ => 0) 0 0 [0] w mg1_0_1 vv111 3 R3 g1.1.2.1) (hAg1_0_2 : RdO (fun _ => 0) [0] w R3 Ag1_0_2 cg1_0_2 g1.1.2.2) (r : Bool) (hs : guard_Guard_Has g1 p2 = some r) :
  Calls Try.prog 17 #[pt gg1 0, P2 p2] w fun e w' => ∃ own' : Own, e = .returned (.bool r) ∧ Evo [] (fun _ => 0) own' w w' := by
 refine fl_enter (n := 15) rfl rfl rfl (Nat.le_of_ble_eq_true rfl) ?_
 intro a0 Q d0 z0 harg hret
 have ha0 := harg 0 _ rfl
 have ha1 := harg 1 _ rfl
 clear harg
 have hE0 : Evo [] (fun _ => 0) (fun _ => 0) w w := Evo.refl _ _ _
 refine rq_seq 15 (fun _ => 0) [0, 0] [⟨[], [1], [], Fct.blk 17 3 (fun g => pt g 0) 25 #[Zi p2.1, Zi p2.2]⟩, dv [] [] 4 (.bool false)] z0 d0 ?_ ?_
 ·exact sS (fun s => nw1 (s.1.trans ha1)) <| sO (or_assign rfl) <| steps_nil
 intro o18 a18 w18 d18 z18 hk18 hf18 hE18
 have e18_0 := kt hk18 ha0
 obtain ⟨⟨g16, (e18_3 : a18.eval (.tmp 3) = pt g16 0), (b18_g16 : BlkO o18 17 w18 g16 25 #[Zi p2.1, Zi p2.2])⟩, -⟩ := hf18 [0] rfl
 have hX18 := es_ hE0 hE18
 obtain ⟨x19, hx19, hs⟩ := obind hs
 refine rd_seq g_mixed 15 [] o18 [] [0, 1, 3, 7, 15, 31, 63, 7, 255, 511, 1023] [dv [] [0] 5 (pt gg1 0), dv [0] [] 6 (.bool true), dv [1] [] 7 (.bool true), dc [2] [0] true 8 (pt gg1 0), dc [2, 3] [] true 9 (pt gg1 0), dc [2, 4] [] true 10 (pt gg1 3), dc [2, 5] [] true 11 (.map (some mg1_3)), dc [2] [3] true 12 (P2 p2), dc [2, 6, 7] [] true 13 (.bool ((lkM g1.2.2.2.1 p2).getD false)), dv [2, 8] [] 14 (.bool x19), dv [9] [] 4 (.bool x19)] z18 d18 nm_ ?_ ?_
 ·exact sM e18_0 <| sF (fun f => ok1 f.1) <| sV <| cT (fun _ s _ _ => or_move (s.1.trans e18_0)) <| cT (fun f _ _ hg => ok1 (f.2.1.1 hg)) <| cT (fun f _ _ hg => or_field fo77_3 (f.2.1.1 hg) (by rfl)) <| cT (fun f _ hE hg => ld1 to74 (f.2.1.1 hg) (be_ hE (be_ hX18 hgg1))) <| cTL ta25 e18_3 b18_g16 <| cT (fun f _ hE hg => or_lookupE (kf := vv25) (vf := vv4) (k := p2) (dv := false) ko25 tm74 tzv74 (f.2.1.1 hg) (f.2.2.1.1 hg) (MpO.evo (by decide) hE (MpO.evo (by decide) hX18 hmg1_3)) rfl) <| sF (fun f => or_and f.1 (fun hx => f.2.1.1 hx) rfl (osome hx19).symm) <| sA <| steps_nil
 intro o20 a20 w20 d20 z20 hk20 hf20 hE20
 have e20_4 := gv (hf20 [10] rfl) rfl
 have hX20 := es_ hX18 hE20
 refine fl_ret ?_
 obtain rfl := (osome hs).symm
 exact hret _ _ _ _ (.inl rfl) d20 (results1_ rfl (RVal.tmp_ e20_4)) ⟨o20, rfl, hX20⟩
theorem guard_Guard_Joined_w (w : World) (g1 : (((List ((Int × Int) × (Int × Int))) × (List ((Int × Int) × (List Int))) × (List Int))) × (List Int) × (List (Int × Int)) × (List ((Int × Int) × Bool)) × (List (((Int × Int) × (Int × Int)) × Bool))) (gg1 : Nat) (tg1 : TypeId) (gg1_0 : Nat) (tg1_0 : TypeId) (Ag1_0_0 : Option Addr) (cg1_0_0 : Nat) (mg1_0_1 : Nat) (Ag1_0_2 : Option Addr) (cg1_0_2 : Nat) (Ag1_1 : Option Addr) (cg1_1 : Nat) (Ag1_2 : Option Addr) (cg1_2 : Nat) (mg1_3 : Nat) (mg1_4 : Nat) (x2 : Int × Int) (b3 : Int × Int) (hgg1 : BlkO (fun _ => 0) 0 w gg1 tg1 #[pt gg1_0 0, sl Ag1_1 g1.2.1 cg1_1, sl Ag1_2 g1.2.2.1 cg1_2, .map (some mg1_3), .map (some mg1_4)]) (hAg1_1 : RdO (fun _ => 0) [0] w R3 Ag1_1 cg1_1 g1.2.1) (hAg1_2 : RdO (fun _ => 0) [0] w R25 Ag1_2 cg1_2 g1.2.2.1) (hmg1_3 : MpO (fun _ => 0) 0 w mg1_3 vv25 vv4 g1.2.2.2.1) (hmg1_4 : MpO (fun _ => 0) 0 w mg1_4 vv81 vv4 g1.2.2.2.2) (hgg1_0 : BlkO (fun _ => 0) 0 w gg1_0 tg1_0 #[sl Ag1_0_0 g1.1.1 cg1_0_0, .map (some mg1_0_1), sl Ag1_0_2 g1.1.2.2 cg1_0_2]) (hAg1_0_0 : RdO (fun _ => 0) [0] w R80 Ag1_0_0 cg1_0_0 g1.1.1) (hmg1_0_1 : MpN (fun _ => 0) 0 0 [0] w mg1_0_1 vv111 3 R3 g1.1.2.1) (hAg1_0_2 : RdO (fun _ => 0) [0] w R3 Ag1_0_2 cg1_0_2 g1.1.2.2) (r : Bool) (hs : guard_Guard_Joined g1 x2 b3 = some r) :
  Calls Try.prog 19 #[pt gg1 0, P2 x2, P2 b3] w fun e w' => ∃ own' : Own, e = .returned (.bool r) ∧ Evo [] (fun _ => 0) own' w w' := by
 refine fl_enter (n := 19) rfl rfl rfl (Nat.le_of_ble_eq_true rfl) ?_
 intro a0 Q d0 z0 harg hret
 have ha0 := harg 0 _ rfl
 have ha1 := harg 1 _ rfl
 have ha2 := harg 2 _ rfl
 clear harg
 have hE0 : Evo [] (fun _ => 0) (fun _ => 0) w w := Evo.refl _ _ _
 refine rq_seq 19 (fun _ => 0) [0, 0, 0] [⟨[], [1], [], Fct.blk 20 4 (fun g => pt g 0) 25 #[Zi x2.1, Zi x2.2]⟩, ⟨[], [2], [], Fct.blk 22 5 (fun g => pt g 0) 25 #[Zi b3.1, Zi b3.2]⟩, dv [] [] 6 (.bool false)] z0 d0 ?_ ?_
 ·exact sS (fun s => nw1 (s.1.trans ha1)) <| sS (fun s => nw1 (s.1.trans ha2)) <| sO (or_assign rfl) <| steps_nil
 intro o23 a23 w23 d23 z23 hk23 hf23 hE23
 have e23_0 := kt hk23 ha0
 obtain ⟨⟨g19, (e23_4 : a23.eval (.tmp 4) = pt g19 0), (b23_g19 : BlkO o23 20 w23 g19 25 #[Zi x2.1, Zi x2.2])⟩, ⟨g21, (e23_5 : a23.eval (.tmp 5) = pt g21 0), (b23_g21 : BlkO o23 22 w23 g21 25 #[Zi b3.1, Zi b3.2])⟩, -⟩ := hf23 [0, 1] rfl
 have hX23 := es_ hE0 hE23
 obtain ⟨r24, hr24, hs⟩ := obind hs
 obtain ⟨x25, hx25, hs⟩ := obind hs
 refine rd_seq g_mixed 19 [] o23 [] [0, 1, 3, 7, 15, 31, 63, 7, 7, 391, 1023, 2047, 4095] [dv [] [0] 7 (pt gg1 0), dv [0] [] 8 (.bool true), dv [1] [] 9 (.bool true), dc [2] [0] true 10 (pt gg1 0), dc [2, 3] [] true 11 (pt gg1 0), dc [2, 4] [] true 12 (pt gg1 4), dc [2, 5] [] true 13 (.map (some mg1_4)), dc [2] [4] true 14 (P2 x2), dc [2] [5] true 15 (P2 b3), dc [2, 7, 8] [] true 16 (.agg #[Zi r24.1.1, Zi r24.1.2, Zi r24.2.1, Zi r24.2.2]), dc [2, 6, 9] [] true 17 (.bool ((lkM g1.2.2.2.2 r24).getD false)), dv [2, 10] [] 18 (.bool x25), dv [11] [] 6 (.bool x25)] z23 d23 nm_ ?_ ?_
 ·exact sM e23_0 <| sF (fun f => ok1 f.1) <| sV <| cT (fun _ s _ _ => or_move (s.1.trans e23_0)) <| cT (fun f _ _ hg => ok1 (f.2.1.1 hg)) <| cT (fun f _ _ hg => or_field fo77_4 (f.2.1.1 hg) (by rfl)) <| cT (fun f _ hE hg => ld1 to75 (f.2.1.1 hg) (be_ hE (be_ hX23 hgg1))) <| cTL ta25 e23_4 b23_g19 <| cTL ta25 e23_5 b23_g21 <| cT (fun f _ _ hg => or_call cf30 (args2 (f.2.1.1 hg) (f.2.2.1.1 hg)) (guard_between_w _ x2 b3  r24 (gd_t hr24 hg)) post_val) <| cT (fun f _ hE hg => or_lookupE (kf := vv81) (vf := vv4) (k := r24) (dv := false) ko81 tm75 tzv75 (f.2.1.1 hg) (f.2.2.1.1 hg) (MpO.evo (by decide) hE (MpO.evo (by decide) hX23 hmg1_4)) rfl) <| sF (fun f => or_and f.1 (fun hx => f.2.1.1 hx) rfl (osome hx25).symm) <| sA <| steps_nil
 intro o26 a26 w26 d26 z26 hk26 hf26 hE26
 have e26_6 := gv (hf26 [12] rfl) rfl
 have hX26 := es_ hX23 hE26
 refine fl_ret ?_
 obtain rfl := (osome hs).symm
 exact hret _ _ _ _ (.inl rfl) d26 (results1_ rfl (RVal.tmp_ e26_6)) ⟨o26, rfl, hX26⟩
theorem ref18_Drop_w (w : World) (own : Own) (g1 : (List Int) × (List (Int × Int)) × (List ((Int × Int) × (Int × Int)))) (Ag1_0 : Option Addr) (cg1_0 : Nat) (Ag1_1 : Option Addr) (cg1_1 : Nat) (Ag1_2 : Option Addr) (cg1_2 : Nat) (x2 : Int × Int) (b3 : Int × Int) (c4 : Int × Int) (hown : ∀ b, own b ≤ 1) (hAg1_0 : RdO own [1] w R3 Ag1_0 cg1_0 g1.1) (hAg1_1 : RdO own [1] w R44 Ag1_1 cg1_1 g1.2.1) (hAg1_2 : RdO own [1] w R92 Ag1_2 cg1_2 g1.2.2) (r : ((List Int) × (List (Int × Int)) × (List ((Int × Int) × (Int × Int)))) × Bool) (hs : ref18_Drop g1 x2 b3 c4 = some r) :
  Calls Try.prog 21 #[.agg #[sl Ag1_0 g1.1 cg1_0, sl Ag1_1 g1.2.1 cg1_1, sl Ag1_2 g1.2.2 cg1_2], P2 x2, P2 b3, P2 c4] w fun e w' => ∃ (own' : Own) (x : (Option Addr × Nat) × (Option Addr × Nat) × (Option Addr × Nat)), e = .returned (.tuple #[.agg #[.slice x.1.1 r.1.1.length x.1.2, .slice x.2.1.1 r.1.2.1.length x.2.1.2, .slice x.2.2.1 r.1.2.2.length x.2.2.2], .bool r.2]) ∧ Evo [] own own' w w' ∧ RdO own' [1, 2] w' R3 x.1.1 x.1.2 r.1.1 ∧ RdO own' [1, 3] w' R44 x.2.1.1 x.2.1.2 r.1.2.1 ∧ RdO own' [1, 4] w' R92 x.2.2.1 x.2.2.2 r.1.2.2 := by
 refine fl_enter (n := 93) rfl rfl rfl (Nat.le_of_ble_eq_true rfl) ?_
 intro a0 Q d0 z0 harg hret
 have ha0 := harg 0 _ rfl
 have ha1 := harg 1 _ rfl
 have ha2 := harg 2 _ rfl
 have ha3 := harg 3 _ rfl
 clear harg
 have hE0 : Evo [] own own w w := Evo.refl _ _ _
 refine rq_seq 93 own [0, 0, 0, 0, 0, 0] [⟨[], [0], [], Fct.blk 710 4 (fun g => pt g 0) 38 #[sl Ag1_0 g1.1 cg1_0, sl Ag1_1 g1.2.1 cg1_1, sl Ag1_2 g1.2.2 cg1_2]⟩, ⟨[], [1], [], Fct.blk 712 5 (fun g => pt g 0) 44 #[Zi x2.1, Zi x2.2]⟩, ⟨[], [2], [], Fct.blk 714 6 (fun g => pt g 0) 44 #[Zi b3.1, Zi b3.2]⟩, ⟨[], [3], [], Fct.blk 716 7 (fun g => pt g 0) 44 #[Zi c4.1, Zi c4.2]⟩, ⟨[], [], [], Fct.blk 718 8 (fun g => pt g 0) 38 #[.slice none 0 0, .slice none 0 0, .slice none 0 0]⟩, dv [] [] 9 (.bool false)] z0 d0 ?_ ?_
 ·exact sS (fun s => nw1 (s.1.trans ha0)) <| sS (fun s => nw1 (s.1.trans ha1)) <| sS (fun s => nw1 (s.1.trans ha2)) <| sS (fun s => nw1 (s.1.trans ha3)) <| sO (nw0) <| sO (or_assign rfl) <| steps_nil
 intro o719 a719 w719 d719 z719 hk719 hf719 hE719
 obtain ⟨⟨g709, (e719_4 : a719.eval (.tmp 4) = pt g709 0), (b719_g709 : BlkO o719 710 w719 g709 38 #[sl Ag1_0 g1.1 cg1_0, sl Ag1_1 g1.2.1 cg1_1, sl Ag1_2 g1.2.2 cg1_2])⟩, ⟨g711, (e719_5 : a719.eval (.tmp 5) = pt g711 0), (b719_g711 : BlkO o719 712 w719 g711 44 #[Zi x2.1, Zi x2.2])⟩, ⟨g713, (e719_6 : a719.eval (.tmp 6) = pt g713 0), (b719_g713 : BlkO o719 714 w719 g713 44 #[Zi b3.1, Zi b3.2])⟩, ⟨g715, (e719_7 : a719.eval (.tmp 7) = pt g715 0), (b719_g715 : BlkO o719 716 w719 g715 44 #[Zi c4.1, Zi c4.2])⟩, ⟨g717, (e719_8 : a719.eval (.tmp 8) = pt g717 0), (b719_g717 : BlkO o719 718 w719 g717 38 #[.slice none 0 0, .slice none 0 0, .slice none 0 0])⟩, -⟩ := hf719 [0, 1, 2, 3, 4] rfl
 have hX719 := Evo.step hE0 hown hE719 rfl
 refine fl_seq (fun Q720 hn720 hp720 => ?_)
 obtain ⟨r721, hr721, hs⟩ := obind hs
 refine rq_seq 93 o719 [0, 0, 0, 0, 15, 31] [dv [] [4] 13 (.agg #[sl Ag1_0 g1.1 cg1_0, sl Ag1_1 g1.2.1 cg1_1, sl Ag1_2 g1.2.2 cg1_2]), dv [] [5] 14 (P2 x2), dv [] [6] 15 (P2 b3), dv [] [7] 16 (P2 c4), dv [0, 1, 2, 3] [] 17 (Zi r721), dv [4] [] 18 (.bool (!decide (r721 = 0)))] z719 d719 ?_ ?_
 ·exact sL ta38 e719_4 b719_g709 <| sL ta44 e719_5 b719_g711 <| sL ta44 e719_6 b719_g713 <| sL ta44 e719_7 b719_g715 <| sFE (fun f hE => or_call cf16 (args4 f.1 f.2.1 f.2.2.1 f.2.2.2.1) (ref18_Why_w _ g1 Ag1_0 cg1_0 Ag1_1 cg1_1 Ag1_2 cg1_2 x2 b3 c4 (RdO.zero (RdO.evo rfl hE (RdO.evo rfl hX719 hAg1_0))) (RdO.zero (RdO.evo rfl hE (RdO.evo rfl hX719 hAg1_1))) (RdO.zero (RdO.evo rfl hE (RdO.evo rfl hX719 hAg1_2))) r721 hr721) post_val) <| sF (fun f => or_neq f.1 rfl rfl) <| steps_nil
 intro o722 a722 w722 d722 z722 hk722 hf722 hE722
 obtain ⟨e722_4, e722_5, e722_6, e722_7, e722_8⟩ := kt5 hk722 e719_4 e719_5 e719_6 e719_7 e719_8
 have e722_18 := gv (hf722 [5] rfl) rfl
 have hX722 := Evo.step hX719 hown hE722 rfl
 obtain ⟨b722_g709, b722_g711, b722_g713, b722_g715, b722_g717⟩ := be5 hE722 b719_g709 b719_g711 b719_g713 b719_g715 b719_g717
 refine fl_cond e722_18 hs (fun c723 hs => ?_) (fun c723 hs => ?_)
 ·refine rr_seq 93 [Fct.at_ 718 g717 38 #[.slice none 0 0, .slice none 0 0, .slice none 0 0]] o722 [718] (bz 3) [dv [] [4] 19 (.agg #[sl Ag1_0 g1.1 cg1_0, sl Ag1_1 g1.2.1 cg1_1, sl Ag1_2 g1.2.2 cg1_2]), ⟨[0, 3], [8], [718], Fct.at_ 724 g717 38 #[sl Ag1_0 g1.1 cg1_0, sl Ag1_1 g1.2.1 cg1_1, sl Ag1_2 g1.2.2 cg1_2]⟩, dv [] [] 9 (.bool false)] z722 d722 (fm1 b722_g717) ?_ ?_
  ·refine sL ta38 e722_4 b722_g709 ?_
   refine sc (fun own a wx hf hsl hE => ?_) ?_
   ·obtain ⟨f_19, b_g717, -⟩ := hf
    obtain ⟨s_8, -⟩ := hsl
    exact px (or_store (l := #[sl Ag1_0 g1.1 cg1_0, sl Ag1_1 g1.2.1 cg1_1, sl Ag1_2 g1.2.2 cg1_2]) (lab := 718) (lab2 := 724) ts38 (s_8.trans e722_8) f_19 b_g717 (by simp) (by kernel_rfl) (mem_of rfl) (by decide) (by kernel_rfl) (fun own' a' w' ha hb => hb))
   exact sO (or_assign rfl) <| steps_nil
  intro o725 a725 w725 d725 z725 hk725 hf725 hE725
  have e725_8 := kt hk725 e722_8
  have e725_9 := gv (hf725 [2] rfl) rfl
  obtain ⟨(b725_g717 : BlkO o725 724 w725 g717 38 #[sl Ag1_0 g1.1 cg1_0, sl Ag1_1 g1.2.1 cg1_1, sl Ag1_2 g1.2.2 cg1_2]), -⟩ := hf725 [1] rfl
  have hX725 := Evo.step hX722 hown hE725 rfl
  refine fl_ret ?_
  refine hp720 _ _ _ rfl ?_
  obtain rfl := osome hs
  exact hret _ _ _ _ (.inl rfl) d725 (results2_ rfl (RVal.cell_ e725_8 (run_loadVarAgg (l := [sl Ag1_0 g1.1 cg1_0, sl Ag1_1 g1.2.1 cg1_1, sl Ag1_2 g1.2.2 cg1_2]) ta38 (Blk.cellsFrom b725_g717.2 0 rfl) rfl)) (RVal.tmp_ e725_9)) ⟨o725, ((Ag1_0, cg1_0), (Ag1_1, cg1_1), (Ag1_2, cg1_2)), rfl, hX725, (RdO.more (RdO.evo rfl hX725 hAg1_0) (by decide)), (RdO.more (RdO.evo rfl hX725 hAg1_1) (by decide)), (RdO.more (RdO.evo rfl hX725 hAg1_2) (by decide))⟩
 refine fl_skip ?_
 refine hn720 _ _ ?_
 refine rp_seq 93 o722 [727] [0, 1, 3, 0, 15] [dv [] [4] 20 (pt g709 0), dv [0] [] 21 (sl Ag1_0 g1.1 cg1_0), dv [1] [] 22 (.agg #[sl Ag1_0 g1.1 cg1_0, .slice none 0 0, .slice none 0 0]), ⟨[], [], [], Fct.blk 727 10 (fun g => pt g 0) 38 #[.slice none 0 0, .slice none 0 0, .slice none 0 0]⟩, ⟨[3, 2], [], [727], Fct.blk 728 10 (fun g => pt g 0) 38 #[sl Ag1_0 g1.1 cg1_0, .slice none 0 0, .slice none 0 0]⟩] z722 d722 ?_ ?_
 ·refine sS (fun s => or_field fo38_0 (s.1.trans e722_4) (by rfl)) <| sG to22 b722_g709 <| sF (fun f => ok1 f.1) <| sO (nw0) ?_
  refine sc (fun own a wx hf hsl hE => ?_) ?_
  ·obtain ⟨⟨g726, f_10, b_g726⟩, f_22, -⟩ := hf
   exact px (or_store (l := #[sl Ag1_0 g1.1 cg1_0, .slice none 0 0, .slice none 0 0]) (lab := 727) (lab2 := 728) ts38 f_10 f_22 b_g726 (by simp) (by kernel_rfl) (mem_of rfl) (by decide) (by kernel_rfl) (fun own' a' w' ha hb => ⟨_, (ha 10).trans f_10, hb⟩))
  exact steps_nil
 intro o729 a729 w729 d729 z729 hk729 hf729 hE729
 obtain ⟨e729_4, e729_5, e729_6, e729_7, e729_8⟩ := kt5 hk729 e722_4 e722_5 e722_6 e722_7 e722_8
 obtain ⟨⟨g726, (e729_10 : a729.eval (.tmp 10) = pt g726 0), (b729_g726 : BlkO o729 728 w729 g726 38 #[sl Ag1_0 g1.1 cg1_0, .slice none 0 0, .slice none 0 0])⟩, -⟩ := hf729 [4] rfl
 have hX729 := Evo.step hX722 hown hE729 rfl
 obtain ⟨b729_g709, b729_g711, b729_g713, b729_g715, b729_g717⟩ := be5 hE729 b722_g709 b722_g711 b722_g713 b722_g715 b722_g717
 refine fl_seq (fun Q730 hn730 hp730 => ?_)
 refine rq_seq 93 o729 (bz 1) [dv [] [] 11 (Zi 0)] z729 d729 ?_ ?_
 ·exact sO (or_assign rfl) <| steps_nil
 intro o731 a731 w731 d731 z731 hk731 hf731 hE731
 obtain ⟨e731_4, e731_5, e731_6, e731_7, e731_8, e731_10⟩ := kt6 hk731 e729_4 e729_5 e729_6 e729_7 e729_8 e729_10
 have e731_11 := gv (hf731 [0] rfl) rfl
 have hX731 := Evo.step hX729 hown hE731 rfl
 obtain ⟨b731_g709, b731_g711, b731_g713, b731_g715, b731_g717, b731_g726⟩ := be6 hE731 b729_g709 b729_g711 b729_g713 b729_g715 b729_g717 b729_g726
 refine fl_block (fun Q732 hn732 hx732 hp732 => ?_)
 refine fl_loop (body := (fun s => ref18_Drop_b1 g1 x2 b3 c4 s.1 s.2)) (z := r) (show loopO _ _ = _ from hs) (fun (s : (List (Int × Int)) × Int) a wx => match s with | (out834, i836) => ∃ (ox : Own) (A832 : Option Addr) (c833 : Nat), a.defers = [] ∧ a.tmps.size = 93 ∧ a.eval (.tmp 4) = pt g709 0 ∧ a.eval (.tmp 5) = pt g711 0 ∧ a.eval (.tmp 6) = pt g713 0 ∧ a.eval (.tmp 7) = pt g715 0 ∧ a.eval (.tmp 8) = pt g717 0 ∧ a.eval (.tmp 10) = pt g726 0 ∧ a.eval (.tmp 11) = Zi i836 ∧ Evo [] own ox w wx ∧ BlkO ox 710 wx g709 38 #[sl Ag1_0 g1.1 cg1_0, sl Ag1_1 g1.2.1 cg1_1, sl Ag1_2 g1.2.2 cg1_2] ∧ BlkO ox 712 wx g711 44 #[Zi x2.1, Zi x2.2] ∧ BlkO ox 714 wx g713 44 #[Zi b3.1, Zi b3.2] ∧ BlkO ox 716 wx g715 44 #[Zi c4.1, Zi c4.2] ∧ BlkO ox 718 wx g717 38 #[.slice none 0 0, .slice none 0 0, .slice none 0 0] ∧ BlkO ox 831 wx g726 38 #[sl Ag1_0 g1.1 cg1_0, sl A832 out834 c833, .slice none 0 0] ∧ RwO ox 835 [] wx 44 R44 A832 c833 out834) ?_ ?_
 ·exact ⟨(rl [(728, 831)] o731), none, 0, d731, z731, e731_4, e731_5, e731_6, e731_7, e731_8, e731_10, e731_11, (Evo.rl_ hX731 hown rfl), (BlkO.rl_ b731_g709), (BlkO.rl_ b731_g711), (BlkO.rl_ b731_g713), (BlkO.rl_ b731_g715), (BlkO.rl_ b731_g717), (BlkO.rl_ b731_g726), RwO.nil_⟩
 ·rintro ⟨out834, i836⟩ zz939 a939 w939 ⟨o939, A832, c833, d940, z940, e940_4, e940_5, e940_6, e940_7, e940_8, e940_10, e940_11, hE940, b940_g709, b940_g711, b940_g713, b940_g715, b940_g717, b940_g726, b940_A832⟩ hs Q939 hn939 hp939 z939
  have hs : ref18_Drop_b1 g1 x2 b3 c4 out834 i836 = some zz939 := hs
  refine fl_seq (fun Q941 hn941 hp941 => ?_)
  refine rq_seq 93 o939 [0, 0, 2, 6, 15] [dv [] [11] 23 (Zi i836), dv [] [4] 24 (pt g709 1), dv [1] [] 25 (sl Ag1_1 g1.2.1 cg1_1), dv [2] [] 26 (Zi (g1.2.1.length : Int)), dv [0, 3] [] 27 (.bool (decide (i836 < (g1.2.1.length : Int))))] z940 d940 ?_ ?_
  ·exact sM e940_11 <| sS (fun s => or_field fo38_1 (s.1.trans e940_4) (by rfl)) <| sG to35 b940_g709 <| sF (fun f => or_len tu35 f.1 rfl) <| sF (fun f => or_lss f.1 f.2.1 rfl) <| steps_nil
  intro o942 a942 w942 d942 z942 hk942 hf942 hE942
  obtain ⟨e942_4, e942_5, e942_6, e942_7, e942_8, e942_10, e942_11⟩ := kt7 hk942 e940_4 e940_5 e940_6 e940_7 e940_8 e940_10 e940_11
  have e942_27 := gv (hf942 [4] rfl) rfl
  have hX942 := Evo.step hE940 hown hE942 rfl
  obtain ⟨b942_g709, b942_g711, b942_g713, b942_g715, b942_g717, b942_g726⟩ := be6 hE942 b940_g709 b940_g711 b940_g713 b940_g715 b940_g717 b940_g726
  have b942_A832 := re_ hE942 b940_A832
  refine fl_cond e942_27 hs (fun c943 hs => ?_) (fun c943 hs => ?_)
  ·refine fl_skip ?_
   refine hn941 _ _ ?_
   refine fl_seq (fun Q944 hn944 hp944 => ?_)
   refine fl_block (fun Q993 hn993 hx993 hp993 => ?_)
   have K1019 : ∀ (a1019 : Act) (w1019 : World) (o1019 : Own) (out1017 : List (Int × Int)) (A1015 : Option Addr) (c1016 : Nat), a1019.defers = [] → a1019.tmps.size = 93 → a1019.eval (.tmp 4) = pt g709 0 → a1019.eval (.tmp 5) = pt g711 0 → a1019.eval (.tmp 6) = pt g713 0 → a1019.eval (.tmp 7) = pt g715 0 → a1019.eval (.tmp 8) = pt g717 0 → a1019.eval (.tmp 10) = pt g726 0 → a1019.eval (.tmp 11) = Zi i836 → Evo [] own o1019 w w1019 → BlkO o1019 710 w1019 g709 38 #[sl Ag1_0 g1.1 cg1_0, sl Ag1_1 g1.2.1 cg1_1, sl Ag1_2 g1.2.2 cg1_2] → BlkO o1019 712 w1019 g711 44 #[Zi x2.1, Zi x2.2] → BlkO o1019 714 w1019 g713 44 #[Zi b3.1, Zi b3.2] → BlkO o1019 716 w1019 g715 44 #[Zi c4.1, Zi c4.2] → BlkO o1019 718 w1019 g717 38 #[.slice none 0 0, .slice none 0 0, .slice none 0 0] → BlkO o1019 1014 w1019 g726 38 #[sl Ag1_0 g1.1 cg1_0, sl A1015 out1017 c1016, .slice none 0 0] → RwO o1019 1018 [] w1019 44 R44 A1015 c1016 out1017 → ref18_Drop_k2 i836 out1017 = some zz939 → (Q993 .normal a1019 w1019 ∧ Q993 (.exit 1) a1019 w1019) := by
    intro a1019 w1019 o1019 out1017 A1015 c1016 d1020 z1020 e1020_4 e1020_5 e1020_6 e1020_7 e1020_8 e1020_10 e1020_11 hE1020 b1020_g709 b1020_g711 b1020_g713 b1020_g715 b1020_g717 b1020_g726 b1020_A1015 hs
    refine and_both (hn993 _ _) (hx993 _ _) ?_
    refine hn944 _ _ ?_
    refine rq 93 o1019 (bz 3) [dv [] [11] 28 (Zi i836), dv [0] [] 29 (Zi (ad i836 1)), dv [1] [] 11 (Zi (ad i836 1))] z1020 d1020 ?_ ?_
    ·exact sM e1020_11 <| sF (fun f => or_add f.1 rfl rfl) <| sA <| steps_nil
    intro o1021 a1021 w1021 d1021 z1021 hk1021 hf1021 hE1021
    obtain ⟨e1021_4, e1021_5, e1021_6, e1021_7, e1021_8, e1021_10⟩ := kt6 hk1021 e1020_4 e1020_5 e1020_6 e1020_7 e1020_8 e1020_10
    have e1021_11 := gv (hf1021 [2] rfl) rfl
    have hX1021 := Evo.step hE1020 hown hE1021 rfl
    obtain ⟨b1021_g709, b1021_g711, b1021_g713, b1021_g715, b1021_g717, b1021_g726⟩ := be6 hE1021 b1020_g709 b1020_g711 b1020_g713 b1020_g715 b1020_g717 b1020_g726
    have b1021_A1015 := re_ hE1021 b1020_A1015
    exact hn939 _ _ _ hs ⟨(rl [(1014, 831), (1018, 835)] o1021), A1015, c1016, d1021, z1021, e1021_4, e1021_5, e1021_6, e1021_7, e1021_8, e1021_10, e1021_11, (Evo.rl_ hX1021 hown rfl), (BlkO.rl_ b1021_g709), (BlkO.rl_ b1021_g711), (BlkO.rl_ b1021_g713), (BlkO.rl_ b1021_g715), (BlkO.rl_ b1021_g717), (BlkO.rl_ b1021_g726), (RwO.rl_ b1021_A1015)⟩
   obtain ⟨x1022, hx1022, hs⟩ := obind hs
   refine rd_seq g_mixed 93 [] o942 [] [0, 1, 0, 7, 15, 0, 63] [dv [] [4] 30 (pt g709 1), dv [0] [] 31 (sl Ag1_1 g1.2.1 cg1_1), dv [] [11] 32 (Zi i836), dv [1, 2] [] 33 (.pointer (some ((adr Ag1_1).add ((i836 : Int).toNat * R44.s)))), dv [3] [] 34 (P2 x1022), dv [] [6] 35 (P2 b3), dv [4, 5] [] 36 (.bool (!decide (x1022 = b3)))] z942 d942 nm_ ?_ ?_
   ·exact sS (fun s => or_field fo38_1 (s.1.trans e942_4) (by rfl)) <| sG to35 b942_g709 <| sM e942_11 <| sF (fun f => or_index (R := R44) (l := g1.2.1) tl35 f.1 f.2.1 (RdO.some_ (RdO.evo rfl hX942 hAg1_1) hx1022) hx1022) <| sFE (fun f hE => or_load (l := E44.f x1022) ta44 f.1 (RdO.cells (F := E44) (RdO.evo rfl hE (RdO.evo rfl hX942 hAg1_1)) hx1022) rfl) <| sL ta44 e942_6 b942_g713 <| sF (fun f => or_neqA sg44 f.1 f.2.1 (sn44 x1022.1 x1022.2 b3.1 b3.2 _) rfl) <| steps_nil
   intro o1023 a1023 w1023 d1023 z1023 hk1023 hf1023 hE1023
   obtain ⟨e1023_4, e1023_5, e1023_6, e1023_7, e1023_8, e1023_10, e1023_11⟩ := kt7 hk1023 e942_4 e942_5 e942_6 e942_7 e942_8 e942_10 e942_11
   have e1023_36 := gv (hf1023 [6] rfl) rfl
   have hX1023 := Evo.step hX942 hown hE1023 rfl
   obtain ⟨b1023_g709, b1023_g711, b1023_g713, b1023_g715, b1023_g717, b1023_g726⟩ := be6 hE1023 b942_g709 b942_g711 b942_g713 b942_g715 b942_g717 b942_g726
   have b1023_A832 := re_ hE1023 b942_A832
   refine fl_cond e1023_36 hs (fun c1024 hs => ?_) (fun c1024 hs => ?_)
   ·obtain ⟨x1034, hx1034, hs⟩ := obind hs
    obtain ⟨x1037, hx1037, hs⟩ := obind hs
    refine rd_ g_mixed 93 [Fct.rowAt 835 [] 44 R44 A832 c833 out834, Fct.at_ 831 g726 38 #[sl Ag1_0 g1.1 cg1_0, sl A832 out834 c833, .slice none 0 0]] o1023 [835, 831] [0, 1, 0, 4, 0, 28, 60, 124, 255, 511, 1023] [dv [] [10] 37 (pt g726 1), dv [0, 12] [] 38 (sl A832 out834 c833), dv [] [4] 39 (pt g709 1), dv [2] [] 40 (sl Ag1_1 g1.2.1 cg1_1), dv [] [11] 41 (Zi i836), dv [3, 4] [] 42 (.pointer (some ((adr Ag1_1).add ((i836 : Int).toNat * R44.s)))), dv [5] [] 43 (P2 x1034), ⟨[6], [], [], Fct.row 1036 [] 44 44 R44 [x1034]⟩, ⟨[1, 7, 11], [], [835], Fct.row 1038 [] 45 44 R44 x1037⟩, dv [] [10] 46 (pt g726 1), ⟨[9, 8, 12], [], [831], Fct.by_ [1040] [45] (fun l own w => ∀ (A1039 : Option Addr) (cA1039 : Nat), l.getD 0 undef = sl A1039 x1037 cA1039 → BlkO own 1040 w g726 38 #[sl Ag1_0 g1.1 cg1_0, sl A1039 x1037 cA1039, .slice none 0 0]) (fun hk he h _ _ h0' => BlkO.evo (not_hit hk (by decide)) he (h _ _ h0'))⟩] z1023 d1023 (fm2 b1023_A832 b1023_g726) ?_ ?_
    ·refine sS (fun s => or_field fo38_1 (s.1.trans e1023_10) (by rfl)) ?_
     refine sc (fun own a wx hf hsl hE => ?_) ?_
     ·obtain ⟨f_37, (b_g726 : BlkO own 831 wx g726 38 #[sl Ag1_0 g1.1 cg1_0, sl A832 out834 c833, .slice none 0 0]), -⟩ := hf
      exact px (ld1 to35 f_37 b_g726)
     refine sS (fun s => or_field fo38_1 (s.1.trans e1023_4) (by rfl)) <| sG to35 b1023_g709 <| sM e1023_11 <| sF (fun f => or_index (R := R44) (l := g1.2.1) tl35 f.1 f.2.1 (RdO.some_ (RdO.evo rfl hX1023 hAg1_1) hx1034) hx1034) <| sFE (fun f hE => or_load (l := E44.f x1034) ta44 f.1 (RdO.cells (F := E44) (RdO.evo rfl hE (RdO.evo rfl hX1023 hAg1_1)) hx1034) rfl) <| sF (fun f => or_lit (lab := 1036) (e := 44) (cs := #[Zi x1034.1, Zi x1034.2]) (F := E44) (nw1 f.1) rfl rfl (show 1 ≤ maxLen by decide)) ?_
     refine sc (fun own a wx hf hsl hE => ?_) ?_
     ·obtain ⟨f_38, ⟨⟨A1035, cA1035⟩, f_44, b_A1035⟩, b_A832, -⟩ := hf
      exact px (or_append (R := R44) (lab := 835) (lab2 := 1038) (L := []) (L3 := []) tp35 f_38 b_A832 (by decide) f_44 (RwO.rd b_A1035) hx1037 (by decide) (by decide) (mem_of rfl) (.inl (Rep.fl_flat _)))
     refine sS (fun s => or_field fo38_1 (s.1.trans e1023_10) (by rfl)) ?_
     refine sc (fun own a wx hf hsl hE => ?_) ?_
     ·obtain ⟨f_46, ⟨⟨A1039, cA1039⟩, (f_45 : a.eval (.tmp 45) = sl A1039 x1037 cA1039), b_A1039⟩, b_g726, -⟩ := hf
      exact px (or_store1 (lab := 831) (lab2 := 1040) ts35 f_46 f_45 b_g726 (by simp) rfl (mem_of rfl) (by decide) rfl (fun own' a' w' ha hb => fun _ _ h0' => by cases (f_45.symm.trans ((ha 45).symm.trans h0')); exact hb))
     exact steps_nil
    intro o1041 a1041 w1041 d1041 z1041 hk1041 hf1041 hE1041
    obtain ⟨e1041_4, e1041_5, e1041_6, e1041_7, e1041_8, e1041_10, e1041_11⟩ := kt7 hk1041 e1023_4 e1023_5 e1023_6 e1023_7 e1023_8 e1023_10 e1023_11
    obtain ⟨⟨⟨A1039, cA1039⟩, (f_45 : a1041.eval (.tmp 45) = sl A1039 x1037 cA1039), (b1041_A1039 : RwO o1041 1038 [] w1041 44 R44 A1039 cA1039 x1037)⟩, (bq_g726 : ∀ (A1039 : Option Addr) (cA1039 : Nat), a1041.eval (.tmp 45) = sl A1039 x1037 cA1039 → BlkO o1041 1040 w1041 g726 38 #[sl Ag1_0 g1.1 cg1_0, sl A1039 x1037 cA1039, .slice none 0 0]), -⟩ := hf1041 [8, 10] rfl
    have b1041_g726 := bq_g726 _ _ f_45
    have hX1041 := Evo.step hX1023 hown hE1041 rfl
    obtain ⟨b1041_g709, b1041_g711, b1041_g713, b1041_g715, b1041_g717⟩ := be5 hE1041 b1023_g709 b1023_g711 b1023_g713 b1023_g715 b1023_g717
    exact (K1019 _ _ (rl [(1038, 1018), (1040, 1014)] o1041) _ A1039 cA1039 d1041 z1041 e1041_4 e1041_5 e1041_6 e1041_7 e1041_8 e1041_10 e1041_11 (Evo.rl_ hX1041 hown rfl) (BlkO.rl_ b1041_g709) (BlkO.rl_ b1041_g711) (BlkO.rl_ b1041_g713) (BlkO.rl_ b1041_g715) (BlkO.rl_ b1041_g717) (BlkO.rl_ b1041_g726) (RwO.rl_ b1041_A1039) hs).1
   refine fl_skip ?_
   exact (K1019 _ _ (rl [(831, 1014), (835, 1018)] o1023) _ A832 c833 d1023 z1023 e1023_4 e1023_5 e1023_6 e1023_7 e1023_8 e1023_10 e1023_11 (Evo.rl_ hX1023 hown rfl) (BlkO.rl_ b1023_g709) (BlkO.rl_ b1023_g711) (BlkO.rl_ b1023_g713) (BlkO.rl_ b1023_g715) (BlkO.rl_ b1023_g717) (BlkO.rl_ b1023_g726) (RwO.rl_ b1023_A832) hs).1
  refine fl_exit ?_
  refine hp941 _ _ _ rfl ?_
  replace hs := z939 _ hs
  refine hp939 _ _ _ rfl ?_
  refine hx732 _ _ ?_
  refine hn730 _ _ ?_
  refine fl_seq (fun Q1042 hn1042 hp1042 => ?_)
  refine rq_seq 93 o942 (bz 1) [dv [] [] 12 (Zi 0)] z942 d942 ?_ ?_
  ·exact sO (or_assign rfl) <| steps_nil
  intro o1043 a1043 w1043 d1043 z1043 hk1043 hf1043 hE1043
  obtain ⟨e1043_4, e1043_5, e1043_6, e1043_7, e1043_8, e1043_10⟩ := kt6 hk1043 e942_4 e942_5 e942_6 e942_7 e942_8 e942_10
  have e1043_12 := gv (hf1043 [0] rfl) rfl
  have hX1043 := Evo.step hX942 hown hE1043 rfl
  obtain ⟨b1043_g709, b1043_g711, b1043_g713, b1043_g715, b1043_g717, b1043_g726⟩ := be6 hE1043 b942_g709 b942_g711 b942_g713 b942_g715 b942_g717 b942_g726
  have b1043_A832 := re_ hE1043 b942_A832
  refine fl_block (fun Q1044 hn1044 hx1044 hp1044 => ?_)
  refine fl_loop (body := (fun s => ref18_Drop_b3 g1 x2 b3 c4 out834 s.1 s.2)) (z := r) (show loopO _ _ = _ from hs) (fun (s : (List ((Int × Int) × (Int × Int))) × Int) a wx => match s with | (out1158, i1160) => ∃ (ox : Own) (A1156 : Option Addr) (c1157 : Nat), a.defers = [] ∧ a.tmps.size = 93 ∧ a.eval (.tmp 4) = pt g709 0 ∧ a.eval (.tmp 5) = pt g711 0 ∧ a.eval (.tmp 6) = pt g713 0 ∧ a.eval (.tmp 7) = pt g715 0 ∧ a.eval (.tmp 8) = pt g717 0 ∧ a.eval (.tmp 10) = pt g726 0 ∧ a.eval (.tmp 12) = Zi i1160 ∧ Evo [] own ox w wx ∧ BlkO ox 710 wx g709 38 #[sl Ag1_0 g1.1 cg1_0, sl Ag1_1 g1.2.1 cg1_1, sl Ag1_2 g1.2.2 cg1_2] ∧ BlkO ox 712 wx g711 44 #[Zi x2.1, Zi x2.2] ∧ BlkO ox 714 wx g713 44 #[Zi b3.1, Zi b3.2] ∧ BlkO ox 716 wx g715 44 #[Zi c4.1, Zi c4.2] ∧ BlkO ox 718 wx g717 38 #[.slice none 0 0, .slice none 0 0, .slice none 0 0] ∧ BlkO ox 1155 wx g726 38 #[sl Ag1_0 g1.1 cg1_0, sl A832 out834 c833, sl A1156 out1158 c1157] ∧ RwO ox 835 [] wx 44 R44 A832 c833 out834 ∧ RwO ox 1159 [] wx 92 R92 A1156 c1157 out1158) ?_ ?_
  ·exact ⟨(rl [(831, 1155)] o1043), none, 0, d1043, z1043, e1043_4, e1043_5, e1043_6, e1043_7, e1043_8, e1043_10, e1043_12, (Evo.rl_ hX1043 hown rfl), (BlkO.rl_ b1043_g709), (BlkO.rl_ b1043_g711), (BlkO.rl_ b1043_g713), (BlkO.rl_ b1043_g715), (BlkO.rl_ b1043_g717), (BlkO.rl_ b1043_g726), (RwO.rl_ b1043_A832), RwO.nil_⟩
  ·rintro ⟨out1158, i1160⟩ zz1275 a1275 w1275 ⟨o1275, A1156, c1157, d1276, z1276, e1276_4, e1276_5, e1276_6, e1276_7, e1276_8, e1276_10, e1276_12, hE1276, b1276_g709, b1276_g711, b1276_g713, b1276_g715, b1276_g717, b1276_g726, b1276_A832, b1276_A1156⟩ hs Q1275 hn1275 hp1275 z1275
   have hs : ref18_Drop_b3 g1 x2 b3 c4 out834 out1158 i1160 = some zz1275 := hs
   refine fl_seq (fun Q1277 hn1277 hp1277 => ?_)
   refine rq_seq 93 o1275 [0, 0, 2, 6, 15] [dv [] [12] 47 (Zi i1160), dv [] [4] 48 (pt g709 2), dv [1] [] 49 (sl Ag1_2 g1.2.2 cg1_2), dv [2] [] 50 (Zi (g1.2.2.length : Int)), dv [0, 3] [] 51 (.bool (decide (i1160 < (g1.2.2.length : Int))))] z1276 d1276 ?_ ?_
   ·exact sM e1276_12 <| sS (fun s => or_field fo38_2 (s.1.trans e1276_4) (by rfl)) <| sG to36 b1276_g709 <| sF (fun f => or_len tu36 f.1 rfl) <| sF (fun f => or_lss f.1 f.2.1 rfl) <| steps_nil
   intro o1278 a1278 w1278 d1278 z1278 hk1278 hf1278 hE1278
   obtain ⟨e1278_4, e1278_5, e1278_6, e1278_7, e1278_8, e1278_10, e1278_12⟩ := kt7 hk1278 e1276_4 e1276_5 e1276_6 e1276_7 e1276_8 e1276_10 e1276_12
   have e1278_51 := gv (hf1278 [4] rfl) rfl
   have hX1278 := Evo.step hE1276 hown hE1278 rfl
   obtain ⟨b1278_g709, b1278_g711, b1278_g713, b1278_g715, b1278_g717, b1278_g726⟩ := be6 hE1278 b1276_g709 b1276_g711 b1276_g713 b1276_g715 b1276_g717 b1276_g726
   have b1278_A832 := re_ hE1278 b1276_A832
   have b1278_A1156 := re_ hE1278 b1276_A1156
   refine fl_cond e1278_51 hs (fun c1279 hs => ?_) (fun c1279 hs => ?_)
   ·refine fl_skip ?_
    refine hn1277 _ _ ?_
    refine fl_seq (fun Q1280 hn1280 hp1280 => ?_)
    refine fl_block (fun Q1335 hn1335 hx1335 hp1335 => ?_)
    have K1364 : ∀ (a1364 : Act) (w1364 : World) (o1364 : Own) (out1362 : List ((Int × Int) × (Int × Int))) (A1360 : Option Addr) (c1361 : Nat), a1364.defers = [] → a1364.tmps.size = 93 → a1364.eval (.tmp 4) = pt g709 0 → a1364.eval (.tmp 5) = pt g711 0 → a1364.eval (.tmp 6) = pt g713 0 → a1364.eval (.tmp 7) = pt g715 0 → a1364.eval (.tmp 8) = pt g717 0 → a1364.eval (.tmp 10) = pt g726 0 → a1364.eval (.tmp 12) = Zi i1160 → Evo [] own o1364 w w1364 → BlkO o1364 710 w1364 g709 38 #[sl Ag1_0 g1.1 cg1_0, sl Ag1_1 g1.2.1 cg1_1, sl Ag1_2 g1.2.2 cg1_2] → BlkO o1364 712 w1364 g711 44 #[Zi x2.1, Zi x2.2] → BlkO o1364 714 w1364 g713 44 #[Zi b3.1, Zi b3.2] → BlkO o1364 716 w1364 g715 44 #[Zi c4.1, Zi c4.2] → BlkO o1364 718 w1364 g717 38 #[.slice none 0 0, .slice none 0 0, .slice none 0 0] → BlkO o1364 1359 w1364 g726 38 #[sl Ag1_0 g1.1 cg1_0, sl A832 out834 c833, sl A1360 out1362 c1361] → RwO o1364 835 [] w1364 44 R44 A832 c833 out834 → RwO o1364 1363 [] w1364 92 R92 A1360 c1361 out1362 → ref18_Drop_k4 i1160 out1362 = some zz1275 → (Q1335 .normal a1364 w1364 ∧ Q1335 (.exit 3) a1364 w1364) := by
     intro a1364 w1364 o1364 out1362 A1360 c1361 d1365 z1365 e1365_4 e1365_5 e1365_6 e1365_7 e1365_8 e1365_10 e1365_12 hE1365 b1365_g709 b1365_g711 b1365_g713 b1365_g715 b1365_g717 b1365_g726 b1365_A832 b1365_A1360 hs
     refine and_both (hn1335 _ _) (hx1335 _ _) ?_
     refine hn1280 _ _ ?_
     refine rq 93 o1364 (bz 3) [dv [] [12] 52 (Zi i1160), dv [0] [] 53 (Zi (ad i1160 1)), dv [1] [] 12 (Zi (ad i1160 1))] z1365 d1365 ?_ ?_
     ·exact sM e1365_12 <| sF (fun f => or_add f.1 rfl rfl) <| sA <| steps_nil
     intro o1366 a1366 w1366 d1366 z1366 hk1366 hf1366 hE1366
     obtain ⟨e1366_4, e1366_5, e1366_6, e1366_7, e1366_8, e1366_10⟩ := kt6 hk1366 e1365_4 e1365_5 e1365_6 e1365_7 e1365_8 e1365_10
     have e1366_12 := gv (hf1366 [2] rfl) rfl
     have hX1366 := Evo.step hE1365 hown hE1366 rfl
     obtain ⟨b1366_g709, b1366_g711, b1366_g713, b1366_g715, b1366_g717, b1366_g726⟩ := be6 hE1366 b1365_g709 b1365_g711 b1365_g713 b1365_g715 b1365_g717 b1365_g726
     have b1366_A832 := re_ hE1366 b1365_A832
     have b1366_A1360 := re_ hE1366 b1365_A1360
     exact hn1275 _ _ _ hs ⟨(rl [(1359, 1155), (1363, 1159)] o1366), A1360, c1361, d1366, z1366, e1366_4, e1366_5, e1366_6, e1366_7, e1366_8, e1366_10, e1366_12, (Evo.rl_ hX1366 hown rfl), (BlkO.rl_ b1366_g709), (BlkO.rl_ b1366_g711), (BlkO.rl_ b1366_g713), (BlkO.rl_ b1366_g715), (BlkO.rl_ b1366_g717), (BlkO.rl_ b1366_g726), (RwO.rl_ b1366_A832), (RwO.rl_ b1366_A1360)⟩
    obtain ⟨x1367, hx1367, hs⟩ := obind hs
    obtain ⟨r1368, hr1368, hs⟩ := obind hs
    obtain ⟨x1369, hx1369, hs⟩ := obind hs
    obtain ⟨r1370, hr1370, hs⟩ := obind hs
    refine rd_seq g_mixed 93 [] o1278 [] [0, 1, 0, 7, 15, 0, 0, 127, 255, 511, 1023, 2047, 1023, 8191, 16383, 1023, 1023, 131071, 262143, 524287] [dv [] [4] 54 (pt g709 2), dv [0] [] 55 (sl Ag1_2 g1.2.2 cg1_2), dv [] [12] 56 (Zi i1160), dv [1, 2] [] 57 (.pointer (some ((adr Ag1_2).add ((i1160 : Int).toNat * R92.s)))), dv [3] [] 58 (.agg #[Zi x1367.1.1, Zi x1367.1.2, Zi x1367.2.1, Zi x1367.2.2]), dv [] [5] 59 (P2 x2), dv [] [6] 60 (P2 b3), dv [4, 5, 6] [] 61 (.bool r1368), dv [7] [] 62 (.bool (!r1368)), dv [8] [] 63 (.bool (!r1368)), dc [9] [4] (!r1368) 64 (pt g709 2), dc [9, 10] [] (!r1368) 65 (sl Ag1_2 g1.2.2 cg1_2), dc [9] [12] (!r1368) 66 (Zi i1160), dc [9, 11, 12] [] (!r1368) 67 (.pointer (some ((adr Ag1_2).add ((i1160 : Int).toNat * R92.s)))), dc [9, 13] [] (!r1368) 68 (.agg #[Zi x1369.1.1, Zi x1369.1.2, Zi x1369.2.1, Zi x1369.2.2]), dc [9] [6] (!r1368) 69 (P2 b3), dc [9] [7] (!r1368) 70 (P2 c4), dc [9, 14, 15, 16] [] (!r1368) 71 (.bool r1370), dc [9, 17] [] (!r1368) 72 (.bool (!r1370)), dv [9, 18] [] 73 (.bool ((!r1368) && (!r1370)))] z1278 d1278 nm_ ?_ ?_
    ·exact sS (fun s => or_field fo38_2 (s.1.trans e1278_4) (by rfl)) <| sG to36 b1278_g709 <| sM e1278_12 <| sF (fun f => or_index (R := R92) (l := g1.2.2) tl36 f.1 f.2.1 (RdO.some_ (RdO.evo rfl hX1278 hAg1_2) hx1367) hx1367) <| sFE (fun f hE => or_load (l := E92.f x1367) ta92 f.1 (RdO.cells (F := E92) (RdO.evo rfl hE (RdO.evo rfl hX1278 hAg1_2)) hx1367) rfl) <| sL ta44 e1278_5 b1278_g711 <| sL ta44 e1278_6 b1278_g713 <| sF (fun f => or_call cf42 (args3 f.1 f.2.1 f.2.2.1) (ref18_joins_w _ x1367 x2 b3  r1368 hr1368) post_val) <| sF (fun f => or_not f.1 rfl) <| sV <| cT (fun _ s _ _ => or_field fo38_2 (s.1.trans e1278_4) (by rfl)) <| cT (fun f _ hE hg => ld1 to36 (f.2.1.1 hg) (be_ hE b1278_g709)) <| cT (fun _ s _ _ => or_move (s.1.trans e1278_12)) <| cT (fun f _ _ hg => or_index (R := R92) (l := g1.2.2) tl36 (f.2.1.1 hg) (f.2.2.1.1 hg) (RdO.some_ (RdO.evo rfl hX1278 hAg1_2) (gd_t hx1369 hg)) (gd_t hx1369 hg)) <| cT (fun f _ hE hg => or_load (l := E92.f x1369) ta92 (f.2.1.1 hg) (RdO.cells (F := E92) (RdO.evo rfl hE (RdO.evo rfl hX1278 hAg1_2)) (gd_t hx1369 hg)) rfl) <| cTL ta44 e1278_6 b1278_g713 <| cTL ta44 e1278_7 b1278_g715 <| cT (fun f _ _ hg => or_call cf42 (args3 (f.2.1.1 hg) (f.2.2.1.1 hg) (f.2.2.2.1.1 hg)) (ref18_joins_w _ x1369 b3 c4  r1370 (gd_t hr1370 hg)) post_val) <| cT (fun f _ _ hg => or_not (f.2.1.1 hg) rfl) <| sF (fun f => or_and f.1 (fun hx => f.2.1.1 hx) rfl rfl) <| steps_nil
    intro o1371 a1371 w1371 d1371 z1371 hk1371 hf1371 hE1371
    obtain ⟨e1371_4, e1371_5, e1371_6, e1371_7, e1371_8, e1371_10, e1371_12⟩ := kt7 hk1371 e1278_4 e1278_5 e1278_6 e1278_7 e1278_8 e1278_10 e1278_12
    have e1371_73 := gv (hf1371 [19] rfl) rfl
    have hX1371 := Evo.step hX1278 hown hE1371 rfl
    obtain ⟨b1371_g709, b1371_g711, b1371_g713, b1371_g715, b1371_g717, b1371_g726⟩ := be6 hE1371 b1278_g709 b1278_g711 b1278_g713 b1278_g715 b1278_g717 b1278_g726
    have b1371_A832 := re_ hE1371 b1278_A832
    have b1371_A1156 := re_ hE1371 b1278_A1156
    refine fl_cond e1371_73 hs (fun c1372 hs => ?_) (fun c1372 hs => ?_)
    ·obtain ⟨x1382, hx1382, hs⟩ := obind hs
     obtain ⟨x1385, hx1385, hs⟩ := obind hs
     refine rd_ g_mixed 93 [Fct.rowAt 1159 [] 92 R92 A1156 c1157 out1158, Fct.at_ 1155 g726 38 #[sl Ag1_0 g1.1 cg1_0, sl A832 out834 c833, sl A1156 out1158 c1157]] o1371 [1159, 1155] [0, 1, 0, 4, 0, 28, 60, 124, 255, 511, 1023] [dv [] [10] 74 (pt g726 2), dv [0, 12] [] 75 (sl A1156 out1158 c1157), dv [] [4] 76 (pt g709 2), dv [2] [] 77 (sl Ag1_2 g1.2.2 cg1_2), dv [] [12] 78 (Zi i1160), dv [3, 4] [] 79 (.pointer (some ((adr Ag1_2).add ((i1160 : Int).toNat * R92.s)))), dv [5] [] 80 (.agg #[Zi x1382.1.1, Zi x1382.1.2, Zi x1382.2.1, Zi x1382.2.2]), ⟨[6], [], [], Fct.row 1384 [] 81 92 R92 [x1382]⟩, ⟨[1, 7, 11], [], [1159], Fct.row 1386 [] 82 92 R92 x1385⟩, dv [] [10] 83 (pt g726 2), ⟨[9, 8, 12], [], [1155], Fct.by_ [1388] [82] (fun l own w => ∀ (A1387 : Option Addr) (cA1387 : Nat), l.getD 0 undef = sl A1387 x1385 cA1387 → BlkO own 1388 w g726 38 #[sl Ag1_0 g1.1 cg1_0, sl A832 out834 c833, sl A1387 x1385 cA1387]) (fun hk he h _ _ h0' => BlkO.evo (not_hit hk (by decide)) he (h _ _ h0'))⟩] z1371 d1371 (fm2 b1371_A1156 b1371_g726) ?_ ?_
     ·refine sS (fun s => or_field fo38_2 (s.1.trans e1371_10) (by rfl)) ?_
      refine sc (fun own a wx hf hsl hE => ?_) ?_
      ·obtain ⟨f_74, (b_g726 : BlkO own 1155 wx g726 38 #[sl Ag1_0 g1.1 cg1_0, sl A832 out834 c833, sl A1156 out1158 c1157]), -⟩ := hf
       exact px (ld1 to36 f_74 b_g726)
      refine sS (fun s => or_field fo38_2 (s.1.trans e1371_4) (by rfl)) <| sG to36 b1371_g709 <| sM e1371_12 <| sF (fun f => or_index (R := R92) (l := g1.2.2) tl36 f.1 f.2.1 (RdO.some_ (RdO.evo rfl hX1371 hAg1_2) hx1382) hx1382) <| sFE (fun f hE => or_load (l := E92.f x1382) ta92 f.1 (RdO.cells (F := E92) (RdO.evo rfl hE (RdO.evo rfl hX1371 hAg1_2)) hx1382) rfl) <| sF (fun f => or_lit (lab := 1384) (e := 92) (cs := #[Zi x1382.1.1, Zi x1382.1.2, Zi x1382.2.1, Zi x1382.2.2]) (F := E92) (nw1 f.1) rfl rfl (show 1 ≤ maxLen by decide)) ?_
      refine sc (fun own a wx hf hsl hE => ?_) ?_
      ·obtain ⟨f_75, ⟨⟨A1383, cA1383⟩, f_81, b_A1383⟩, b_A1156, -⟩ := hf
       exact px (or_append (R := R92) (lab := 1159) (lab2 := 1386) (L := []) (L3 := []) tp36 f_75 b_A1156 (by decide) f_81 (RwO.rd b_A1383) hx1385 (by decide) (by decide) (mem_of rfl) (.inl (Rep.fl_flat _)))
      refine sS (fun s => or_field fo38_2 (s.1.trans e1371_10) (by rfl)) ?_
      refine sc (fun own a wx hf hsl hE => ?_) ?_
      ·obtain ⟨f_83, ⟨⟨A1387, cA1387⟩, (f_82 : a.eval (.tmp 82) = sl A1387 x1385 cA1387), b_A1387⟩, b_g726, -⟩ := hf
       exact px (or_store1 (lab := 1155) (lab2 := 1388) ts36 f_83 f_82 b_g726 (by simp) rfl (mem_of rfl) (by decide) rfl (fun own' a' w' ha hb => fun _ _ h0' => by cases (f_82.symm.trans ((ha 82).symm.trans h0')); exact hb))
      exact steps_nil
     intro o1389 a1389 w1389 d1389 z1389 hk1389 hf1389 hE1389
     obtain ⟨e1389_4, e1389_5, e1389_6, e1389_7, e1389_8, e1389_10, e1389_12⟩ := kt7 hk1389 e1371_4 e1371_5 e1371_6 e1371_7 e1371_8 e1371_10 e1371_12
     obtain ⟨⟨⟨A1387, cA1387⟩, (f_82 : a1389.eval (.tmp 82) = sl A1387 x1385 cA1387), (b1389_A1387 : RwO o1389 1386 [] w1389 92 R92 A1387 cA1387 x1385)⟩, (bq_g726 : ∀ (A1387 : Option Addr) (cA1387 : Nat), a1389.eval (.tmp 82) = sl A1387 x1385 cA1387 → BlkO o1389 1388 w1389 g726 38 #[sl Ag1_0 g1.1 cg1_0, sl A832 out834 c833, sl A1387 x1385 cA1387]), -⟩ := hf1389 [8, 10] rfl
     have b1389_g726 := bq_g726 _ _ f_82
     have hX1389 := Evo.step hX1371 hown hE1389 rfl
     obtain ⟨b1389_g709, b1389_g711, b1389_g713, b1389_g715, b1389_g717⟩ := be5 hE1389 b1371_g709 b1371_g711 b1371_g713 b1371_g715 b1371_g717
     have b1389_A832 := re_ hE1389 b1371_A832
     exact (K1364 _ _ (rl [(1386, 1363), (1388, 1359)] o1389) _ A1387 cA1387 d1389 z1389 e1389_4 e1389_5 e1389_6 e1389_7 e1389_8 e1389_10 e1389_12 (Evo.rl_ hX1389 hown rfl) (BlkO.rl_ b1389_g709) (BlkO.rl_ b1389_g711) (BlkO.rl_ b1389_g713) (BlkO.rl_ b1389_g715) (BlkO.rl_ b1389_g717) (BlkO.rl_ b1389_g726) (RwO.rl_ b1389_A832) (RwO.rl_ b1389_A1387) hs).1
    refine fl_skip ?_
    exact (K1364 _ _ (rl [(1155, 1359), (1159, 1363)] o1371) _ A1156 c1157 d1371 z1371 e1371_4 e1371_5 e1371_6 e1371_7 e1371_8 e1371_10 e1371_12 (Evo.rl_ hX1371 hown rfl) (BlkO.rl_ b1371_g709) (BlkO.rl_ b1371_g711) (BlkO.rl_ b1371_g713) (BlkO.rl_ b1371_g715) (BlkO.rl_ b1371_g717) (BlkO.rl_ b1371_g726) (RwO.rl_ b1371_A832) (RwO.rl_ b1371_A1156) hs).1
   refine fl_exit ?_
   refine hp1277 _ _ _ rfl ?_
   replace hs := z1275 _ hs
   refine hp1275 _ _ _ rfl ?_
   refine hx1044 _ _ ?_
   refine hn1042 _ _ ?_
   obtain ⟨x1399, hx1399, hs⟩ := obind hs
   refine rr_seq 93 [Fct.rowAt 1159 [] 92 R92 A1156 c1157 out1158, Fct.at_ 1155 g726 38 #[sl Ag1_0 g1.1 cg1_0, sl A832 out834 c833, sl A1156 out1158 c1157]] o1278 [1159, 1155] [0, 1, 0, 0, 12, 28, 63, 127, 255] [dv [] [10] 84 (pt g726 2), dv [0, 10] [] 85 (sl A1156 out1158 c1157), dv [] [5] 86 (P2 x2), dv [] [7] 87 (P2 c4), dv [2, 3] [] 88 (.agg #[Zi x2.1, Zi x2.2, Zi c4.1, Zi c4.2]), ⟨[4], [], [], Fct.row 1398 [] 89 92 R92 [(x2, c4)]⟩, ⟨[1, 5, 9], [], [1159], Fct.row 1400 [] 90 92 R92 x1399⟩, dv [] [10] 91 (pt g726 2), ⟨[7, 6, 10], [], [1155], Fct.by_ [1402] [90] (fun l own w => ∀ (A1401 : Option Addr) (cA1401 : Nat), l.getD 0 undef = sl A1401 x1399 cA1401 → BlkO own 1402 w g726 38 #[sl Ag1_0 g1.1 cg1_0, sl A832 out834 c833, sl A1401 x1399 cA1401]) (fun hk he h _ _ h0' => BlkO.evo (not_hit hk (by decide)) he (h _ _ h0'))⟩] z1278 d1278 (fm2 b1278_A1156 b1278_g726) ?_ ?_
   ·refine sS (fun s => or_field fo38_2 (s.1.trans e1278_10) (by rfl)) ?_
    refine sc (fun own a wx hf hsl hE => ?_) ?_
    ·obtain ⟨f_84, (b_g726 : BlkO own 1155 wx g726 38 #[sl Ag1_0 g1.1 cg1_0, sl A832 out834 c833, sl A1156 out1158 c1157]), -⟩ := hf
     exact px (ld1 to36 f_84 b_g726)
    refine sL ta44 e1278_5 b1278_g711 <| sL ta44 e1278_7 b1278_g715 <| sF (fun f => ok2 f.1 f.2.1) <| sF (fun f => or_lit (lab := 1398) (e := 92) (cs := #[Zi x2.1, Zi x2.2, Zi c4.1, Zi c4.2]) (F := E92) (nw1 f.1) rfl rfl (show 1 ≤ maxLen by decide)) ?_
    refine sc (fun own a wx hf hsl hE => ?_) ?_
    ·obtain ⟨f_85, ⟨⟨A1397, cA1397⟩, f_89, b_A1397⟩, b_A1156, -⟩ := hf
     exact px (or_append (R := R92) (lab := 1159) (lab2 := 1400) (L := []) (L3 := []) tp36 f_85 b_A1156 (by decide) f_89 (RwO.rd b_A1397) hx1399 (by decide) (by decide) (mem_of rfl) (.inl (Rep.fl_flat _)))
    refine sS (fun s => or_field fo38_2 (s.1.trans e1278_10) (by rfl)) ?_
    refine sc (fun own a wx hf hsl hE => ?_) ?_
    ·obtain ⟨f_91, ⟨⟨A1401, cA1401⟩, (f_90 : a.eval (.tmp 90) = sl A1401 x1399 cA1401), b_A1401⟩, b_g726, -⟩ := hf
     exact px (or_store1 (lab := 1155) (lab2 := 1402) ts36 f_91 f_90 b_g726 (by simp) rfl (mem_of rfl) (by decide) rfl (fun own' a' w' ha hb => fun _ _ h0' => by cases (f_90.symm.trans ((ha 90).symm.trans h0')); exact hb))
    exact steps_nil
   intro o1403 a1403 w1403 d1403 z1403 hk1403 hf1403 hE1403
   obtain ⟨e1403_8, e1403_10⟩ := kt2 hk1403 e1278_8 e1278_10
   obtain ⟨⟨⟨A1401, cA1401⟩, (f_90 : a1403.eval (.tmp 90) = sl A1401 x1399 cA1401), (b1403_A1401 : RwO o1403 1400 [] w1403 92 R92 A1401 cA1401 x1399)⟩, (bq_g726 : ∀ (A1401 : Option Addr) (cA1401 : Nat), a1403.eval (.tmp 90) = sl A1401 x1399 cA1401 → BlkO o1403 1402 w1403 g726 38 #[sl Ag1_0 g1.1 cg1_0, sl A832 out834 c833, sl A1401 x1399 cA1401]), -⟩ := hf1403 [6, 8] rfl
   have b1403_g726 := bq_g726 _ _ f_90
   have hX1403 := Evo.step hX1278 hown hE1403 rfl
   have b1403_g717 := be_ hE1403 b1278_g717
   have b1403_A832 := re_ hE1403 b1278_A832
   refine rr_seq 93 [Fct.at_ 718 g717 38 #[.slice none 0 0, .slice none 0 0, .slice none 0 0]] o1403 [718] (bz 3) [dv [] [10] 92 (.agg #[sl Ag1_0 g1.1 cg1_0, sl A832 out834 c833, sl A1401 x1399 cA1401]), ⟨[0, 3], [8], [718], Fct.at_ 1404 g717 38 #[sl Ag1_0 g1.1 cg1_0, sl A832 out834 c833, sl A1401 x1399 cA1401]⟩, dv [] [] 9 (.bool true)] z1403 d1403 (fm1 b1403_g717) ?_ ?_
   ·refine sL ta38 e1403_10 b1403_g726 ?_
    refine sc (fun own a wx hf hsl hE => ?_) ?_
    ·obtain ⟨f_92, b_g717, -⟩ := hf
     obtain ⟨s_8, -⟩ := hsl
     exact px (or_store (l := #[sl Ag1_0 g1.1 cg1_0, sl A832 out834 c833, sl A1401 x1399 cA1401]) (lab := 718) (lab2 := 1404) ts38 (s_8.trans e1403_8) f_92 b_g717 (by simp) (by kernel_rfl) (mem_of rfl) (by decide) (by kernel_rfl) (fun own' a' w' ha hb => hb))
    exact sO (or_assign rfl) <| steps_nil
   intro o1405 a1405 w1405 d1405 z1405 hk1405 hf1405 hE1405
   have e1405_8 := kt hk1405 e1403_8
   have e1405_9 := gv (hf1405 [2] rfl) rfl
   obtain ⟨(b1405_g717 : BlkO o1405 1404 w1405 g717 38 #[sl Ag1_0 g1.1 cg1_0, sl A832 out834 c833, sl A1401 x1399 cA1401]), -⟩ := hf1405 [1] rfl
   have hX1405 := Evo.step hX1403 hown hE1405 rfl
   have b1405_A832 := re_ hE1405 b1403_A832
   have b1405_A1401 := re_ hE1405 b1403_A1401
   refine fl_ret ?_
   obtain rfl := osome hs
   exact hret _ _ _ _ (.inl rfl) d1405 (results2_ rfl (RVal.cell_ e1405_8 (run_loadVarAgg (l := [sl Ag1_0 g1.1 cg1_0, sl A832 out834 c833, sl A1401 x1399 cA1401]) ta38 (Blk.cellsFrom b1405_g717.2 0 rfl) rfl)) (RVal.tmp_ e1405_9)) ⟨(rl [(835, 3), (1400, 4)] o1405), ((Ag1_0, cg1_0), (A832, c833), (A1401, cA1401)), rfl, (Evo.rl_ hX1405 hown rfl), (RdO.more (RdO.rl_ (RdO.evo rfl hX1405 hAg1_0)) (by decide)), (RdO.more (RdO.rl_ (RwO.rd b1405_A832)) (by decide)), (RdO.more (RdO.rl_ (RwO.rd b1405_A1401)) (by decide))⟩
theorem ref03_Same_w (w : World) (x1 : List (Int × Int)) (Ax1 : Option Addr) (cx1 : Nat) (b2 : List (Int × Int)) (Ab2 : Option Addr) (cb2 : Nat) (hx1 : RdO (fun _ => 0) [0] w R44 Ax1 cx1 x1) (hb2 : RdO (fun _ => 0) [0] w R44 Ab2 cb2 b2) (r : Bool) (hs : ref03_Same x1 b2 = some r) :
  Calls Try.prog 43 #[sl Ax1 x1 cx1, sl Ab2 b2 cb2] w fun e w' => ∃ own' : Own, e = .returned (.bool r) ∧ Evo [] (fun _ => 0) own' w w' := by
 refine fl_enter (n := 26) rfl rfl rfl (Nat.le_of_ble_eq_true rfl) ?_
 intro a0 Q d0 z0 harg hret
 have ha0 := harg 0 _ rfl
 have ha1 := harg 1 _ rfl
 clear harg
 have hE0 : Evo [] (fun _ => 0) (fun _ => 0) w w := Evo.refl _ _ _
 refine rq_seq 26 (fun _ => 0) (bz 1) [dv [] [] 4 (.bool false)] z0 d0 ?_ ?_
 ·exact sO (or_assign rfl) <| steps_nil
 intro o58 a58 w58 d58 z58 hk58 hf58 hE58
 obtain ⟨e58_0, e58_1⟩ := kt2 hk58 ha0 ha1
 have hX58 := es_ hE0 hE58
 refine fl_seq (fun Q59 hn59 hp59 => ?_)
 refine rq_seq 26 o58 [0, 1, 0, 4, 15] [dv [] [0] 6 (sl Ax1 x1 cx1), dv [0] [] 7 (Zi (x1.length : Int)), dv [] [1] 8 (sl Ab2 b2 cb2), dv [2] [] 9 (Zi (b2.length : Int)), dv [1, 3] [] 10 (.bool (!decide ((x1.length : Int) = (b2.length : Int))))] z58 d58 ?_ ?_
 ·exact sM e58_0 <| sF (fun f => or_len tu35 f.1 rfl) <| sM e58_1 <| sF (fun f => or_len tu35 f.1 rfl) <| sF (fun f => or_neq f.1 f.2.1 rfl) <| steps_nil
 intro o60 a60 w60 d60 z60 hk60 hf60 hE60
 obtain ⟨e60_0, e60_1⟩ := kt2 hk60 e58_0 e58_1
 have e60_10 := gv (hf60 [4] rfl) rfl
 have hX60 := es_ hX58 hE60
 refine fl_cond e60_10 hs (fun c61 hs => ?_) (fun c61 hs => ?_)
 ·refine rq_seq 26 o60 (bz 1) [dv [] [] 4 (.bool false)] z60 d60 ?_ ?_
  ·exact sO (or_assign rfl) <| steps_nil
  intro o62 a62 w62 d62 z62 hk62 hf62 hE62
  have e62_4 := gv (hf62 [0] rfl) rfl
  have hX62 := es_ hX60 hE62
  refine fl_ret ?_
  refine hp59 _ _ _ rfl ?_
  obtain rfl := osome hs
  exact hret _ _ _ _ (.inl rfl) d62 (results1_ rfl (RVal.tmp_ e62_4)) ⟨o62, rfl, hX62⟩
 refine fl_skip ?_
 refine hn59 _ _ ?_
 refine fl_seq (fun Q63 hn63 hp63 => ?_)
 refine rq_seq 26 o60 (bz 1) [dv [] [] 5 (Zi 0)] z60 d60 ?_ ?_
 ·exact sO (or_assign rfl) <| steps_nil
 intro o64 a64 w64 d64 z64 hk64 hf64 hE64
 obtain ⟨e64_0, e64_1⟩ := kt2 hk64 e60_0 e60_1
 have e64_5 := gv (hf64 [0] rfl) rfl
 have hX64 := es_ hX60 hE64
 refine fl_block (fun Q65 hn65 hx65 hp65 => ?_)
 refine fl_loop (body := (fun s => ref03_Same_b1 x1 b2 s)) (z := r) (show loopO _ _ = _ from hs) (fun (i78 : Int) a wx => ∃ (ox : Own), a.defers = [] ∧ a.tmps.size = 26 ∧ a.eval (.tmp 0) = sl Ax1 x1 cx1 ∧ a.eval (.tmp 1) = sl Ab2 b2 cb2 ∧ a.eval (.tmp 5) = Zi i78 ∧ Evo [] (fun _ => 0) ox w wx) ?_ ?_
 ·exact ⟨o64, d64, z64, e64_0, e64_1, e64_5, hX64⟩
 ·rintro i78 zz91 a91 w91 ⟨o91, d92, z92, e92_0, e92_1, e92_5, hE92⟩ hs Q91 hn91 hp91 z91
  have hs : ref03_Same_b1 x1 b2 i78 = some zz91 := hs
  refine fl_seq (fun Q93 hn93 hp93 => ?_)
  refine rq_seq 26 o91 [0, 0, 2, 7] [dv [] [5] 11 (Zi i78), dv [] [0] 12 (sl Ax1 x1 cx1), dv [1] [] 13 (Zi (x1.length : Int)), dv [0, 2] [] 14 (.bool (decide (i78 < (x1.length : Int))))] z92 d92 ?_ ?_
  ·exact sM e92_5 <| sM e92_0 <| sF (fun f => or_len tu35 f.1 rfl) <| sF (fun f => or_lss f.1 f.2.1 rfl) <| steps_nil
  intro o94 a94 w94 d94 z94 hk94 hf94 hE94
  obtain ⟨e94_0, e94_1, e94_5⟩ := kt3 hk94 e92_0 e92_1 e92_5
  have e94_14 := gv (hf94 [3] rfl) rfl
  have hX94 := es_ hE92 hE94
  refine fl_cond e94_14 hs (fun c95 hs => ?_) (fun c95 hs => ?_)
  ·refine fl_skip ?_
   refine hn93 _ _ ?_
   refine fl_seq (fun Q96 hn96 hp96 => ?_)
   refine fl_block (fun Q97 hn97 hx97 hp97 => ?_)
   obtain ⟨x98, hx98, hs⟩ := obind hs
   obtain ⟨x99, hx99, hs⟩ := obind hs
   refine rd_seq g_mixed 26 [] o94 [] [0, 0, 3, 7, 0, 0, 48, 112, 255] [dv [] [0] 17 (sl Ax1 x1 cx1), dv [] [5] 18 (Zi i78), dv [0, 1] [] 19 (.pointer (some ((adr Ax1).add ((i78 : Int).toNat * R44.s)))), dv [2] [] 20 (P2 x98), dv [] [1] 21 (sl Ab2 b2 cb2), dv [] [5] 22 (Zi i78), dv [4, 5] [] 23 (.pointer (some ((adr Ab2).add ((i78 : Int).toNat * R44.s)))), dv [6] [] 24 (P2 x99), dv [3, 7] [] 25 (.bool (!decide (x98 = x99)))] z94 d94 nm_ ?_ ?_
   ·exact sM e94_0 <| sM e94_5 <| sF (fun f => or_index (R := R44) (l := x1) tl35 f.1 f.2.1 (RdO.some_ (RdO.evo rfl hX94 hx1) hx98) hx98) <| sFE (fun f hE => or_load (l := E44.f x98) ta44 f.1 (RdO.cells (F := E44) (RdO.evo rfl hE (RdO.evo rfl hX94 hx1)) hx98) rfl) <| sM e94_1 <| sM e94_5 <| sF (fun f => or_index (R := R44) (l := b2) tl35 f.1 f.2.1 (RdO.some_ (RdO.evo rfl hX94 hb2) hx99) hx99) <| sFE (fun f hE => or_load (l := E44.f x99) ta44 f.1 (RdO.cells (F := E44) (RdO.evo rfl hE (RdO.evo rfl hX94 hb2)) hx99) rfl) <| sF (fun f => or_neqA sg44 f.1 f.2.1 (sn44 x98.1 x98.2 x99.1 x99.2 _) rfl) <| steps_nil
   intro o100 a100 w100 d100 z100 hk100 hf100 hE100
   obtain ⟨e100_0, e100_1, e100_5⟩ := kt3 hk100 e94_0 e94_1 e94_5
   have e100_25 := gv (hf100 [8] rfl) rfl
   have hX100 := es_ hX94 hE100
   refine fl_cond e100_25 hs (fun c101 hs => ?_) (fun c101 hs => ?_)
   ·refine rq_seq 26 o100 (bz 1) [dv [] [] 4 (.bool false)] z100 d100 ?_ ?_
    ·exact sO (or_assign rfl) <| steps_nil
    intro o102 a102 w102 d102 z102 hk102 hf102 hE102
    have e102_4 := gv (hf102 [0] rfl) rfl
    have hX102 := es_ hX100 hE102
    refine fl_ret ?_
    refine hp97 _ _ _ rfl ?_
    refine hp96 _ _ _ rfl ?_
    replace hs := z91 _ hs
    refine hp91 _ _ _ rfl ?_
    refine hp65 _ _ _ rfl ?_
    refine hp63 _ _ _ rfl ?_
    obtain rfl := osome hs
    exact hret _ _ _ _ (.inl rfl) d102 (results1_ rfl (RVal.tmp_ e102_4)) ⟨o102, rfl, hX102⟩
   refine fl_skip ?_
   refine hn97 _ _ ?_
   refine hn96 _ _ ?_
   refine rq 26 o100 (bz 3) [dv [] [5] 15 (Zi i78), dv [0] [] 16 (Zi (ad i78 1)), dv [1] [] 5 (Zi (ad i78 1))] z100 d100 ?_ ?_
   ·exact sM e100_5 <| sF (fun f => or_add f.1 rfl rfl) <| sA <| steps_nil
   intro o103 a103 w103 d103 z103 hk103 hf103 hE103
   obtain ⟨e103_0, e103_1⟩ := kt2 hk103 e100_0 e100_1
   have e103_5 := gv (hf103 [2] rfl) rfl
   have hX103 := es_ hX100 hE103
   exact hn91 _ _ _ hs ⟨o103, d103, z103, e103_0, e103_1, e103_5, hX103⟩
  refine fl_exit ?_
  refine hp93 _ _ _ rfl ?_
  replace hs := z91 _ hs
  refine hp91 _ _ _ rfl ?_
  refine hx65 _ _ ?_
  refine hn63 _ _ ?_
  refine rq_seq 26 o94 (bz 1) [dv [] [] 4 (.bool true)] z94 d94 ?_ ?_
  ·exact sO (or_assign rfl) <| steps_nil
  intro o104 a104 w104 d104 z104 hk104 hf104 hE104
  have e104_4 := gv (hf104 [0] rfl) rfl
  have hX104 := es_ hX94 hE104
  refine fl_ret ?_
  obtain rfl := osome hs
  exact hret _ _ _ _ (.inl rfl) d104 (results1_ rfl (RVal.tmp_ e104_4)) ⟨o104, rfl, hX104⟩
theorem law03_Same_w (w : World) (l1 : List (Int × Int)) (Al1 : Option Addr) (cl1 : Nat) (x2 : List (Int × Int)) (Ax2 : Option Addr) (cx2 : Nat) (hl1 : RdO (fun _ => 0) [0] w R25 Al1 cl1 l1) (hx2 : RdO (fun _ => 0) [0] w R44 Ax2 cx2 x2) (r : Bool) (hs : law03_Same l1 x2 = some r) :
  Calls Try.prog 23 #[sl Al1 l1 cl1, sl Ax2 x2 cx2] w fun e w' => ∃ own' : Own, e = .returned (.bool r) ∧ Evo [] (fun _ => 0) own' w w' := by
 refine fl_enter (n := 9) rfl rfl rfl (Nat.le_of_ble_eq_true rfl) ?_
 intro a0 Q d0 z0 harg hret
 have ha0 := harg 0 _ rfl
 have ha1 := harg 1 _ rfl
 clear harg
 have hE0 : Evo [] (fun _ => 0) (fun _ => 0) w w := Evo.refl _ _ _
 refine rq_seq 9 (fun _ => 0) (bz 1) [dv [] [] 4 (.bool false)] z0 d0 ?_ ?_
 ·exact sO (or_assign rfl) <| steps_nil
 intro o17 a17 w17 d17 z17 hk17 hf17 hE17
 obtain ⟨e17_0, e17_1⟩ := kt2 hk17 ha0 ha1
 have hX17 := es_ hE0 hE17
 obtain ⟨r18, hr18, hs⟩ := obind hs
 obtain ⟨r21, hr21, hs⟩ := obind hs
 refine rq_seq 9 o17 [0, 1, 0, 7, 15] [dv [] [0] 5 (sl Al1 l1 cl1), ⟨[0], [], [], Fct.row 20 [] 6 44 R44 r18⟩, dv [] [1] 7 (sl Ax2 x2 cx2), dv [1, 2] [] 8 (.bool r21), dv [3] [] 4 (.bool r21)] z17 d17 ?_ ?_
 ·refine sM e17_0 <| sFE (fun f hE => or_call cf37 (args1 f.1) (law01_Ofs_w _ l1 Al1 cl1 (RdO.zero (RdO.evo rfl hE (RdO.evo rfl hX17 hl1))) r18 hr18) (post_row (m' := (look0 [(1, 20)])) (.inl (Rep.fl_flat _)) rfl rfl (fun _ => rfl))) <| sM e17_1 ?_
  refine sc (fun own a wx hf hsl hE => ?_) ?_
  ·obtain ⟨⟨⟨A19, cA19⟩, f_6, b_A19⟩, f_7, -⟩ := hf
   exact px (or_call cf43 (args2 f_6 f_7) (ref03_Same_w _ r18 A19 cA19 x2 Ax2 cx2 (RdO.zero (RwO.rd b_A19)) (RdO.zero (RdO.evo rfl hE (RdO.evo rfl hX17 hx2))) r21 hr21) post_val)
  exact sA <| steps_nil
 intro o22 a22 w22 d22 z22 hk22 hf22 hE22
 have e22_4 := gv (hf22 [4] rfl) rfl
 have hX22 := es_ hX17 hE22
 refine fl_ret ?_
 obtain rfl := (osome hs).symm
 exact hret _ _ _ _ (.inl rfl) d22 (results1_ rfl (RVal.tmp_ e22_4)) ⟨o22, rfl, hX22⟩
theorem slices_Clone_api_Point_api_Point_w (w : World) (s1 : List (Int × Int)) (As1 : Option Addr) (cs1 : Nat) (hs1 : RdO (fun _ => 0) [0] w R25 As1 cs1 s1) (r : List (Int × Int)) (hs : slices_Clone_api_Point_api_Point s1 = some r) :
  Calls Try.prog 70 #[sl As1 s1 cs1] w fun e w' => ∃ (own' : Own) (x : Option Addr × Nat), e = .returned (.slice x.1 r.length x.2) ∧ Evo [] (fun _ => 0) own' w w' ∧ RwO own' 1 [] w' 25 R25 x.1 x.2 r := by
 refine fl_enter (n := 8) rfl rfl rfl (Nat.le_of_ble_eq_true rfl) ?_
 intro a0 Q d0 z0 harg hret
 have ha0 := harg 0 _ rfl
 clear harg
 have hE0 : Evo [] (fun _ => 0) (fun _ => 0) w w := Evo.refl _ _ _
 refine rq_seq 8 (fun _ => 0) (bz 1) [dv [] [] 2 (.slice none 0 0)] z0 d0 ?_ ?_
 ·exact sO (or_assign rfl) <| steps_nil
 intro o22 a22 w22 d22 z22 hk22 hf22 hE22
 have e22_0 := kt hk22 ha0
 have hX22 := es_ hE0 hE22
 refine fl_seq (fun Q23 hn23 hp23 => ?_)
 refine rq_seq 8 o22 (bz 2) [dv [] [0] 3 (sl As1 s1 cs1), dv [0] [] 4 (.bool As1.isNone)] z22 d22 ?_ ?_
 ·exact sM e22_0 <| sF (fun f => or_eqlNil tu55 f.1 rfl) <| steps_nil
 intro o24 a24 w24 d24 z24 hk24 hf24 hE24
 have e24_0 := kt hk24 e22_0
 have e24_4 := gv (hf24 [1] rfl) rfl
 have hX24 := es_ hX22 hE24
 refine wpIn_cond_split e24_4 (fun hA25 => ?_) (fun hA25 => ?_)
 ·have hl25 : s1 = [] := RdO.nil_of (RdO.evo rfl hX24 hs1) hA25
  have hs0 : ((app ([] : List (Int × Int)) s1).bind fun x28 => some x28) = some r := hs
  have hs : (some ([] : List (Int × Int))) = some r := by simpa [hl25, app, cut, capB] using hs0
  refine rq_seq 8 o24 (bz 1) [dv [] [] 2 (.slice none 0 0)] z24 d24 ?_ ?_
  ·exact sO (or_assign rfl) <| steps_nil
  intro o32 a32 w32 d32 z32 hk32 hf32 hE32
  have e32_2 := gv (hf32 [0] rfl) rfl
  have hX32 := es_ hX24 hE32
  refine fl_ret ?_
  refine hp23 _ _ _ rfl ?_
  obtain rfl := osome hs
  exact hret _ _ _ _ (.inl rfl) d32 (results1_ rfl (RVal.tmp_ e32_2)) ⟨o32, (none, 0), rfl, hX32, RwO.nil_⟩
 refine fl_skip ?_
 refine hn23 _ _ ?_
 obtain ⟨x28, hx28, hs⟩ := obind hs
 refine rp_seq 8 o24 [27] [0, 0, 3, 7] [⟨[], [], [], Fct.row 27 [] 5 25 R25 ([] : List (Int × Int))⟩, dv [] [0] 6 (sl As1 s1 cs1), ⟨[0, 1], [], [27], Fct.row 29 [] 7 25 R25 x28⟩, ⟨[2], [], [], Fct.rel [2, 7] (fun l => ∀ (A30 : Option Addr) (cA30 : Nat), l.getD 1 undef = sl A30 x28 cA30 → l.getD 0 undef = sl A30 x28 cA30)⟩] z24 d24 ?_ ?_
 ·refine sO (or_lit (lab := 27) (e := 25) (cs := #[]) (F := E25) (nw0) rfl rfl (show 0 ≤ maxLen by decide)) <| sM e24_0 ?_
  refine sc (fun own a wx hf hsl hE => ?_) ?_
  ·obtain ⟨⟨⟨A26, cA26⟩, f_5, b_A26⟩, f_6, -⟩ := hf
   exact px (or_append (R := R25) (lab := 27) (lab2 := 29) (L := []) (L3 := []) tp55 f_5 b_A26 (by decide) f_6 (RdO.evo rfl hE (RdO.evo rfl hX24 hs1)) hx28 (by decide) (by decide) (mem_of rfl) (.inl (Rep.fl_flat _)))
  refine sc (fun own a wx hf hsl hE => ?_) ?_
  ·obtain ⟨⟨⟨A30, cA30⟩, (f_7 : a.eval (.tmp 7) = sl A30 x28 cA30), b_A30⟩, -⟩ := hf
   exact px (or_mono (f := Fct.val 2 (sl A30 x28 cA30)) (or_assign f_7) (fun own' a' w' v' hp h => fun _ _ h0' => by cases (f_7.symm.trans ((hp.2 7 (by decide)).symm.trans h0')); exact h))
  exact steps_nil
 intro o31 a31 w31 d31 z31 hk31 hf31 hE31
 obtain ⟨⟨⟨A30, cA30⟩, (f_7 : a31.eval (.tmp 7) = sl A30 x28 cA30), (b31_A30 : RwO o31 29 [] w31 25 R25 A30 cA30 x28)⟩, (q_2 : ∀ (A30 : Option Addr) (cA30 : Nat), a31.eval (.tmp 7) = sl A30 x28 cA30 → a31.eval (.tmp 2) = sl A30 x28 cA30), -⟩ := hf31 [2, 3] rfl
 have e31_2 := q_2 _ _ f_7
 have hX31 := es_ hX24 hE31
 refine fl_ret ?_
 obtain rfl := (osome hs).symm
 exact hret _ _ _ _ (.inl rfl) d31 (results1_ rfl (RVal.tmp_ e31_2)) ⟨(rl [(29, 1)] o31), (A30, cA30), rfl, (Evo.rl_ hX31 (fun _ => Nat.le_refl 0) rfl), (RwO.rl_ b31_A30)⟩
theorem order_merged_api_Point_Less_w (w : World) (x1 : List (Int × Int)) (Ax1 : Option Addr) (cx1 : Nat) (b2 : List (Int × Int)) (Ab2 : Option Addr) (cb2 : Nat) (hx1 : RdO (fun _ => 0) [0] w R25 Ax1 cx1 x1) (hb2 : RdO (fun _ => 0) [0] w R25 Ab2 cb2 b2) (r : List (Int × Int)) (hs : order_merged_api_Point_Less x1 b2 = some r) :
  Calls Try.prog 71 #[sl Ax1 x1 cx1, sl Ab2 b2 cb2, .func (.func 51) #[] #[]] w fun e w' => ∃ (own' : Own) (x : Option Addr × Nat), e = .returned (.slice x.1 r.length x.2) ∧ Evo [] (fun _ => 0) own' w w' ∧ RwO own' 1 [] w' 25 R25 x.1 x.2 r := by
 refine fl_enter (n := 51) rfl rfl rfl (Nat.le_of_ble_eq_true rfl) ?_
 intro a0 Q d0 z0 harg hret
 have ha0 := harg 0 _ rfl
 have ha1 := harg 1 _ rfl
 have ha2 := harg 2 _ rfl
 clear harg
 have hE0 : Evo [] (fun _ => 0) (fun _ => 0) w w := Evo.refl _ _ _
 refine rq_seq 51 (fun _ => 0) (bz 1) [dv [] [] 6 (.slice none 0 0)] z0 d0 ?_ ?_
 ·exact sO (or_assign rfl) <| steps_nil
 intro o204 a204 w204 d204 z204 hk204 hf204 hE204
 obtain ⟨e204_0, e204_1, e204_2⟩ := kt3 hk204 ha0 ha1 ha2
 have hX204 := es_ hE0 hE204
 refine fl_scope (S := ((List (Int × Int)) × (List (Int × Int)) × (List (Int × Int)))) (body := (fun s => order_merged_api_Point_Less_b1_0 s.1 s.2.1 s.2.2)) (z := r) (fun _ => 0) ?_ (fun s a wx => ((fun (s : (List (Int × Int)) × (List (Int × Int)) × (List (Int × Int))) => match s with | (x254, b257, out260) => ∃ (ox : Own) (A252 : Option Addr) (c253 : Nat) (A255 : Option Addr) (c256 : Nat) (A258 : Option Addr) (c259 : Nat), a.defers = [] ∧ a.tmps.size = 51 ∧ a.eval (.tmp 0) = sl A252 x254 c253 ∧ a.eval (.tmp 1) = sl A255 b257 c256 ∧ a.eval (.tmp 2) = .func (.func 51) #[] #[] ∧ a.eval (.tmp 7) = sl A258 out260 c259 ∧ Evo [] (fun _ => 0) ox w wx ∧ RdO ox [0] wx R25 A252 c253 x254 ∧ RdO ox [0] wx R25 A255 c256 b257 ∧ RwO ox 261 [] wx 25 R25 A258 c259 out260) : (((List (Int × Int)) × (List (Int × Int)) × (List (Int × Int)))) → Prop) s) ?_ ?_
 ·intro s; rfl
 ·intro Q305 hj305 hp305
  obtain ⟨x350, hx350, hs⟩ := obind hs
  obtain ⟨x351, hx351, hs⟩ := obind hs
  refine rq_seq 51 o204 [0, 1, 0, 4, 15, 31, 63] [dv [] [0] 8 (sl Ax1 x1 cx1), dv [0] [] 9 (Zi (x1.length : Int)), dv [] [1] 10 (sl Ab2 b2 cb2), dv [2] [] 11 (Zi (b2.length : Int)), dv [1, 3] [] 12 (Zi x350), ⟨[4], [], [], Fct.row 353 [] 13 25 R25 x351⟩, ⟨[5], [], [], Fct.rel [7, 13] (fun l => ∀ (A352 : Option Addr) (cA352 : Nat), l.getD 1 undef = sl A352 x351 cA352 → l.getD 0 undef = sl A352 x351 cA352)⟩] z204 d204 ?_ ?_
  ·refine sM e204_0 <| sF (fun f => or_len tu55 f.1 rfl) <| sM e204_1 <| sF (fun f => or_len tu55 f.1 rfl) <| sF (fun f => or_add f.1 f.2.1 (osome hx350).symm) <| sF (fun f => or_make (R := R25) (lab := 353) tp55 rfl f.1 hx351 (by decide)) ?_
   refine sc (fun own a wx hf hsl hE => ?_) ?_
   ·obtain ⟨⟨⟨A352, cA352⟩, (f_13 : a.eval (.tmp 13) = sl A352 x351 cA352), b_A352⟩, -⟩ := hf
    exact px (or_mono (f := Fct.val 7 (sl A352 x351 cA352)) (or_assign f_13) (fun own' a' w' v' hp h => fun _ _ h0' => by cases (f_13.symm.trans ((hp.2 13 (by decide)).symm.trans h0')); exact h))
   exact steps_nil
  intro o354 a354 w354 d354 z354 hk354 hf354 hE354
  obtain ⟨e354_0, e354_1, e354_2⟩ := kt3 hk354 e204_0 e204_1 e204_2
  obtain ⟨⟨⟨A352, cA352⟩, (f_13 : a354.eval (.tmp 13) = sl A352 x351 cA352), (b354_A352 : RwO o354 353 [] w354 25 R25 A352 cA352 x351)⟩, (q_7 : ∀ (A352 : Option Addr) (cA352 : Nat), a354.eval (.tmp 13) = sl A352 x351 cA352 → a354.eval (.tmp 7) = sl A352 x351 cA352), -⟩ := hf354 [5, 6] rfl
  have e354_7 := q_7 _ _ f_13
  have hX354 := es_ hX204 hE354
  refine fl_seq (fun Q355 hn355 hp355 => ?_)
  refine fl_label ?_
  refine hn355 _ _ ?_
  refine fl_seq (fun Q356 hn356 hp356 => ?_)
  obtain ⟨x357, hx357, hs⟩ := obind hs
  refine rq_seq 51 o354 (bz 8) [dv [] [0] 14 (sl Ax1 x1 cx1), dv [0] [] 15 (Zi (x1.length : Int)), dv [1] [] 16 (.bool (decide ((x1.length : Int) = 0))), dv [2] [] 17 (.bool (decide ((x1.length : Int) = 0))), dc [3] [1] (!(decide ((x1.length : Int) = 0))) 18 (sl Ab2 b2 cb2), dc [3, 4] [] (!(decide ((x1.length : Int) = 0))) 19 (Zi (b2.length : Int)), dc [3, 5] [] (!(decide ((x1.length : Int) = 0))) 20 (.bool (decide ((b2.length : Int) = 0))), dv [3, 6] [] 21 (.bool x357)] z354 d354 ?_ ?_
  ·exact sM e354_0 <| sF (fun f => or_len tu55 f.1 rfl) <| sF (fun f => or_eql f.1 rfl rfl) <| sV <| cF (fun _ s _ _ => or_move (s.1.trans e354_1)) <| cF (fun f _ _ hg => or_len tu55 (f.2.1.1 hg) rfl) <| cF (fun f _ _ hg => or_eql (f.2.1.1 hg) rfl rfl) <| sF (fun f => or_or f.1 rfl (fun hx => f.2.1.1 hx) (osome hx357).symm) <| steps_nil
  intro o358 a358 w358 d358 z358 hk358 hf358 hE358
  obtain ⟨e358_0, e358_1, e358_2, e358_7⟩ := kt4 hk358 e354_0 e354_1 e354_2 e354_7
  have e358_21 := gv (hf358 [7] rfl) rfl
  have hX358 := es_ hX354 hE358
  have b358_A352 := re_ hE358 b354_A352
  refine fl_cond e358_21 hs (fun c359 hs => ?_) (fun c359 hs => ?_)
  ·obtain ⟨x360, hx360, hs⟩ := obind hs
   obtain ⟨x363, hx363, hs⟩ := obind hs
   refine rr_seq 51 [Fct.rowAt 353 [] 25 R25 A352 cA352 x351] o358 [353, 361] [0, 0, 3, 0, 15, 31] [dv [] [7] 22 (sl A352 x351 cA352), dv [] [0] 23 (sl Ax1 x1 cx1), ⟨[0, 1, 6], [], [353], Fct.row 361 [] 24 25 R25 x360⟩, dv [] [1] 25 (sl Ab2 b2 cb2), ⟨[2, 3], [], [361], Fct.row 364 [] 26 25 R25 x363⟩, ⟨[4], [], [], Fct.rel [6, 26] (fun l => ∀ (A365 : Option Addr) (cA365 : Nat), l.getD 1 undef = sl A365 x363 cA365 → l.getD 0 undef = sl A365 x363 cA365)⟩] z358 d358 (fm1 b358_A352) ?_ ?_
   ·refine sM e358_7 <| sM e358_0 ?_
    refine sc (fun own a wx hf hsl hE => ?_) ?_
    ·obtain ⟨f_22, f_23, b_A352, -⟩ := hf
     exact px (or_append (R := R25) (lab := 353) (lab2 := 361) (L := []) (L3 := []) tp55 f_22 b_A352 (by decide) f_23 (RdO.evo rfl hE (RdO.evo rfl hX358 hx1)) hx360 (by decide) (by decide) (mem_of rfl) (.inl (Rep.fl_flat _)))
    refine sM e358_1 ?_
    refine sc (fun own a wx hf hsl hE => ?_) ?_
    ·obtain ⟨⟨⟨A362, cA362⟩, f_24, b_A362⟩, f_25, -⟩ := hf
     exact px (or_append (R := R25) (lab := 361) (lab2 := 364) (L := []) (L3 := []) tp55 f_24 b_A362 (by decide) f_25 (RdO.evo rfl hE (RdO.evo rfl hX358 hb2)) hx363 (by decide) (by decide) (mem_of rfl) (.inl (Rep.fl_flat _)))
    refine sc (fun own a wx hf hsl hE => ?_) ?_
    ·obtain ⟨⟨⟨A365, cA365⟩, (f_26 : a.eval (.tmp 26) = sl A365 x363 cA365), b_A365⟩, -⟩ := hf
     exact px (or_mono (f := Fct.val 6 (sl A365 x363 cA365)) (or_assign f_26) (fun own' a' w' v' hp h => fun _ _ h0' => by cases (f_26.symm.trans ((hp.2 26 (by decide)).symm.trans h0')); exact h))
    exact steps_nil
   intro o366 a366 w366 d366 z366 hk366 hf366 hE366
   obtain ⟨⟨⟨A365, cA365⟩, (f_26 : a366.eval (.tmp 26) = sl A365 x363 cA365), (b366_A365 : RwO o366 364 [] w366 25 R25 A365 cA365 x363)⟩, (q_6 : ∀ (A365 : Option Addr) (cA365 : Nat), a366.eval (.tmp 26) = sl A365 x363 cA365 → a366.eval (.tmp 6) = sl A365 x363 cA365), -⟩ := hf366 [4, 5] rfl
   have e366_6 := q_6 _ _ f_26
   have hX366 := es_ hX358 hE366
   refine fl_ret ?_
   refine hp356 _ _ _ rfl ?_
   refine hp305.leaves _ _ _ rfl ?_
   obtain rfl := (osome hs).symm
   exact hret _ _ _ _ (.inl rfl) d366 (results1_ rfl (RVal.tmp_ e366_6)) ⟨(rl [(364, 1)] o366), (A365, cA365), rfl, (Evo.rl_ hX366 (fun _ => Nat.le_refl 0) rfl), (RwO.rl_ b366_A365)⟩
  refine fl_skip ?_
  refine hn356 _ _ ?_
  refine fl_seq (fun Q367 hn367 hp367 => ?_)
  obtain ⟨x368, hx368, hs⟩ := obind hs
  obtain ⟨x369, hx369, hs⟩ := obind hs
  obtain ⟨r370, hr370, hs⟩ := obind hs
  refine rd_seq g_mixed 51 [] o358 [] [0, 0, 2, 6, 0, 16, 48, 127] [dv [] [2] 27 (.func (.func 51) #[] #[]), dv [] [1] 28 (sl Ab2 b2 cb2), dv [1] [] 29 (.pointer (some ((adr Ab2).add ((0 : Int).toNat * R25.s)))), dv [2] [] 30 (P2 x368), dv [] [0] 31 (sl Ax1 x1 cx1), dv [4] [] 32 (.pointer (some ((adr Ax1).add ((0 : Int).toNat * R25.s)))), dv [5] [] 33 (P2 x369), dv [0, 3, 6] [] 34 (.bool r370)] z358 d358 nm_ ?_ ?_
  ·exact sM e358_2 <| sM e358_1 <| sF (fun f => or_index (R := R25) (l := b2) tl55 f.1 rfl (RdO.some_ (RdO.evo rfl hX358 hb2) hx368) hx368) <| sFE (fun f hE => or_load (l := E25.f x368) ta25 f.1 (RdO.cells (F := E25) (RdO.evo rfl hE (RdO.evo rfl hX358 hb2)) hx368) rfl) <| sM e358_0 <| sF (fun f => or_index (R := R25) (l := x1) tl55 f.1 rfl (RdO.some_ (RdO.evo rfl hX358 hx1) hx369) hx369) <| sFE (fun f hE => or_load (l := E25.f x369) ta25 f.1 (RdO.cells (F := E25) (RdO.evo rfl hE (RdO.evo rfl hX358 hx1)) hx369) rfl) <| sF (fun f => or_callf cf51 f.1 (args2 f.2.1 f.2.2.1) rfl (exact_Less_w _ x368 x369  r370 hr370) post_val) <| steps_nil
  intro o371 a371 w371 d371 z371 hk371 hf371 hE371
  obtain ⟨e371_0, e371_1, e371_2, e371_7⟩ := kt4 hk371 e358_0 e358_1 e358_2 e358_7
  have e371_34 := gv (hf371 [7] rfl) rfl
  have hX371 := es_ hX358 hE371
  have b371_A352 := re_ hE371 b358_A352
  refine fl_cond e371_34 hs (fun c372 hs => ?_) (fun c372 hs => ?_)
  ·obtain ⟨x376, hx376, hs⟩ := obind hs
   obtain ⟨x379, hx379, hs⟩ := obind hs
   obtain ⟨x382, hx382, hs⟩ := obind hs
   refine rd_seq g_mixed 51 [Fct.rowAt 353 [] 25 R25 A352 cA352 x351] o371 [353] [0, 0, 2, 6, 14, 31, 0, 64, 63, 511] [dv [] [7] 35 (sl A352 x351 cA352), dv [] [1] 36 (sl Ab2 b2 cb2), dv [1] [] 37 (.pointer (some ((adr Ab2).add ((0 : Int).toNat * R25.s)))), dv [2] [] 38 (P2 x376), ⟨[3], [], [], Fct.row 378 [] 39 25 R25 [x376]⟩, ⟨[0, 4, 10], [], [353], Fct.row 380 [] 40 25 R25 x379⟩, dv [] [1] 41 (sl Ab2 b2 cb2), ⟨[6], [], [], Fct.view [0] 42 R25 x382⟩, ⟨[5], [], [], Fct.rel [7, 40] (fun l => ∀ (A381 : Option Addr) (cA381 : Nat), l.getD 1 undef = sl A381 x379 cA381 → l.getD 0 undef = sl A381 x379 cA381)⟩, ⟨[7], [], [], Fct.rel [1, 42] (fun l => ∀ (A383 : Option Addr) (cA383 : Nat), l.getD 1 undef = sl A383 x382 cA383 → l.getD 0 undef = sl A383 x382 cA383)⟩] z371 d371 (fm1 b371_A352) ?_ ?_
   ·refine sM e371_7 <| sM e371_1 <| sF (fun f => or_index (R := R25) (l := b2) tl55 f.1 rfl (RdO.some_ (RdO.evo rfl hX371 hb2) hx376) hx376) <| sFE (fun f hE => or_load (l := E25.f x376) ta25 f.1 (RdO.cells (F := E25) (RdO.evo rfl hE (RdO.evo rfl hX371 hb2)) hx376) rfl) <| sF (fun f => or_lit (lab := 378) (e := 25) (cs := #[Zi x376.1, Zi x376.2]) (F := E25) (nw1 f.1) rfl rfl (show 1 ≤ maxLen by decide)) ?_
    refine sc (fun own a wx hf hsl hE => ?_) ?_
    ·obtain ⟨f_35, ⟨⟨A377, cA377⟩, f_39, b_A377⟩, b_A352, -⟩ := hf
     exact px (or_append (R := R25) (lab := 353) (lab2 := 380) (L := []) (L3 := []) tp55 f_35 b_A352 (by decide) f_39 (RwO.rd b_A377) hx379 (by decide) (by decide) (mem_of rfl) (.inl (Rep.fl_flat _)))
    refine sM e371_1 <| sFE (fun f hE => or_view (R := R25) (l := b2) (L := [0]) tu55 ts25 f.1 (Bnd.some_ rfl) Bnd.none_ Bnd.none_ (RdO.evo rfl hE (RdO.evo rfl hX371 hb2)) hx382 (.inl rfl) (by simp)) ?_
    refine sc (fun own a wx hf hsl hE => ?_) ?_
    ·obtain ⟨⟨⟨A381, cA381⟩, (f_40 : a.eval (.tmp 40) = sl A381 x379 cA381), b_A381⟩, -⟩ := hf
     exact px (or_mono (f := Fct.val 7 (sl A381 x379 cA381)) (or_assign f_40) (fun own' a' w' v' hp h => fun _ _ h0' => by cases (f_40.symm.trans ((hp.2 40 (by decide)).symm.trans h0')); exact h))
    refine sc (fun own a wx hf hsl hE => ?_) ?_
    ·obtain ⟨⟨⟨A383, cA383⟩, (f_42 : a.eval (.tmp 42) = sl A383 x382 cA383), b_A383⟩, -⟩ := hf
     exact px (or_mono (f := Fct.val 1 (sl A383 x382 cA383)) (or_assign f_42) (fun own' a' w' v' hp h => fun _ _ h0' => by cases (f_42.symm.trans ((hp.2 42 (by decide)).symm.trans h0')); exact h))
    exact steps_nil
   intro o384 a384 w384 d384 z384 hk384 hf384 hE384
   obtain ⟨e384_0, e384_2⟩ := kt2 hk384 e371_0 e371_2
   obtain ⟨⟨⟨A381, cA381⟩, (f_40 : a384.eval (.tmp 40) = sl A381 x379 cA381), (b384_A381 : RwO o384 380 [] w384 25 R25 A381 cA381 x379)⟩, (q_7 : ∀ (A381 : Option Addr) (cA381 : Nat), a384.eval (.tmp 40) = sl A381 x379 cA381 → a384.eval (.tmp 7) = sl A381 x379 cA381), ⟨⟨A383, cA383⟩, (f_42 : a384.eval (.tmp 42) = sl A383 x382 cA383), (b384_A383 : RdO o384 [0] w384 R25 A383 cA383 x382)⟩, (q_1 : ∀ (A383 : Option Addr) (cA383 : Nat), a384.eval (.tmp 42) = sl A383 x382 cA383 → a384.eval (.tmp 1) = sl A383 x382 cA383), -⟩ := hf384 [5, 8, 7, 9] rfl
   have e384_7 := q_7 _ _ f_40
   have e384_1 := q_1 _ _ f_42
   have hX384 := es_ hX371 hE384
   refine fl_goto ?_
   refine hp367 _ _ _ rfl ?_
   exact hj305 (x1, x382, x379) _ _ (show loopO _ _ = _ from hs) ⟨(rl [(380, 261)] o384), Ax1, cx1, A383, cA383, A381, cA381, d384, z384, e384_0, e384_1, e384_2, e384_7, (Evo.rl_ hX384 (fun _ => Nat.le_refl 0) rfl), (RdO.rl_ (RdO.evo rfl hX384 hx1)), (RdO.rl_ b384_A383), (RwO.rl_ b384_A381)⟩
  refine fl_skip ?_
  refine hn367 _ _ ?_
  obtain ⟨x388, hx388, hs⟩ := obind hs
  obtain ⟨x391, hx391, hs⟩ := obind hs
  obtain ⟨x394, hx394, hs⟩ := obind hs
  refine rd_seq g_mixed 51 [Fct.rowAt 353 [] 25 R25 A352 cA352 x351] o371 [353] [0, 0, 2, 6, 14, 31, 0, 64, 63, 511] [dv [] [7] 43 (sl A352 x351 cA352), dv [] [0] 44 (sl Ax1 x1 cx1), dv [1] [] 45 (.pointer (some ((adr Ax1).add ((0 : Int).toNat * R25.s)))), dv [2] [] 46 (P2 x388), ⟨[3], [], [], Fct.row 390 [] 47 25 R25 [x388]⟩, ⟨[0, 4, 10], [], [353], Fct.row 392 [] 48 25 R25 x391⟩, dv [] [0] 49 (sl Ax1 x1 cx1), ⟨[6], [], [], Fct.view [0] 50 R25 x394⟩, ⟨[5], [], [], Fct.rel [7, 48] (fun l => ∀ (A393 : Option Addr) (cA393 : Nat), l.getD 1 undef = sl A393 x391 cA393 → l.getD 0 undef = sl A393 x391 cA393)⟩, ⟨[7], [], [], Fct.rel [0, 50] (fun l => ∀ (A395 : Option Addr) (cA395 : Nat), l.getD 1 undef = sl A395 x394 cA395 → l.getD 0 undef = sl A395 x394 cA395)⟩] z371 d371 (fm1 b371_A352) ?_ ?_
  ·refine sM e371_7 <| sM e371_0 <| sF (fun f => or_index (R := R25) (l := x1) tl55 f.1 rfl (RdO.some_ (RdO.evo rfl hX371 hx1) hx388) hx388) <| sFE (fun f hE => or_load (l := E25.f x388) ta25 f.1 (RdO.cells (F := E25) (RdO.evo rfl hE (RdO.evo rfl hX371 hx1)) hx388) rfl) <| sF (fun f => or_lit (lab := 390) (e := 25) (cs := #[Zi x388.1, Zi x388.2]) (F := E25) (nw1 f.1) rfl rfl (show 1 ≤ maxLen by decide)) ?_
   refine sc (fun own a wx hf hsl hE => ?_) ?_
   ·obtain ⟨f_43, ⟨⟨A389, cA389⟩, f_47, b_A389⟩, b_A352, -⟩ := hf
    exact px (or_append (R := R25) (lab := 353) (lab2 := 392) (L := []) (L3 := []) tp55 f_43 b_A352 (by decide) f_47 (RwO.rd b_A389) hx391 (by decide) (by decide) (mem_of rfl) (.inl (Rep.fl_flat _)))
   refine sM e371_0 <| sFE (fun f hE => or_view (R := R25) (l := x1) (L := [0]) tu55 ts25 f.1 (Bnd.some_ rfl) Bnd.none_ Bnd.none_ (RdO.evo rfl hE (RdO.evo rfl hX371 hx1)) hx394 (.inl rfl) (by simp)) ?_
   refine sc (fun own a wx hf hsl hE => ?_) ?_
   ·obtain ⟨⟨⟨A393, cA393⟩, (f_48 : a.eval (.tmp 48) = sl A393 x391 cA393), b_A393⟩, -⟩ := hf
    exact px (or_mono (f := Fct.val 7 (sl A393 x391 cA393)) (or_assign f_48) (fun own' a' w' v' hp h => fun _ _ h0' => by cases (f_48.symm.trans ((hp.2 48 (by decide)).symm.trans h0')); exact h))
   refine sc (fun own a wx hf hsl hE => ?_) ?_
   ·obtain ⟨⟨⟨A395, cA395⟩, (f_50 : a.eval (.tmp 50) = sl A395 x394 cA395), b_A395⟩, -⟩ := hf
    exact px (or_mono (f := Fct.val 0 (sl A395 x394 cA395)) (or_assign f_50) (fun own' a' w' v' hp h => fun _ _ h0' => by cases (f_50.symm.trans ((hp.2 50 (by decide)).symm.trans h0')); exact h))
   exact steps_nil
  intro o396 a396 w396 d396 z396 hk396 hf396 hE396
  obtain ⟨e396_1, e396_2⟩ := kt2 hk396 e371_1 e371_2
  obtain ⟨⟨⟨A393, cA393⟩, (f_48 : a396.eval (.tmp 48) = sl A393 x391 cA393), (b396_A393 : RwO o396 392 [] w396 25 R25 A393 cA393 x391)⟩, (q_7 : ∀ (A393 : Option Addr) (cA393 : Nat), a396.eval (.tmp 48) = sl A393 x391 cA393 → a396.eval (.tmp 7) = sl A393 x391 cA393), ⟨⟨A395, cA395⟩, (f_50 : a396.eval (.tmp 50) = sl A395 x394 cA395), (b396_A395 : RdO o396 [0] w396 R25 A395 cA395 x394)⟩, (q_0 : ∀ (A395 : Option Addr) (cA395 : Nat), a396.eval (.tmp 50) = sl A395 x394 cA395 → a396.eval (.tmp 0) = sl A395 x394 cA395), -⟩ := hf396 [5, 8, 7, 9] rfl
  have e396_7 := q_7 _ _ f_48
  have e396_0 := q_0 _ _ f_50
  have hX396 := es_ hX371 hE396
  refine fl_goto ?_
  exact hj305 (x394, b2, x391) _ _ (show loopO _ _ = _ from hs) ⟨(rl [(392, 261)] o396), A395, cA395, Ab2, cb2, A393, cA393, d396, z396, e396_0, e396_1, e396_2, e396_7, (Evo.rl_ hX396 (fun _ => Nat.le_refl 0) rfl), (RdO.rl_ b396_A395), (RdO.rl_ (RdO.evo rfl hX396 hb2)), (RwO.rl_ b396_A393)⟩
 ·rintro ⟨x254, b257, out260⟩
  rintro zz305 a306 w306 ⟨o306, A252, c253, A255, c256, A258, c259, d307, z307, e307_0, e307_1, e307_2, e307_7, hE307, b307_A252, b307_A255, b307_A258⟩ hs Q306 hj306 hp306 z306
  have hs : order_merged_api_Point_Less_b1_0 x254 b257 out260 = some zz305 := hs
  conv => arg 4; whnf
  refine fl_seq (fun Q308 hn308 hp308 => ?_)
  refine fl_skip ?_
  refine hn308 _ _ ?_
  refine fl_seq (fun Q309 hn309 hp309 => ?_)
  obtain ⟨x310, hx310, hs⟩ := obind hs
  refine rq_seq 51 o306 (bz 8) [dv [] [0] 14 (sl A252 x254 c253), dv [0] [] 15 (Zi (x254.length : Int)), dv [1] [] 16 (.bool (decide ((x254.length : Int) = 0))), dv [2] [] 17 (.bool (decide ((x254.length : Int) = 0))), dc [3] [1] (!(decide ((x254.length : Int) = 0))) 18 (sl A255 b257 c256), dc [3, 4] [] (!(decide ((x254.length : Int) = 0))) 19 (Zi (b257.length : Int)), dc [3, 5] [] (!(decide ((x254.length : Int) = 0))) 20 (.bool (decide ((b257.length : Int) = 0))), dv [3, 6] [] 21 (.bool x310)] z307 d307 ?_ ?_
  ·exact sM e307_0 <| sF (fun f => or_len tu55 f.1 rfl) <| sF (fun f => or_eql f.1 rfl rfl) <| sV <| cF (fun _ s _ _ => or_move (s.1.trans e307_1)) <| cF (fun f _ _ hg => or_len tu55 (f.2.1.1 hg) rfl) <| cF (fun f _ _ hg => or_eql (f.2.1.1 hg) rfl rfl) <| sF (fun f => or_or f.1 rfl (fun hx => f.2.1.1 hx) (osome hx310).symm) <| steps_nil
  intro o311 a311 w311 d311 z311 hk311 hf311 hE311
  obtain ⟨e311_0, e311_1, e311_2, e311_7⟩ := kt4 hk311 e307_0 e307_1 e307_2 e307_7
  have e311_21 := gv (hf311 [7] rfl) rfl
  have hX311 := es_ hE307 hE311
  have b311_A252 := RdO.evo rfl hE311 b307_A252
  have b311_A255 := RdO.evo rfl hE311 b307_A255
  have b311_A258 := re_ hE311 b307_A258
  refine fl_cond e311_21 hs (fun c312 hs => ?_) (fun c312 hs => ?_)
  ·obtain ⟨x313, hx313, hs⟩ := obind hs
   obtain ⟨x316, hx316, hs⟩ := obind hs
   refine rr_seq 51 [Fct.rowAt 261 [] 25 R25 A258 c259 out260] o311 [261, 314] [0, 0, 3, 0, 15, 31] [dv [] [7] 22 (sl A258 out260 c259), dv [] [0] 23 (sl A252 x254 c253), ⟨[0, 1, 6], [], [261], Fct.row 314 [] 24 25 R25 x313⟩, dv [] [1] 25 (sl A255 b257 c256), ⟨[2, 3], [], [314], Fct.row 317 [] 26 25 R25 x316⟩, ⟨[4], [], [], Fct.rel [6, 26] (fun l => ∀ (A318 : Option Addr) (cA318 : Nat), l.getD 1 undef = sl A318 x316 cA318 → l.getD 0 undef = sl A318 x316 cA318)⟩] z311 d311 (fm1 b311_A258) ?_ ?_
   ·refine sM e311_7 <| sM e311_0 ?_
    refine sc (fun own a wx hf hsl hE => ?_) ?_
    ·obtain ⟨f_22, f_23, b_A258, -⟩ := hf
     exact px (or_append (R := R25) (lab := 261) (lab2 := 314) (L := []) (L3 := []) tp55 f_22 b_A258 (by decide) f_23 (RdO.evo rfl hE b311_A252) hx313 (by decide) (by decide) (mem_of rfl) (.inl (Rep.fl_flat _)))
    refine sM e311_1 ?_
    refine sc (fun own a wx hf hsl hE => ?_) ?_
    ·obtain ⟨⟨⟨A315, cA315⟩, f_24, b_A315⟩, f_25, -⟩ := hf
     exact px (or_append (R := R25) (lab := 314) (lab2 := 317) (L := []) (L3 := []) tp55 f_24 b_A315 (by decide) f_25 (RdO.evo rfl hE b311_A255) hx316 (by decide) (by decide) (mem_of rfl) (.inl (Rep.fl_flat _)))
    refine sc (fun own a wx hf hsl hE => ?_) ?_
    ·obtain ⟨⟨⟨A318, cA318⟩, (f_26 : a.eval (.tmp 26) = sl A318 x316 cA318), b_A318⟩, -⟩ := hf
     exact px (or_mono (f := Fct.val 6 (sl A318 x316 cA318)) (or_assign f_26) (fun own' a' w' v' hp h => fun _ _ h0' => by cases (f_26.symm.trans ((hp.2 26 (by decide)).symm.trans h0')); exact h))
    exact steps_nil
   intro o319 a319 w319 d319 z319 hk319 hf319 hE319
   obtain ⟨⟨⟨A318, cA318⟩, (f_26 : a319.eval (.tmp 26) = sl A318 x316 cA318), (b319_A318 : RwO o319 317 [] w319 25 R25 A318 cA318 x316)⟩, (q_6 : ∀ (A318 : Option Addr) (cA318 : Nat), a319.eval (.tmp 26) = sl A318 x316 cA318 → a319.eval (.tmp 6) = sl A318 x316 cA318), -⟩ := hf319 [4, 5] rfl
   have e319_6 := q_6 _ _ f_26
   have hX319 := es_ hX311 hE319
   refine fl_ret ?_
   refine hp309 _ _ _ rfl ?_
   replace hs := z306 _ hs
   refine hp306.leaves _ _ _ rfl ?_
   obtain rfl := (osome hs).symm
   exact hret _ _ _ _ (.inl rfl) d319 (results1_ rfl (RVal.tmp_ e319_6)) ⟨(rl [(317, 1)] o319), (A318, cA318), rfl, (Evo.rl_ hX319 (fun _ => Nat.le_refl 0) rfl), (RwO.rl_ b319_A318)⟩
  refine fl_skip ?_
  refine hn309 _ _ ?_
  refine fl_seq (fun Q320 hn320 hp320 => ?_)
  obtain ⟨x321, hx321, hs⟩ := obind hs
  obtain ⟨x322, hx322, hs⟩ := obind hs
  obtain ⟨r323, hr323, hs⟩ := obind hs
  refine rd_seq g_mixed 51 [] o311 [] [0, 0, 2, 6, 0, 16, 48, 127] [dv [] [2] 27 (.func (.func 51) #[] #[]), dv [] [1] 28 (sl A255 b257 c256), dv [1] [] 29 (.pointer (some ((adr A255).add ((0 : Int).toNat * R25.s)))), dv [2] [] 30 (P2 x321), dv [] [0] 31 (sl A252 x254 c253), dv [4] [] 32 (.pointer (some ((adr A252).add ((0 : Int).toNat * R25.s)))), dv [5] [] 33 (P2 x322), dv [0, 3, 6] [] 34 (.bool r323)] z311 d311 nm_ ?_ ?_
  ·exact sM e311_2 <| sM e311_1 <| sF (fun f => or_index (R := R25) (l := b257) tl55 f.1 rfl (RdO.some_ b311_A255 hx321) hx321) <| sFE (fun f hE => or_load (l := E25.f x321) ta25 f.1 (RdO.cells (F := E25) (RdO.evo rfl hE b311_A255) hx321) rfl) <| sM e311_0 <| sF (fun f => or_index (R := R25) (l := x254) tl55 f.1 rfl (RdO.some_ b311_A252 hx322) hx322) <| sFE (fun f hE => or_load (l := E25.f x322) ta25 f.1 (RdO.cells (F := E25) (RdO.evo rfl hE b311_A252) hx322) rfl) <| sF (fun f => or_callf cf51 f.1 (args2 f.2.1 f.2.2.1) rfl (exact_Less_w _ x321 x322  r323 hr323) post_val) <| steps_nil
  intro o324 a324 w324 d324 z324 hk324 hf324 hE324
  obtain ⟨e324_0, e324_1, e324_2, e324_7⟩ := kt4 hk324 e311_0 e311_1 e311_2 e311_7
  have e324_34 := gv (hf324 [7] rfl) rfl
  have hX324 := es_ hX311 hE324
  have b324_A252 := RdO.evo rfl hE324 b311_A252
  have b324_A255 := RdO.evo rfl hE324 b311_A255
  have b324_A258 := re_ hE324 b311_A258
  refine fl_cond e324_34 hs (fun c325 hs => ?_) (fun c325 hs => ?_)
  ·obtain ⟨x329, hx329, hs⟩ := obind hs
   obtain ⟨x332, hx332, hs⟩ := obind hs
   obtain ⟨x335, hx335, hs⟩ := obind hs
   refine rd_seq g_mixed 51 [Fct.rowAt 261 [] 25 R25 A258 c259 out260] o324 [261] [0, 0, 2, 6, 14, 31, 0, 64, 63, 511] [dv [] [7] 35 (sl A258 out260 c259), dv [] [1] 36 (sl A255 b257 c256), dv [1] [] 37 (.pointer (some ((adr A255).add ((0 : Int).toNat * R25.s)))), dv [2] [] 38 (P2 x329), ⟨[3], [], [], Fct.row 331 [] 39 25 R25 [x329]⟩, ⟨[0, 4, 10], [], [261], Fct.row 333 [] 40 25 R25 x332⟩, dv [] [1] 41 (sl A255 b257 c256), ⟨[6], [], [], Fct.view [0] 42 R25 x335⟩, ⟨[5], [], [], Fct.rel [7, 40] (fun l => ∀ (A334 : Option Addr) (cA334 : Nat), l.getD 1 undef = sl A334 x332 cA334 → l.getD 0 undef = sl A334 x332 cA334)⟩, ⟨[7], [], [], Fct.rel [1, 42] (fun l => ∀ (A336 : Option Addr) (cA336 : Nat), l.getD 1 undef = sl A336 x335 cA336 → l.getD 0 undef = sl A336 x335 cA336)⟩] z324 d324 (fm1 b324_A258) ?_ ?_
   ·refine sM e324_7 <| sM e324_1 <| sF (fun f => or_index (R := R25) (l := b257) tl55 f.1 rfl (RdO.some_ b324_A255 hx329) hx329) <| sFE (fun f hE => or_load (l := E25.f x329) ta25 f.1 (RdO.cells (F := E25) (RdO.evo rfl hE b324_A255) hx329) rfl) <| sF (fun f => or_lit (lab := 331) (e := 25) (cs := #[Zi x329.1, Zi x329.2]) (F := E25) (nw1 f.1) rfl rfl (show 1 ≤ maxLen by decide)) ?_
    refine sc (fun own a wx hf hsl hE => ?_) ?_
    ·obtain ⟨f_35, ⟨⟨A330, cA330⟩, f_39, b_A330⟩, b_A258, -⟩ := hf
     exact px (or_append (R := R25) (lab := 261) (lab2 := 333) (L := []) (L3 := []) tp55 f_35 b_A258 (by decide) f_39 (RwO.rd b_A330) hx332 (by decide) (by decide) (mem_of rfl) (.inl (Rep.fl_flat _)))
    refine sM e324_1 <| sFE (fun f hE => or_view (R := R25) (l := b257) (L := [0]) tu55 ts25 f.1 (Bnd.some_ rfl) Bnd.none_ Bnd.none_ (RdO.evo rfl hE b324_A255) hx335 (.inl rfl) (by simp)) ?_
    refine sc (fun own a wx hf hsl hE => ?_) ?_
    ·obtain ⟨⟨⟨A334, cA334⟩, (f_40 : a.eval (.tmp 40) = sl A334 x332 cA334), b_A334⟩, -⟩ := hf
     exact px (or_mono (f := Fct.val 7 (sl A334 x332 cA334)) (or_assign f_40) (fun own' a' w' v' hp h => fun _ _ h0' => by cases (f_40.symm.trans ((hp.2 40 (by decide)).symm.trans h0')); exact h))
    refine sc (fun own a wx hf hsl hE => ?_) ?_
    ·obtain ⟨⟨⟨A336, cA336⟩, (f_42 : a.eval (.tmp 42) = sl A336 x335 cA336), b_A336⟩, -⟩ := hf
     exact px (or_mono (f := Fct.val 1 (sl A336 x335 cA336)) (or_assign f_42) (fun own' a' w' v' hp h => fun _ _ h0' => by cases (f_42.symm.trans ((hp.2 42 (by decide)).symm.trans h0')); exact h))
    exact steps_nil
   intro o337 a337 w337 d337 z337 hk337 hf337 hE337
   obtain ⟨e337_0, e337_2⟩ := kt2 hk337 e324_0 e324_2
   obtain ⟨⟨⟨A334, cA334⟩, (f_40 : a337.eval (.tmp 40) = sl A334 x332 cA334), (b337_A334 : RwO o337 333 [] w337 25 R25 A334 cA334 x332)⟩, (q_7 : ∀ (A334 : Option Addr) (cA334 : Nat), a337.eval (.tmp 40) = sl A334 x332 cA334 → a337.eval (.tmp 7) = sl A334 x332 cA334), ⟨⟨A336, cA336⟩, (f_42 : a337.eval (.tmp 42) = sl A336 x335 cA336), (b337_A336 : RdO o337 [0] w337 R25 A336 cA336 x335)⟩, (q_1 : ∀ (A336 : Option Addr) (cA336 : Nat), a337.eval (.tmp 42) = sl A336 x335 cA336 → a337.eval (.tmp 1) = sl A336 x335 cA336), -⟩ := hf337 [5, 8, 7, 9] rfl
   have e337_7 := q_7 _ _ f_40
   have e337_1 := q_1 _ _ f_42
   have hX337 := es_ hX324 hE337
   have b337_A252 := RdO.evo rfl hE337 b324_A252
   refine fl_goto ?_
   refine hp320 _ _ _ rfl ?_
   exact hj306 (x254, x335, x332) _ _ hs ⟨(rl [(333, 261)] o337), A252, c253, A336, cA336, A334, cA334, d337, z337, e337_0, e337_1, e337_2, e337_7, (Evo.rl_ hX337 (fun _ => Nat.le_refl 0) rfl), (RdO.rl_ b337_A252), (RdO.rl_ b337_A336), (RwO.rl_ b337_A334)⟩
  refine fl_skip ?_
  refine hn320 _ _ ?_
  obtain ⟨x341, hx341, hs⟩ := obind hs
  obtain ⟨x344, hx344, hs⟩ := obind hs
  obtain ⟨x347, hx347, hs⟩ := obind hs
  refine rd_seq g_mixed 51 [Fct.rowAt 261 [] 25 R25 A258 c259 out260] o324 [261] [0, 0, 2, 6, 14, 31, 0, 64, 63, 511] [dv [] [7] 43 (sl A258 out260 c259), dv [] [0] 44 (sl A252 x254 c253), dv [1] [] 45 (.pointer (some ((adr A252).add ((0 : Int).toNat * R25.s)))), dv [2] [] 46 (P2 x341), ⟨[3], [], [], Fct.row 343 [] 47 25 R25 [x341]⟩, ⟨[0, 4, 10], [], [261], Fct.row 345 [] 48 25 R25 x344⟩, dv [] [0] 49 (sl A252 x254 c253), ⟨[6], [], [], Fct.view [0] 50 R25 x347⟩, ⟨[5], [], [], Fct.rel [7, 48] (fun l => ∀ (A346 : Option Addr) (cA346 : Nat), l.getD 1 undef = sl A346 x344 cA346 → l.getD 0 undef = sl A346 x344 cA346)⟩, ⟨[7], [], [], Fct.rel [0, 50] (fun l => ∀ (A348 : Option Addr) (cA348 : Nat), l.getD 1 undef = sl A348 x347 cA348 → l.getD 0 undef = sl A348 x347 cA348)⟩] z324 d324 (fm1 b324_A258) ?_ ?_
  ·refine sM e324_7 <| sM e324_0 <| sF (fun f => or_index (R := R25) (l := x254) tl55 f.1 rfl (RdO.some_ b324_A252 hx341) hx341) <| sFE (fun f hE => or_load (l := E25.f x341) ta25 f.1 (RdO.cells (F := E25) (RdO.evo rfl hE b324_A252) hx341) rfl) <| sF (fun f => or_lit (lab := 343) (e := 25) (cs := #[Zi x341.1, Zi x341.2]) (F := E25) (nw1 f.1) rfl rfl (show 1 ≤ maxLen by decide)) ?_
   refine sc (fun own a wx hf hsl hE => ?_) ?_
   ·obtain ⟨f_43, ⟨⟨A342, cA342⟩, f_47, b_A342⟩, b_A258, -⟩ := hf
    exact px (or_append (R := R25) (lab := 261) (lab2 := 345) (L := []) (L3 := []) tp55 f_43 b_A258 (by decide) f_47 (RwO.rd b_A342) hx344 (by decide) (by decide) (mem_of rfl) (.inl (Rep.fl_flat _)))
   refine sM e324_0 <| sFE (fun f hE => or_view (R := R25) (l := x254) (L := [0]) tu55 ts25 f.1 (Bnd.some_ rfl) Bnd.none_ Bnd.none_ (RdO.evo rfl hE b324_A252) hx347 (.inl rfl) (by simp)) ?_
   refine sc (fun own a wx hf hsl hE => ?_) ?_
   ·obtain ⟨⟨⟨A346, cA346⟩, (f_48 : a.eval (.tmp 48) = sl A346 x344 cA346), b_A346⟩, -⟩ := hf
    exact px (or_mono (f := Fct.val 7 (sl A346 x344 cA346)) (or_assign f_48) (fun own' a' w' v' hp h => fun _ _ h0' => by cases (f_48.symm.trans ((hp.2 48 (by decide)).symm.trans h0')); exact h))
   refine sc (fun own a wx hf hsl hE => ?_) ?_
   ·obtain ⟨⟨⟨A348, cA348⟩, (f_50 : a.eval (.tmp 50) = sl A348 x347 cA348), b_A348⟩, -⟩ := hf
    exact px (or_mono (f := Fct.val 0 (sl A348 x347 cA348)) (or_assign f_50) (fun own' a' w' v' hp h => fun _ _ h0' => by cases (f_50.symm.trans ((hp.2 50 (by decide)).symm.trans h0')); exact h))
   exact steps_nil
  intro o349 a349 w349 d349 z349 hk349 hf349 hE349
  obtain ⟨e349_1, e349_2⟩ := kt2 hk349 e324_1 e324_2
  obtain ⟨⟨⟨A346, cA346⟩, (f_48 : a349.eval (.tmp 48) = sl A346 x344 cA346), (b349_A346 : RwO o349 345 [] w349 25 R25 A346 cA346 x344)⟩, (q_7 : ∀ (A346 : Option Addr) (cA346 : Nat), a349.eval (.tmp 48) = sl A346 x344 cA346 → a349.eval (.tmp 7) = sl A346 x344 cA346), ⟨⟨A348, cA348⟩, (f_50 : a349.eval (.tmp 50) = sl A348 x347 cA348), (b349_A348 : RdO o349 [0] w349 R25 A348 cA348 x347)⟩, (q_0 : ∀ (A348 : Option Addr) (cA348 : Nat), a349.eval (.tmp 50) = sl A348 x347 cA348 → a349.eval (.tmp 0) = sl A348 x347 cA348), -⟩ := hf349 [5, 8, 7, 9] rfl
  have e349_7 := q_7 _ _ f_48
  have e349_0 := q_0 _ _ f_50
  have hX349 := es_ hX324 hE349
  have b349_A255 := RdO.evo rfl hE349 b324_A255
  refine fl_goto ?_
  exact hj306 (x347, b257, x344) _ _ hs ⟨(rl [(345, 261)] o349), A348, cA348, A255, c256, A346, cA346, d349, z349, e349_0, e349_1, e349_2, e349_7, (Evo.rl_ hX349 (fun _ => Nat.le_refl 0) rfl), (RdO.rl_ b349_A348), (RdO.rl_ b349_A255), (RwO.rl_ b349_A346)⟩
theorem order_sorted_api_Point_Less_w (w : World) (l1 : List (Int × Int)) (Al1 : Option Addr) (cl1 : Nat) (hl1 : RdO (fun _ => 0) [0] w R25 Al1 cl1 l1) (r : List (Int × Int)) (hs : order_sorted_api_Point_Less l1 = some r) :
  Calls Try.prog 62 #[sl Al1 l1 cl1, .func (.func 51) #[] #[]] w fun e w' => ∃ (own' : Own) (x : Option Addr × Nat), e = .returned (.slice x.1 r.length x.2) ∧ Evo [] (fun _ => 0) own' w w' ∧ RwO own' 1 [] w' 25 R25 x.1 x.2 r := by
 refine fl_enter (n := 54) rfl rfl rfl (Nat.le_of_ble_eq_true rfl) ?_
 intro a0 Q d0 z0 harg hret
 have ha0 := harg 0 _ rfl
 have ha1 := harg 1 _ rfl
 clear harg
 have hE0 : Evo [] (fun _ => 0) (fun _ => 0) w w := Evo.refl _ _ _
 refine rq_seq 54 (fun _ => 0) (bz 1) [dv [] [] 4 (.slice none 0 0)] z0 d0 ?_ ?_
 ·exact sO (or_assign rfl) <| steps_nil
 intro o339 a339 w339 d339 z339 hk339 hf339 hE339
 obtain ⟨e339_0, e339_1⟩ := kt2 hk339 ha0 ha1
 have hX339 := es_ hE0 hE339
 obtain ⟨r340, hr340, hs⟩ := obind hs
 refine rq_seq 54 o339 (bz 3) [dv [] [0] 9 (sl Al1 l1 cl1), ⟨[0], [], [], Fct.row 342 [] 10 25 R25 r340⟩, ⟨[1], [], [], Fct.rel [5, 10] (fun l => ∀ (A341 : Option Addr) (cA341 : Nat), l.getD 1 undef = sl A341 r340 cA341 → l.getD 0 undef = sl A341 r340 cA341)⟩] z339 d339 ?_ ?_
 ·refine sM e339_0 <| sFE (fun f hE => or_call cf70 (args1 f.1) (slices_Clone_api_Point_api_Point_w _ l1 Al1 cl1 (RdO.zero (RdO.evo rfl hE (RdO.evo rfl hX339 hl1))) r340 hr340) (post_row (m' := (look0 [(1, 342)])) (.inl (Rep.fl_flat _)) rfl rfl (fun _ => rfl))) ?_
  refine sc (fun own a wx hf hsl hE => ?_) ?_
  ·obtain ⟨⟨⟨A341, cA341⟩, (f_10 : a.eval (.tmp 10) = sl A341 r340 cA341), b_A341⟩, -⟩ := hf
   exact px (or_mono (f := Fct.val 5 (sl A341 r340 cA341)) (or_assign f_10) (fun own' a' w' v' hp h => fun _ _ h0' => by cases (f_10.symm.trans ((hp.2 10 (by decide)).symm.trans h0')); exact h))
  exact steps_nil
 intro o343 a343 w343 d343 z343 hk343 hf343 hE343
 have e343_1 := kt hk343 e339_1
 obtain ⟨⟨⟨A341, cA341⟩, (f_10 : a343.eval (.tmp 10) = sl A341 r340 cA341), (b343_A341 : RwO o343 342 [] w343 25 R25 A341 cA341 r340)⟩, (q_5 : ∀ (A341 : Option Addr) (cA341 : Nat), a343.eval (.tmp 10) = sl A341 r340 cA341 → a343.eval (.tmp 5) = sl A341 r340 cA341), -⟩ := hf343 [1, 2] rfl
 have e343_5 := q_5 _ _ f_10
 have hX343 := es_ hX339 hE343
 refine fl_seq (fun Q344 hn344 hp344 => ?_)
 refine rq_seq 54 o343 (bz 1) [dv [] [] 6 (Zi 1)] z343 d343 ?_ ?_
 ·exact sO (or_assign rfl) <| steps_nil
 intro o345 a345 w345 d345 z345 hk345 hf345 hE345
 obtain ⟨e345_1, e345_5⟩ := kt2 hk345 e343_1 e343_5
 have e345_6 := gv (hf345 [0] rfl) rfl
 have hX345 := es_ hX343 hE345
 have b345_A341 := re_ hE345 b343_A341
 refine fl_block (fun Q346 hn346 hx346 hp346 => ?_)
 refine fl_loop (body := (fun s => order_sorted_api_Point_Less_b1 s.1 s.2)) (z := r) (show loopO _ _ = _ from hs) (fun (s : (List (Int × Int)) × Int) a wx => match s with | (out450, run452) => ∃ (ox : Own), a.defers = [] ∧ a.tmps.size = 54 ∧ a.eval (.tmp 1) = .func (.func 51) #[] #[] ∧ a.eval (.tmp 5) = sl A341 out450 cA341 ∧ a.eval (.tmp 6) = Zi run452 ∧ Evo [] (fun _ => 0) ox w wx ∧ RwO ox 451 [] wx 25 R25 A341 cA341 out450) ?_ ?_
 ·exact ⟨(rl [(342, 451)] o345), d345, z345, e345_1, e345_5, e345_6, (Evo.rl_ hX345 (fun _ => Nat.le_refl 0) rfl), (RwO.rl_ b345_A341)⟩
 ·rintro ⟨out450, run452⟩ zz559 a559 w559 ⟨o559, d560, z560, e560_1, e560_5, e560_6, hE560, b560_A341⟩ hs Q559 hn559 hp559 z559
  have hs : order_sorted_api_Point_Less_b1 out450 run452 = some zz559 := hs
  refine fl_seq (fun Q561 hn561 hp561 => ?_)
  refine rq_seq 54 o559 [0, 0, 2, 7] [dv [] [6] 11 (Zi run452), dv [] [5] 12 (sl A341 out450 cA341), dv [1] [] 13 (Zi (out450.length : Int)), dv [0, 2] [] 14 (.bool (decide (run452 < (out450.length : Int))))] z560 d560 ?_ ?_
  ·exact sM e560_6 <| sM e560_5 <| sF (fun f => or_len tu55 f.1 rfl) <| sF (fun f => or_lss f.1 f.2.1 rfl) <| steps_nil
  intro o562 a562 w562 d562 z562 hk562 hf562 hE562
  obtain ⟨e562_1, e562_5, e562_6⟩ := kt3 hk562 e560_1 e560_5 e560_6
  have e562_14 := gv (hf562 [3] rfl) rfl
  have hX562 := es_ hE560 hE562
  have b562_A341 := re_ hE562 b560_A341
  refine fl_cond e562_14 hs (fun c563 hs => ?_) (fun c563 hs => ?_)
  ·refine fl_skip ?_
   refine hn561 _ _ ?_
   refine fl_seq (fun Q564 hn564 hp564 => ?_)
   refine fl_block (fun Q565 hn565 hx565 hp565 => ?_)
   refine rq_seq 54 o562 (bz 1) [dv [] [] 7 (Zi 0)] z562 d562 ?_ ?_
   ·exact sO (or_assign rfl) <| steps_nil
   intro o566 a566 w566 d566 z566 hk566 hf566 hE566
   obtain ⟨e566_1, e566_5, e566_6⟩ := kt3 hk566 e562_1 e562_5 e562_6
   have e566_7 := gv (hf566 [0] rfl) rfl
   have hX566 := es_ hX562 hE566
   have b566_A341 := re_ hE566 b562_A341
   refine fl_block (fun Q567 hn567 hx567 hp567 => ?_)
   refine fl_loop (body := (fun s => order_sorted_api_Point_Less_b2 run452 s.1 s.2)) (z := zz559) (show loopO _ _ = _ from hs) (fun (s : (List (Int × Int)) × Int) a wx => match s with | (out599, x601) => ∃ (ox : Own), a.defers = [] ∧ a.tmps.size = 54 ∧ a.eval (.tmp 1) = .func (.func 51) #[] #[] ∧ a.eval (.tmp 5) = sl A341 out599 cA341 ∧ a.eval (.tmp 6) = Zi run452 ∧ a.eval (.tmp 7) = Zi x601 ∧ Evo [] (fun _ => 0) ox w wx ∧ RwO ox 600 [] wx 25 R25 A341 cA341 out599) ?_ ?_
   ·exact ⟨(rl [(451, 600)] o566), d566, z566, e566_1, e566_5, e566_6, e566_7, (Evo.rl_ hX566 (fun _ => Nat.le_refl 0) rfl), (RwO.rl_ b566_A341)⟩
   ·rintro ⟨out599, x601⟩ zz633 a633 w633 ⟨o633, d634, z634, e634_1, e634_5, e634_6, e634_7, hE634, b634_A341⟩ hs Q633 hn633 hp633 z633
    have hs : order_sorted_api_Point_Less_b2 run452 out599 x601 = some zz633 := hs
    refine fl_seq (fun Q635 hn635 hp635 => ?_)
    refine rq_seq 54 o633 [0, 0, 3, 0, 8, 31] [dv [] [7] 17 (Zi x601), dv [] [6] 18 (Zi run452), dv [0, 1] [] 19 (Zi (ad x601 run452)), dv [] [5] 20 (sl A341 out599 cA341), dv [3] [] 21 (Zi (out599.length : Int)), dv [2, 4] [] 22 (.bool (decide ((ad x601 run452) < (out599.length : Int))))] z634 d634 ?_ ?_
    ·exact sM e634_7 <| sM e634_6 <| sF (fun f => or_add f.1 f.2.1 rfl) <| sM e634_5 <| sF (fun f => or_len tu55 f.1 rfl) <| sF (fun f => or_lss f.1 f.2.1 rfl) <| steps_nil
    intro o636 a636 w636 d636 z636 hk636 hf636 hE636
    obtain ⟨e636_1, e636_5, e636_6, e636_7⟩ := kt4 hk636 e634_1 e634_5 e634_6 e634_7
    have e636_22 := gv (hf636 [5] rfl) rfl
    have hX636 := es_ hE634 hE636
    have b636_A341 := re_ hE636 b634_A341
    refine fl_cond e636_22 hs (fun c637 hs => ?_) (fun c637 hs => ?_)
    ·refine fl_skip ?_
     refine hn635 _ _ ?_
     refine fl_seq (fun Q638 hn638 hp638 => ?_)
     refine fl_block (fun Q639 hn639 hx639 hp639 => ?_)
     obtain ⟨x640, hx640, hs⟩ := obind hs
     refine rq_seq 54 o636 [0, 0, 2, 7, 0, 16, 63, 127] [dv [] [7] 27 (Zi x601), dv [] [6] 28 (Zi run452), dv [1] [] 29 (Zi (ml 2 run452)), dv [0, 2] [] 30 (Zi (ad x601 (ml 2 run452))), dv [] [5] 31 (sl A341 out599 cA341), dv [4] [] 32 (Zi (out599.length : Int)), dv [3, 5] [] 33 (Zi x640), dv [6] [] 8 (Zi x640)] z636 d636 ?_ ?_
     ·exact sM e636_7 <| sM e636_6 <| sF (fun f => or_mul rfl f.1 rfl) <| sF (fun f => or_add f.1 f.2.1 rfl) <| sM e636_5 <| sF (fun f => or_len tu55 f.1 rfl) <| sF (fun f => or_eq_ (osome hx640).symm (or_min f.1 f.2.1)) <| sA <| steps_nil
     intro o641 a641 w641 d641 z641 hk641 hf641 hE641
     obtain ⟨e641_1, e641_5, e641_6, e641_7⟩ := kt4 hk641 e636_1 e636_5 e636_6 e636_7
     have e641_8 := gv (hf641 [7] rfl) rfl
     have hX641 := es_ hX636 hE641
     have b641_A341 := re_ hE641 b636_A341
     obtain ⟨x651, hx651, hs⟩ := obind hs
     obtain ⟨x653, hx653, hs⟩ := obind hs
     obtain ⟨x655, hx655, hs⟩ := obind hs
     obtain ⟨r657, hr657, hs⟩ := obind hs
     obtain ⟨l660, hl660, hs⟩ := obind hs
     refine rd_ g_mixed 54 [Fct.rowAt 600 [] 25 R25 A341 cA341 out599] o641 [600] [0, 0, 0, 7, 0, 0, 0, 0, 192, 496, 0, 0, 0, 6144, 0, 31744, 0, 131056, 262143] [dv [] [5] 34 (sl A341 out599 cA341), dv [] [7] 35 (Zi x601), dv [] [8] 36 (Zi x640), dv [0, 1, 2, 19] [] 37 (.slice (if (cA341 : Int).toNat = (x601 : Int).toNat then A341 else A341.map (·.add ((x601 : Int).toNat * R25.s))) ((x640 : Int).toNat - (x601 : Int).toNat) ((cA341 : Int).toNat - (x601 : Int).toNat)), dv [] [5] 38 (sl A341 out599 cA341), dv [] [7] 39 (Zi x601), dv [] [7] 40 (Zi x601), dv [] [6] 41 (Zi run452), dv [6, 7] [] 42 (Zi (ad x601 run452)), ⟨[4, 5, 8, 19], [], [], Fct.view [600] 43 R25 x653⟩, dv [] [5] 44 (sl A341 out599 cA341), dv [] [7] 45 (Zi x601), dv [] [6] 46 (Zi run452), dv [11, 12] [] 47 (Zi (ad x601 run452)), dv [] [8] 48 (Zi x640), ⟨[10, 13, 14, 19], [], [], Fct.view [600] 49 R25 x655⟩, dv [] [1] 50 (.func (.func 51) #[] #[]), ⟨[9, 15, 16], [], [], Fct.row 659 [] 51 25 R25 r657⟩, ⟨[3, 17, 19], [], [600], Fct.rowAt 661 [] 25 R25 A341 cA341 l660⟩] z641 d641 (fm1 b641_A341) ?_ ?_
     ·refine sM e641_5 <| sM e641_7 <| sM e641_8 ?_
      refine sc (fun own a wx hf hsl hE => ?_) ?_
      ·obtain ⟨f_34, f_35, f_36, b_A341, -⟩ := hf
       exact px (or_piece (R := R25) tu55 ts25 f_34 (Bnd.some_ f_35) (Bnd.some_ f_36) b_A341 (cut_some hx651).1 (cut_some hx651).2.1 (cut_some hx651).2.2.1)
      refine sM e641_5 <| sM e641_7 <| sM e641_7 <| sM e641_6 <| sF (fun f => or_add f.1 f.2.1 rfl) ?_
      refine sc (fun own a wx hf hsl hE => ?_) ?_
      ·obtain ⟨f_38, f_39, f_42, b_A341, -⟩ := hf
       exact px (or_view (R := R25) (l := out599) (L := [600]) tu55 ts25 f_38 (Bnd.some_ f_39) (Bnd.some_ f_42) Bnd.none_ (RwO.rd b_A341) hx653 (.inl rfl) (by simp))
      refine sM e641_5 <| sM e641_7 <| sM e641_6 <| sF (fun f => or_add f.1 f.2.1 rfl) <| sM e641_8 ?_
      refine sc (fun own a wx hf hsl hE => ?_) ?_
      ·obtain ⟨f_44, f_47, f_48, b_A341, -⟩ := hf
       exact px (or_view (R := R25) (l := out599) (L := [600]) tu55 ts25 f_44 (Bnd.some_ f_47) (Bnd.some_ f_48) Bnd.none_ (RwO.rd b_A341) hx655 (.inl rfl) (by simp))
      refine sM e641_1 ?_
      refine sc (fun own a wx hf hsl hE => ?_) ?_
      ·obtain ⟨⟨⟨A654, cA654⟩, f_43, b_A654⟩, ⟨⟨A656, cA656⟩, f_49, b_A656⟩, f_50, -⟩ := hf
       exact px (or_call cf71 (args3 f_43 f_49 f_50) (order_merged_api_Point_Less_w _ x653 A654 cA654 x655 A656 cA656 (RdO.zero b_A654) (RdO.zero b_A656) r657 hr657) (post_row (m' := (look0 [(1, 659)])) (.inl (Rep.fl_flat _)) rfl rfl (fun _ => rfl)))
      refine sc (fun own a wx hf hsl hE => ?_) ?_
      ·obtain ⟨f_37, ⟨⟨A658, cA658⟩, f_51, b_A658⟩, b_A341, -⟩ := hf
       exact px (or_copy (R := R25) (lab := 600) (lab2 := 661) tu55 rfl f_37 f_51 b_A341 (RwO.rd b_A658) hl660 (Rep.fl_flat _) (mem_of rfl) (by decide) (fun own' a' w' hb => hb))
      exact steps_nil
     intro o662 a662 w662 d662 z662 hk662 hf662 hE662
     obtain ⟨e662_1, e662_5, e662_6, e662_7⟩ := kt4 hk662 e641_1 e641_5 e641_6 e641_7
     obtain ⟨(b662_A341 : RwO o662 661 [] w662 25 R25 A341 cA341 l660), -⟩ := hf662 [18] rfl
     have hX662 := es_ hX641 hE662
     have m663_5 : a662.eval (.tmp 5) = sl A341 l660 cA341 := e662_5.trans (by (try unfold sl); rw [cpy_len hl660])
     refine hn639 _ _ ?_
     refine hn638 _ _ ?_
     refine rq 54 o662 [0, 0, 2, 7, 15] [dv [] [7] 23 (Zi x601), dv [] [6] 24 (Zi run452), dv [1] [] 25 (Zi (ml 2 run452)), dv [0, 2] [] 26 (Zi (ad x601 (ml 2 run452))), dv [3] [] 7 (Zi (ad x601 (ml 2 run452)))] z662 d662 ?_ ?_
     ·exact sM e662_7 <| sM e662_6 <| sF (fun f => or_mul rfl f.1 rfl) <| sF (fun f => or_add f.1 f.2.1 rfl) <| sA <| steps_nil
     intro o664 a664 w664 d664 z664 hk664 hf664 hE664
     obtain ⟨e664_1, e664_5, e664_6⟩ := kt3 hk664 e662_1 m663_5 e662_6
     have e664_7 := gv (hf664 [4] rfl) rfl
     have hX664 := es_ hX662 hE664
     have b664_A341 := re_ hE664 b662_A341
     exact hn633 _ _ _ hs ⟨(rl [(661, 600)] o664), d664, z664, e664_1, e664_5, e664_6, e664_7, (Evo.rl_ hX664 (fun _ => Nat.le_refl 0) rfl), (RwO.rl_ b664_A341)⟩
    refine fl_exit ?_
    refine hp635 _ _ _ rfl ?_
    replace hs := z633 _ hs
    refine hp633 _ _ _ rfl ?_
    refine hx567 _ _ ?_
    refine hn565 _ _ ?_
    refine hn564 _ _ ?_
    refine rq 54 o636 (bz 3) [dv [] [6] 15 (Zi run452), dv [0] [] 16 (Zi (ml run452 2)), dv [1] [] 6 (Zi (ml run452 2))] z636 d636 ?_ ?_
    ·exact sM e636_6 <| sF (fun f => or_mul f.1 rfl rfl) <| sA <| steps_nil
    intro o665 a665 w665 d665 z665 hk665 hf665 hE665
    obtain ⟨e665_1, e665_5⟩ := kt2 hk665 e636_1 e636_5
    have e665_6 := gv (hf665 [2] rfl) rfl
    have hX665 := es_ hX636 hE665
    have b665_A341 := re_ hE665 b636_A341
    exact hn559 _ _ _ hs ⟨(rl [(600, 451)] o665), d665, z665, e665_1, e665_5, e665_6, (Evo.rl_ hX665 (fun _ => Nat.le_refl 0) rfl), (RwO.rl_ b665_A341)⟩
  refine fl_exit ?_
  refine hp561 _ _ _ rfl ?_
  replace hs := z559 _ hs
  refine hp559 _ _ _ rfl ?_
  refine hx346 _ _ ?_
  refine hn344 _ _ ?_
  refine rq_seq 54 o562 (bz 2) [dv [] [5] 53 (sl A341 out450 cA341), dv [0] [] 4 (sl A341 out450 cA341)] z562 d562 ?_ ?_
  ·exact sM e562_5 <| sA <| steps_nil
  intro o666 a666 w666 d666 z666 hk666 hf666 hE666
  have e666_4 := gv (hf666 [1] rfl) rfl
  have hX666 := es_ hX562 hE666
  have b666_A341 := re_ hE666 b562_A341
  refine fl_ret ?_
  obtain rfl := (osome hs).symm
  exact hret _ _ _ _ (.inl rfl) d666 (results1_ rfl (RVal.tmp_ e666_4)) ⟨(rl [(451, 1)] o666), (A341, cA341), rfl, (Evo.rl_ hX666 (fun _ => Nat.le_refl 0) rfl), (RwO.rl_ b666_A341)⟩
theorem order_Points_w (w : World) (l1 : List (Int × Int)) (Al1 : Option Addr) (cl1 : Nat) (hl1 : RdO (fun _ => 0) [0] w R25 Al1 cl1 l1) (r : List (Int × Int)) (hs : order_Points l1 = some r) :
  Calls Try.prog 44 #[sl Al1 l1 cl1] w fun e w' => ∃ (own' : Own) (x : Option Addr × Nat), e = .returned (.slice x.1 r.length x.2) ∧ Evo [] (fun _ => 0) own' w w' ∧ RwO own' 1 [] w' 25 R25 x.1 x.2 r := by
 refine fl_enter (n := 5) rfl rfl rfl (Nat.le_of_ble_eq_true rfl) ?_
 intro a0 Q d0 z0 harg hret
 have ha0 := harg 0 _ rfl
 clear harg
 have hE0 : Evo [] (fun _ => 0) (fun _ => 0) w w := Evo.refl _ _ _
 refine rq_seq 5 (fun _ => 0) (bz 1) [dv [] [] 2 (.slice none 0 0)] z0 d0 ?_ ?_
 ·exact sO (or_assign rfl) <| steps_nil
 intro o16 a16 w16 d16 z16 hk16 hf16 hE16
 have e16_0 := kt hk16 ha0
 have hX16 := es_ hE0 hE16
 obtain ⟨r17, hr17, hs⟩ := obind hs
 refine rq_seq 5 o16 (bz 3) [dv [] [0] 3 (sl Al1 l1 cl1), ⟨[0], [], [], Fct.row 19 [] 4 25 R25 r17⟩, ⟨[1], [], [], Fct.rel [2, 4] (fun l => ∀ (A18 : Option Addr) (cA18 : Nat), l.getD 1 undef = sl A18 r17 cA18 → l.getD 0 undef = sl A18 r17 cA18)⟩] z16 d16 ?_ ?_
 ·refine sM e16_0 <| sFE (fun f hE => or_call cf62 (args2 f.1 rfl) (order_sorted_api_Point_Less_w _ l1 Al1 cl1 (RdO.zero (RdO.evo rfl hE (RdO.evo rfl hX16 hl1))) r17 hr17) (post_row (m' := (look0 [(1, 19)])) (.inl (Rep.fl_flat _)) rfl rfl (fun _ => rfl))) ?_
  refine sc (fun own a wx hf hsl hE => ?_) ?_
  ·obtain ⟨⟨⟨A18, cA18⟩, (f_4 : a.eval (.tmp 4) = sl A18 r17 cA18), b_A18⟩, -⟩ := hf
   exact px (or_mono (f := Fct.val 2 (sl A18 r17 cA18)) (or_assign f_4) (fun own' a' w' v' hp h => fun _ _ h0' => by cases (f_4.symm.trans ((hp.2 4 (by decide)).symm.trans h0')); exact h))
  exact steps_nil
 intro o20 a20 w20 d20 z20 hk20 hf20 hE20
 obtain ⟨⟨⟨A18, cA18⟩, (f_4 : a20.eval (.tmp 4) = sl A18 r17 cA18), (b20_A18 : RwO o20 19 [] w20 25 R25 A18 cA18 r17)⟩, (q_2 : ∀ (A18 : Option Addr) (cA18 : Nat), a20.eval (.tmp 4) = sl A18 r17 cA18 → a20.eval (.tmp 2) = sl A18 r17 cA18), -⟩ := hf20 [1, 2] rfl
 have e20_2 := q_2 _ _ f_4
 have hX20 := es_ hX16 hE20
 refine fl_ret ?_
 obtain rfl := (osome hs).symm
 exact hret _ _ _ _ (.inl rfl) d20 (results1_ rfl (RVal.tmp_ e20_2)) ⟨(rl [(19, 1)] o20), (A18, cA18), rfl, (Evo.rl_ hX20 (fun _ => Nat.le_refl 0) rfl), (RwO.rl_ b20_A18)⟩
theorem guard_Guard_Points_w (w : World) (g1 : (((List ((Int × Int) × (Int × Int))) × (List ((Int × Int) × (List Int))) × (List Int))) × (List Int) × (List (Int × Int)) × (List ((Int × Int) × Bool)) × (List (((Int × Int) × (Int × Int)) × Bool))) (gg1 : Nat) (tg1 : TypeId) (gg1_0 : Nat) (tg1_0 : TypeId) (Ag1_0_0 : Option Addr) (cg1_0_0 : Nat) (mg1_0_1 : Nat) (Ag1_0_2 : Option Addr) (cg1_0_2 : Nat) (Ag1_1 : Option Addr) (cg1_1 : Nat) (Ag1_2 : Option Addr) (cg1_2 : Nat) (mg1_3 : Nat) (mg1_4 : Nat) (hgg1 : BlkO (fun _ => 0) 0 w gg1 tg1 #[pt gg1_0 0, sl Ag1_1 g1.2.1 cg1_1, sl Ag1_2 g1.2.2.1 cg1_2, .map (some mg1_3), .map (some mg1_4)]) (hAg1_1 : RdO (fun _ => 0) [0] w R3 Ag1_1 cg1_1 g1.2.1) (hAg1_2 : RdO (fun _ => 0) [0] w R25 Ag1_2 cg1_2 g1.2.2.1) (hmg1_3 : MpO (fun _ => 0) 0 w mg1_3 vv25 vv4 g1.2.2.2.1) (hmg1_4 : MpO (fun _ => 0) 0 w mg1_4 vv81 vv4 g1.2.2.2.2) (hgg1_0 : BlkO (fun _ => 0) 0 w gg1_0 tg1_0 #[sl Ag1_0_0 g1.1.1 cg1_0_0, .map (some mg1_0_1), sl Ag1_0_2 g1.1.2.2 cg1_0_2]) (hAg1_0_0 : RdO (fun _ => 0) [0] w R80 Ag1_0_0 cg1_0_0 g1.1.1) (hmg1_0_1 : MpN (fun _ => 0) 0 0 [0] w mg1_0_1 vv111 3 R3 g1.1.2.1) (hAg1_0_2 : RdO (fun _ => 0) [0] w R3 Ag1_0_2 cg1_0_2 g1.1.2.2) (r : List (Int × Int)) (hs : guard_Guard_Points g1 = some r) :
  Calls Try.prog 24 #[pt gg1 0] w fun e w' => ∃ (own' : Own) (x : Option Addr × Nat), e = .returned (.slice x.1 r.length x.2) ∧ Evo [] (fun _ => 0) own' w w' ∧ RwO own' 1 [] w' 25 R25 x.1 x.2 r := by
 refine fl_enter (n := 22) rfl rfl rfl (Nat.le_of_ble_eq_true rfl) ?_
 intro a0 Q d0 z0 harg hret
 have ha0 := harg 0 _ rfl
 clear harg
 have hE0 : Evo [] (fun _ => 0) (fun _ => 0) w w := Evo.refl _ _ _
 refine rq_seq 22 (fun _ => 0) (bz 1) [dv [] [] 2 (.slice none 0 0)] z0 d0 ?_ ?_
 ·exact sO (or_assign rfl) <| steps_nil
 intro o90 a90 w90 d90 z90 hk90 hf90 hE90
 have e90_0 := kt hk90 ha0
 have hX90 := es_ hE0 hE90
 refine fl_seq (fun Q91 hn91 hp91 => ?_)
 refine rq_seq 22 o90 (bz 2) [dv [] [0] 5 (pt gg1 0), dv [0] [] 6 (.bool false)] z90 d90 ?_ ?_
 ·exact sM e90_0 <| sF (fun f => ok1 f.1) <| steps_nil
 intro o92 a92 w92 d92 z92 hk92 hf92 hE92
 have e92_0 := kt hk92 e90_0
 have e92_6 := gv (hf92 [1] rfl) rfl
 have hX92 := es_ hX90 hE92
 refine fl_f e92_6 ?_
 refine fl_skip ?_
 refine hn91 _ _ ?_
 refine rq_seq 22 o92 (bz 1) [dv [] [] 3 (.slice none 0 0)] z92 d92 ?_ ?_
 ·exact sO (or_assign rfl) <| steps_nil
 intro o93 a93 w93 d93 z93 hk93 hf93 hE93
 have e93_0 := kt hk93 e92_0
 have e93_3 := gv (hf93 [0] rfl) rfl
 have hX93 := es_ hX92 hE93
 refine fl_seq (fun Q94 hn94 hp94 => ?_)
 refine rq_seq 22 o93 (bz 5) [dv [] [0] 7 (pt gg1 0), dv [0] [] 8 (pt gg1 0), dv [1] [] 9 (pt gg1 3), dv [2] [] 10 (.map (some mg1_3)), ⟨[3], [], [], Fct.mit 96 0 mg1_3 11 vv25 vv4 g1.2.2.2.1⟩] z93 d93 ?_ ?_
 ·exact sM e93_0 <| sF (fun f => ok1 f.1) <| sF (fun f => or_field fo77_3 f.1 (by rfl)) <| sG to74 (be_ hX93 hgg1) <| sFE (fun f hE => or_rangeMt (lab := 96) tm74 f.1 (MpO.evo (by decide) hE (MpO.evo (by decide) hX93 hmg1_3)) (nmem_of rfl)) <| steps_nil
 intro o97 a97 w97 d97 z97 hk97 hf97 hE97
 have e97_3 := kt hk97 e93_3
 obtain ⟨⟨g95, (e97_11 : a97.eval (.tmp 11) = pt g95 0), (b97_g95 : MitO o97 96 0 w97 g95 mg1_3 vv25 vv4 g1.2.2.2.1 g1.2.2.2.1 none)⟩, -⟩ := hf97 [4] rfl
 have hX97 := es_ hX93 hE97
 refine fl_block (fun Q98 hn98 hx98 hp98 => ?_)
 refine fl_loopQ (N := (fun (s : (List (Int × Int)) × (List ((Int × Int) × Bool))) => (s.2).length)) (body := (fun (s : (List (Int × Int)) × (List ((Int × Int) × Bool))) q => guard_Guard_Points_b1 s.1 s.2 q)) (z := r) (show loopQ _ _ _ = _ from hs) (fun (s : (List (Int × Int)) × (List ((Int × Int) × Bool))) a wx => match s with | (out120, L123) => ∃ (ox : Own) (A118 : Option Addr) (c119 : Nat), a.defers = [] ∧ a.tmps.size = 22 ∧ a.eval (.tmp 3) = sl A118 out120 c119 ∧ a.eval (.tmp 11) = pt g95 0 ∧ Evo [] (fun _ => 0) ox w wx ∧ RwO ox 121 [] wx 25 R25 A118 c119 out120 ∧ MitO ox 122 0 wx g95 mg1_3 vv25 vv4 g1.2.2.2.1 L123 none) ?_ ?_
 ·exact ⟨(rl [(96, 122)] o97), none, 0, d97, z97, e97_3, e97_11, (Evo.rl_ hX97 (fun _ => Nat.le_refl 0) rfl), RwO.nil_, (MitO.rl_ b97_g95)⟩
 ·rintro ⟨out120, L123⟩ a144 w144 ⟨o144, A118, c119, d145, z145, e145_3, e145_11, hE145, b145_A118, b145_g95⟩ Q144 hk144 hp144
  refine rr_seq 22 [Fct.mitAt 122 0 g95 mg1_3 vv25 vv4 g1.2.2.2.1 L123 none] o144 [122] (bz 2) [⟨[2], [11], [122], Fct.mitN 146 0 g95 mg1_3 12 vv25 vv4 g1.2.2.2.1 L123⟩, ⟨[0], [], [], Fct.rel [13, 12] (fun l => ∀ (q147 : Nat), l.getD 1 undef = nxM vv25 vv4 L123 q147 → l.getD 0 undef = .bool (decide (q147 < L123.length)))⟩] z145 d145 (fm1 b145_g95) ?_ ?_
  ·refine sc (fun own a wx hf hsl hE => ?_) ?_
   ·obtain ⟨b_g95, -⟩ := hf
    obtain ⟨s_11, -⟩ := hsl
    exact px (or_nextMt (lab := 122) (lab2 := 146) (s_11.trans e145_11) b_g95 (mem_of rfl) (by decide) (nmem_of rfl))
   refine sc (fun own a wx hf hsl hE => ?_) ?_
   ·obtain ⟨⟨q147, f_12, hq_12, b_g95⟩, -⟩ := hf
    exact px (or_mxR (by decide) f_12)
   exact steps_nil
  intro o148 a148 w148 d148 z148 hk148 hf148 hE148
  obtain ⟨e148_3, e148_11⟩ := kt2 hk148 e145_3 e145_11
  obtain ⟨⟨q147, (f_12 : a148.eval (.tmp 12) = nxM vv25 vv4 L123 q147), hq_12, (b148_g95 : MitO o148 146 0 w148 g95 mg1_3 vv25 vv4 g1.2.2.2.1 (L123.eraseIdx q147) L123[q147]?)⟩, (q_13 : ∀ (q147 : Nat), a148.eval (.tmp 12) = nxM vv25 vv4 L123 q147 → a148.eval (.tmp 13) = .bool (decide (q147 < L123.length))), -⟩ := hf148 [0, 1] rfl
  have e148_13 := q_13 _ f_12
  have hX148 := es_ hE145 hE148
  have b148_A118 := re_ hE148 b145_A118
  obtain ⟨zz144, hs, hn144, z144⟩ := hk144 q147 hq_12
  have hs : guard_Guard_Points_b1 out120 L123 q147 = some zz144 := hs
  refine fl_seq (fun Q149 hn149 hp149 => ?_)
  refine fl_cond e148_13 hs (fun c150 hs => ?_) (fun c150 hs => ?_)
  ·refine fl_skip ?_
   refine hn149 _ _ ?_
   refine fl_block (fun Q151 hn151 hx151 hp151 => ?_)
   obtain ⟨e152, he152, hs⟩ := obind hs
   refine rp_seq 22 o148 [154] [0, 1, 0, 7] [dv [] [11] 14 (.tuple #[P2 e152.1, .bool e152.2]), dv [0] [] 15 (P2 e152.1), ⟨[], [], [], Fct.blk 154 4 (fun g => pt g 0) 25 #[Zi 0, Zi 0]⟩, ⟨[2, 1], [], [154], Fct.blk 155 4 (fun g => pt g 0) 25 #[Zi e152.1.1, Zi e152.1.2]⟩] z148 d148 ?_ ?_
   ·refine sSE (fun s hE => or_entryQ (dv := ((0, 0), false)) (s.1.trans e148_11) (MitO.evo (by decide) (by decide) hE b148_g95) c150 (osome he152).symm) <| sF (fun f => ok1 f.1) <| sO (nw0) ?_
    refine sc (fun own a wx hf hsl hE => ?_) ?_
    ·obtain ⟨⟨g153, f_4, b_g153⟩, f_15, -⟩ := hf
     exact px (or_store (l := #[Zi e152.1.1, Zi e152.1.2]) (lab := 154) (lab2 := 155) ts25 f_4 f_15 b_g153 (by simp) (by kernel_rfl) (mem_of rfl) (by decide) (by kernel_rfl) (fun own' a' w' ha hb => ⟨_, (ha 4).trans f_4, hb⟩))
    exact steps_nil
   intro o156 a156 w156 d156 z156 hk156 hf156 hE156
   obtain ⟨e156_3, e156_11⟩ := kt2 hk156 e148_3 e148_11
   obtain ⟨⟨g153, (e156_4 : a156.eval (.tmp 4) = pt g153 0), (b156_g153 : BlkO o156 155 w156 g153 25 #[Zi e152.1.1, Zi e152.1.2])⟩, -⟩ := hf156 [3] rfl
   have hX156 := es_ hX148 hE156
   have b156_A118 := re_ hE156 b148_A118
   have b156_g95 := MitO.evo (by decide) (by decide) hE156 b148_g95
   obtain ⟨x161, hx161, hs⟩ := obind hs
   refine rr 22 [Fct.rowAt 121 [] 25 R25 A118 c119 out120] o156 [121] [0, 0, 2, 7, 15] [dv [] [3] 16 (sl A118 out120 c119), dv [] [4] 17 (P2 e152.1), ⟨[1], [], [], Fct.row 160 [] 18 25 R25 [e152.1]⟩, ⟨[0, 2, 5], [], [121], Fct.row 162 [] 19 25 R25 x161⟩, ⟨[3], [], [], Fct.rel [3, 19] (fun l => ∀ (A163 : Option Addr) (cA163 : Nat), l.getD 1 undef = sl A163 x161 cA163 → l.getD 0 undef = sl A163 x161 cA163)⟩] z156 d156 (fm1 b156_A118) ?_ ?_
   ·refine sM e156_3 <| sL ta25 e156_4 b156_g153 <| sF (fun f => or_lit (lab := 160) (e := 25) (cs := #[Zi e152.1.1, Zi e152.1.2]) (F := E25) (nw1 f.1) rfl rfl (show 1 ≤ maxLen by decide)) ?_
    refine sc (fun own a wx hf hsl hE => ?_) ?_
    ·obtain ⟨f_16, ⟨⟨A159, cA159⟩, f_18, b_A159⟩, b_A118, -⟩ := hf
     exact px (or_append (R := R25) (lab := 121) (lab2 := 162) (L := []) (L3 := []) tp55 f_16 b_A118 (by decide) f_18 (RwO.rd b_A159) hx161 (by decide) (by decide) (mem_of rfl) (.inl (Rep.fl_flat _)))
    refine sc (fun own a wx hf hsl hE => ?_) ?_
    ·obtain ⟨⟨⟨A163, cA163⟩, (f_19 : a.eval (.tmp 19) = sl A163 x161 cA163), b_A163⟩, -⟩ := hf
     exact px (or_mono (f := Fct.val 3 (sl A163 x161 cA163)) (or_assign f_19) (fun own' a' w' v' hp h => fun _ _ h0' => by cases (f_19.symm.trans ((hp.2 19 (by decide)).symm.trans h0')); exact h))
    exact steps_nil
   intro o164 a164 w164 d164 z164 hk164 hf164 hE164
   have e164_11 := kt hk164 e156_11
   obtain ⟨⟨⟨A163, cA163⟩, (f_19 : a164.eval (.tmp 19) = sl A163 x161 cA163), (b164_A163 : RwO o164 162 [] w164 25 R25 A163 cA163 x161)⟩, (q_3 : ∀ (A163 : Option Addr) (cA163 : Nat), a164.eval (.tmp 19) = sl A163 x161 cA163 → a164.eval (.tmp 3) = sl A163 x161 cA163), -⟩ := hf164 [3, 4] rfl
   have e164_3 := q_3 _ _ f_19
   have hX164 := es_ hX156 hE164
   have b164_g95 := MitO.evo (by decide) (by decide) hE164 b156_g95
   refine hn151 _ _ ?_
   exact hn144 _ _ _ hs ⟨(rl [(146, 122), (162, 121)] o164), A163, cA163, d164, z164, e164_3, e164_11, (Evo.rl_ hX164 (fun _ => Nat.le_refl 0) rfl), (RwO.rl_ b164_A163), (MitO.rl_ (MitO.none_ b164_g95))⟩
  refine fl_exit ?_
  refine hp149 _ _ _ rfl ?_
  replace hs := z144 _ hs
  refine hp144 _ _ _ rfl ?_
  refine hx98 _ _ ?_
  refine hn94 _ _ ?_
  obtain ⟨r165, hr165, hs⟩ := obind hs
  refine rq_seq 22 o148 (bz 3) [dv [] [3] 20 (sl A118 out120 c119), ⟨[0], [], [], Fct.row 167 [] 21 25 R25 r165⟩, ⟨[1], [], [], Fct.rel [2, 21] (fun l => ∀ (A166 : Option Addr) (cA166 : Nat), l.getD 1 undef = sl A166 r165 cA166 → l.getD 0 undef = sl A166 r165 cA166)⟩] z148 d148 ?_ ?_
  ·refine sM e148_3 <| sFE (fun f hE => or_call cf44 (args1 f.1) (order_Points_w _ out120 A118 c119 (RdO.zero (RwO.rd (re_ hE b148_A118))) r165 hr165) (post_row (m' := (look0 [(1, 167)])) (.inl (Rep.fl_flat _)) rfl rfl (fun _ => rfl))) ?_
   refine sc (fun own a wx hf hsl hE => ?_) ?_
   ·obtain ⟨⟨⟨A166, cA166⟩, (f_21 : a.eval (.tmp 21) = sl A166 r165 cA166), b_A166⟩, -⟩ := hf
    exact px (or_mono (f := Fct.val 2 (sl A166 r165 cA166)) (or_assign f_21) (fun own' a' w' v' hp h => fun _ _ h0' => by cases (f_21.symm.trans ((hp.2 21 (by decide)).symm.trans h0')); exact h))
   exact steps_nil
  intro o168 a168 w168 d168 z168 hk168 hf168 hE168
  obtain ⟨⟨⟨A166, cA166⟩, (f_21 : a168.eval (.tmp 21) = sl A166 r165 cA166), (b168_A166 : RwO o168 167 [] w168 25 R25 A166 cA166 r165)⟩, (q_2 : ∀ (A166 : Option Addr) (cA166 : Nat), a168.eval (.tmp 21) = sl A166 r165 cA166 → a168.eval (.tmp 2) = sl A166 r165 cA166), -⟩ := hf168 [1, 2] rfl
  have e168_2 := q_2 _ _ f_21
  have hX168 := es_ hX148 hE168
  refine fl_ret ?_
  obtain rfl := (osome hs).symm
  exact hret _ _ _ _ (.inl rfl) d168 (results1_ rfl (RVal.tmp_ e168_2)) ⟨(rl [(167, 1)] o168), (A166, cA166), rfl, (Evo.rl_ hX168 (fun _ => Nat.le_refl 0) rfl), (RwO.rl_ b168_A166)⟩
theorem ref01_Less_w (w : World) (x1 : Int × Int) (b2 : Int × Int) (r : Bool) (hs : ref01_Less x1 b2 = some r) :
  Calls Try.prog 45 #[P2 x1, P2 b2] w fun e w' => ∃ own' : Own, e = .returned (.bool r) ∧ Evo [] (fun _ => 0) own' w w' := by
 refine fl_enter (n := 20) rfl rfl rfl (Nat.le_of_ble_eq_true rfl) ?_
 intro a0 Q d0 z0 harg hret
 have ha0 := harg 0 _ rfl
 have ha1 := harg 1 _ rfl
 clear harg
 have hE0 : Evo [] (fun _ => 0) (fun _ => 0) w w := Evo.refl _ _ _
 refine rq_seq 20 (fun _ => 0) [0, 0, 0] [⟨[], [0], [], Fct.blk 22 2 (fun g => pt g 0) 44 #[Zi x1.1, Zi x1.2]⟩, ⟨[], [1], [], Fct.blk 24 3 (fun g => pt g 0) 44 #[Zi b2.1, Zi b2.2]⟩, dv [] [] 4 (.bool false)] z0 d0 ?_ ?_
 ·exact sS (fun s => nw1 (s.1.trans ha0)) <| sS (fun s => nw1 (s.1.trans ha1)) <| sO (or_assign rfl) <| steps_nil
 intro o25 a25 w25 d25 z25 hk25 hf25 hE25
 obtain ⟨⟨g21, (e25_2 : a25.eval (.tmp 2) = pt g21 0), (b25_g21 : BlkO o25 22 w25 g21 44 #[Zi x1.1, Zi x1.2])⟩, ⟨g23, (e25_3 : a25.eval (.tmp 3) = pt g23 0), (b25_g23 : BlkO o25 24 w25 g23 44 #[Zi b2.1, Zi b2.2])⟩, -⟩ := hf25 [0, 1] rfl
 have hX25 := es_ hE0 hE25
 refine fl_seq (fun Q26 hn26 hp26 => ?_)
 refine rq_seq 20 o25 [0, 1, 0, 4, 15] [dv [] [2] 5 (pt g21 0), dv [0] [] 6 (Zi x1.1), dv [] [3] 7 (pt g23 0), dv [2] [] 8 (Zi b2.1), dv [1, 3] [] 9 (.bool (!decide (x1.1 = b2.1)))] z25 d25 ?_ ?_
 ·exact sS (fun s => or_field fo44_0 (s.1.trans e25_2) (by rfl)) <| sG to3 b25_g21 <| sS (fun s => or_field fo44_0 (s.1.trans e25_3) (by rfl)) <| sG to3 b25_g23 <| sF (fun f => or_neq f.1 f.2.1 rfl) <| steps_nil
 intro o27 a27 w27 d27 z27 hk27 hf27 hE27
 obtain ⟨e27_2, e27_3⟩ := kt2 hk27 e25_2 e25_3
 have e27_9 := gv (hf27 [4] rfl) rfl
 have hX27 := es_ hX25 hE27
 obtain ⟨b27_g21, b27_g23⟩ := be2 hE27 b25_g21 b25_g23
 refine fl_cond e27_9 hs (fun c28 hs => ?_) (fun c28 hs => ?_)
 ·refine rq_seq 20 o27 [0, 1, 0, 4, 15, 31] [dv [] [2] 10 (pt g21 0), dv [0] [] 11 (Zi x1.1), dv [] [3] 12 (pt g23 0), dv [2] [] 13 (Zi b2.1), dv [1, 3] [] 14 (.bool (decide (x1.1 < b2.1))), dv [4] [] 4 (.bool (decide (x1.1 < b2.1)))] z27 d27 ?_ ?_
  ·exact sS (fun s => or_field fo44_0 (s.1.trans e27_2) (by rfl)) <| sG to3 b27_g21 <| sS (fun s => or_field fo44_0 (s.1.trans e27_3) (by rfl)) <| sG to3 b27_g23 <| sF (fun f => or_lss f.1 f.2.1 rfl) <| sA <| steps_nil
  intro o29 a29 w29 d29 z29 hk29 hf29 hE29
  have e29_4 := gv (hf29 [5] rfl) rfl
  have hX29 := es_ hX27 hE29
  refine fl_ret ?_
  refine hp26 _ _ _ rfl ?_
  obtain rfl := osome hs
  exact hret _ _ _ _ (.inl rfl) d29 (results1_ rfl (RVal.tmp_ e29_4)) ⟨o29, rfl, hX29⟩
 refine fl_skip ?_
 refine hn26 _ _ ?_
 refine rq_seq 20 o27 [0, 1, 0, 4, 15, 31] [dv [] [2] 15 (pt g21 1), dv [0] [] 16 (Zi x1.2), dv [] [3] 17 (pt g23 1), dv [2] [] 18 (Zi b2.2), dv [1, 3] [] 19 (.bool (decide (x1.2 < b2.2))), dv [4] [] 4 (.bool (decide (x1.2 < b2.2)))] z27 d27 ?_ ?_
 ·exact sS (fun s => or_field fo44_1 (s.1.trans e27_2) (by rfl)) <| sG to3 b27_g21 <| sS (fun s => or_field fo44_1 (s.1.trans e27_3) (by rfl)) <| sG to3 b27_g23 <| sF (fun f => or_lss f.1 f.2.1 rfl) <| sA <| steps_nil
 intro o30 a30 w30 d30 z30 hk30 hf30 hE30
 have e30_4 := gv (hf30 [5] rfl) rfl
 have hX30 := es_ hX27 hE30
 refine fl_ret ?_
 obtain rfl := osome hs
 exact hret _ _ _ _ (.inl rfl) d30 (results1_ rfl (RVal.tmp_ e30_4)) ⟨o30, rfl, hX30⟩
end Go.Proofs.Ytoccfdohlefifaa
