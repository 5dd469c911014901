import Derived.Test.YtoccfdohlefifaaWp3
import Derived.Test.YtoccfdohlefifaaSp4
namespace Go.Proofs.Ytoccfdohlefifaa
open Go.RowKit
set_option linter.unusedVariables false
set_option maxRecDepth 10000
theorem exact_Turn_w (w : World) (x1 : Int × Int) (b2 : Int × Int) (c3 : Int × Int) (r : Int) (hs : exact_Turn x1 b2 c3 = some r) :
  Calls Try.prog 46 #[P2 x1, P2 b2, P2 c3] w fun e w' => ∃ own' : Own, e = .returned (Zi r) ∧ Evo [] (fun _ => 0) own' w w' := by
 refine fl_enter (n := 18) rfl rfl rfl (Nat.le_of_ble_eq_true rfl) ?_
 intro a0 Q d0 z0 harg hret
 have ha0 := harg 0 _ rfl
 have ha1 := harg 1 _ rfl
 have ha2 := harg 2 _ rfl
 clear harg
 have hE0 : Evo [] (fun _ => 0) (fun _ => 0) w w := Evo.refl _ _ _
 refine rq_seq 18 (fun _ => 0) [0, 0, 0, 0] [⟨[], [0], [], Fct.blk 30 3 (fun g => pt g 0) 25 #[Zi x1.1, Zi x1.2]⟩, ⟨[], [1], [], Fct.blk 32 4 (fun g => pt g 0) 25 #[Zi b2.1, Zi b2.2]⟩, ⟨[], [2], [], Fct.blk 34 5 (fun g => pt g 0) 25 #[Zi c3.1, Zi c3.2]⟩, dv [] [] 6 (Zi 0)] z0 d0 ?_ ?_
 ·exact sS (fun s => nw1 (s.1.trans ha0)) <| sS (fun s => nw1 (s.1.trans ha1)) <| sS (fun s => nw1 (s.1.trans ha2)) <| sO (or_assign rfl) <| steps_nil
 intro o35 a35 w35 d35 z35 hk35 hf35 hE35
 obtain ⟨⟨g29, (e35_3 : a35.eval (.tmp 3) = pt g29 0), (b35_g29 : BlkO o35 30 w35 g29 25 #[Zi x1.1, Zi x1.2])⟩, ⟨g31, (e35_4 : a35.eval (.tmp 4) = pt g31 0), (b35_g31 : BlkO o35 32 w35 g31 25 #[Zi b2.1, Zi b2.2])⟩, ⟨g33, (e35_5 : a35.eval (.tmp 5) = pt g33 0), (b35_g33 : BlkO o35 34 w35 g33 25 #[Zi c3.1, Zi c3.2])⟩, -⟩ := hf35 [0, 1, 2] rfl
 have hX35 := es_ hE0 hE35
 refine fl_seq (fun Q36 hn36 hp36 => ?_)
 obtain ⟨r37, hr37, hs⟩ := obind hs
 refine rq_seq 18 o35 [0, 0, 0, 7, 15] [dv [] [3] 8 (P2 x1), dv [] [4] 9 (P2 b2), dv [] [5] 10 (P2 c3), dv [0, 1, 2] [] 11 (Zi r37), dv [3] [] 7 (Zi r37)] z35 d35 ?_ ?_
 ·exact sL ta25 e35_3 b35_g29 <| sL ta25 e35_4 b35_g31 <| sL ta25 e35_5 b35_g33 <| sF (fun f => or_call cf63 (args3 f.1 f.2.1 f.2.2.1) (exact_Cross_w _ x1 b2 c3  r37 hr37) post_val) <| sA <| steps_nil
 intro o38 a38 w38 d38 z38 hk38 hf38 hE38
 have e38_7 := gv (hf38 [4] rfl) rfl
 have hX38 := es_ hX35 hE38
 refine fl_block (fun Q39 hn39 hx39 hp39 => ?_)
 refine rq_seq 18 o38 (bz 3) [dv [] [7] 13 (Zi r37), dv [0] [] 14 (.bool (decide (0 < r37))), dv [1] [] 12 (.bool (decide (0 < r37)))] z38 d38 ?_ ?_
 ·exact sM e38_7 <| sF (fun f => or_gtr f.1 rfl rfl) <| sA <| steps_nil
 intro o40 a40 w40 d40 z40 hk40 hf40 hE40
 have e40_7 := kt hk40 e38_7
 have e40_12 := gv (hf40 [2] rfl) rfl
 have hX40 := es_ hX38 hE40
 refine fl_cond e40_12 hs (fun c41 hs => ?_) (fun c41 hs => ?_)
 ·refine rq_seq 18 o40 (bz 1) [dv [] [] 6 (Zi 1)] z40 d40 ?_ ?_
  ·exact sO (or_assign rfl) <| steps_nil
  intro o42 a42 w42 d42 z42 hk42 hf42 hE42
  have e42_6 := gv (hf42 [0] rfl) rfl
  have hX42 := es_ hX40 hE42
  refine fl_ret ?_
  refine hp39 _ _ _ rfl ?_
  refine hp36 _ _ _ rfl ?_
  obtain rfl := osome hs
  exact hret _ _ _ _ (.inl rfl) d42 (results1_ rfl (RVal.tmp_ e42_6)) ⟨o42, rfl, hX42⟩
 refine rq_seq 18 o40 (bz 3) [dv [] [7] 16 (Zi r37), dv [0] [] 17 (.bool (decide (r37 < 0))), dv [1] [] 15 (.bool (decide (r37 < 0)))] z40 d40 ?_ ?_
 ·exact sM e40_7 <| sF (fun f => or_lss f.1 rfl rfl) <| sA <| steps_nil
 intro o43 a43 w43 d43 z43 hk43 hf43 hE43
 have e43_15 := gv (hf43 [2] rfl) rfl
 have hX43 := es_ hX40 hE43
 refine fl_cond e43_15 hs (fun c44 hs => ?_) (fun c44 hs => ?_)
 ·refine rq_seq 18 o43 (bz 1) [dv [] [] 6 (Zi (-1))] z43 d43 ?_ ?_
  ·exact sO (or_assign rfl) <| steps_nil
  intro o45 a45 w45 d45 z45 hk45 hf45 hE45
  have e45_6 := gv (hf45 [0] rfl) rfl
  have hX45 := es_ hX43 hE45
  refine fl_ret ?_
  refine hp39 _ _ _ rfl ?_
  refine hp36 _ _ _ rfl ?_
  obtain rfl := osome hs
  exact hret _ _ _ _ (.inl rfl) d45 (results1_ rfl (RVal.tmp_ e45_6)) ⟨o45, rfl, hX45⟩
 refine fl_skip ?_
 refine hn39 _ _ ?_
 refine hn36 _ _ ?_
 refine rq_seq 18 o43 (bz 1) [dv [] [] 6 (Zi 0)] z43 d43 ?_ ?_
 ·exact sO (or_assign rfl) <| steps_nil
 intro o46 a46 w46 d46 z46 hk46 hf46 hE46
 have e46_6 := gv (hf46 [0] rfl) rfl
 have hX46 := es_ hX43 hE46
 refine fl_ret ?_
 obtain rfl := osome hs
 exact hret _ _ _ _ (.inl rfl) d46 (results1_ rfl (RVal.tmp_ e46_6)) ⟨o46, rfl, hX46⟩
theorem exact_between_w (w : World) (x1 : Int × Int) (b2 : Int × Int) (p3 : Int × Int) (r : Bool) (hs : exact_between x1 b2 p3 = some r) :
  Calls Try.prog 69 #[P2 x1, P2 b2, P2 p3] w fun e w' => ∃ own' : Own, e = .returned (.bool r) ∧ Evo [] (fun _ => 0) own' w w' := by
 refine fl_enter (n := 35) rfl rfl rfl (Nat.le_of_ble_eq_true rfl) ?_
 intro a0 Q d0 z0 harg hret
 have ha0 := harg 0 _ rfl
 have ha1 := harg 1 _ rfl
 have ha2 := harg 2 _ rfl
 clear harg
 have hE0 : Evo [] (fun _ => 0) (fun _ => 0) w w := Evo.refl _ _ _
 refine rq_seq 35 (fun _ => 0) [0, 0, 0, 0] [⟨[], [0], [], Fct.blk 22 3 (fun g => pt g 0) 25 #[Zi x1.1, Zi x1.2]⟩, ⟨[], [1], [], Fct.blk 24 4 (fun g => pt g 0) 25 #[Zi b2.1, Zi b2.2]⟩, ⟨[], [2], [], Fct.blk 26 5 (fun g => pt g 0) 25 #[Zi p3.1, Zi p3.2]⟩, dv [] [] 6 (.bool false)] z0 d0 ?_ ?_
 ·exact sS (fun s => nw1 (s.1.trans ha0)) <| sS (fun s => nw1 (s.1.trans ha1)) <| sS (fun s => nw1 (s.1.trans ha2)) <| sO (or_assign rfl) <| steps_nil
 intro o27 a27 w27 d27 z27 hk27 hf27 hE27
 obtain ⟨⟨g21, (e27_3 : a27.eval (.tmp 3) = pt g21 0), (b27_g21 : BlkO o27 22 w27 g21 25 #[Zi x1.1, Zi x1.2])⟩, ⟨g23, (e27_4 : a27.eval (.tmp 4) = pt g23 0), (b27_g23 : BlkO o27 24 w27 g23 25 #[Zi b2.1, Zi b2.2])⟩, ⟨g25, (e27_5 : a27.eval (.tmp 5) = pt g25 0), (b27_g25 : BlkO o27 26 w27 g25 25 #[Zi p3.1, Zi p3.2])⟩, -⟩ := hf27 [0, 1, 2] rfl
 have hX27 := es_ hE0 hE27
 obtain ⟨r28, hr28, hs⟩ := obind hs
 obtain ⟨r29, hr29, hs⟩ := obind hs
 refine rq_seq 35 o27 [0, 1, 0, 4, 0, 16, 60, 0, 128, 0, 512, 1920, 4095, 8191, 16383, 32767, 16383, 81919, 16383, 278527, 999423, 16383, 2113535, 16383, 8404991, 31473663, 67108863, 134217727, 268435455] [dv [] [5] 7 (pt g25 0), dv [0] [] 8 (Zi p3.1), dv [] [3] 9 (pt g21 0), dv [2] [] 10 (Zi x1.1), dv [] [4] 11 (pt g23 0), dv [4] [] 12 (Zi b2.1), dv [3, 5] [] 13 (Zi (mn x1.1 b2.1)), dv [] [3] 14 (pt g21 0), dv [7] [] 15 (Zi x1.1), dv [] [4] 16 (pt g23 0), dv [9] [] 17 (Zi b2.1), dv [8, 10] [] 18 (Zi (mx x1.1 b2.1)), dv [1, 6, 11] [] 19 (.bool r28), dv [12] [] 20 (.bool r28), dc [13] [5] r28 21 (pt g25 1), dc [13, 14] [] r28 22 (Zi p3.2), dc [13] [3] r28 23 (pt g21 1), dc [13, 16] [] r28 24 (Zi x1.2), dc [13] [4] r28 25 (pt g23 1), dc [13, 18] [] r28 26 (Zi b2.2), dc [13, 17, 19] [] r28 27 (Zi (mn x1.2 b2.2)), dc [13] [3] r28 28 (pt g21 1), dc [13, 21] [] r28 29 (Zi x1.2), dc [13] [4] r28 30 (pt g23 1), dc [13, 23] [] r28 31 (Zi b2.2), dc [13, 22, 24] [] r28 32 (Zi (mx x1.2 b2.2)), dc [13, 15, 20, 25] [] r28 33 (.bool r29), dv [13, 26] [] 34 (.bool (r28 && r29)), dv [27] [] 6 (.bool (r28 && r29))] z27 d27 ?_ ?_
 ·exact sS (fun s => or_field fo25_0 (s.1.trans e27_5) (by rfl)) <| sG to3 b27_g25 <| sS (fun s => or_field fo25_0 (s.1.trans e27_3) (by rfl)) <| sG to3 b27_g21 <| sS (fun s => or_field fo25_0 (s.1.trans e27_4) (by rfl)) <| sG to3 b27_g23 <| sF (fun f => or_min f.1 f.2.1) <| sS (fun s => or_field fo25_0 (s.1.trans e27_3) (by rfl)) <| sG to3 b27_g21 <| sS (fun s => or_field fo25_0 (s.1.trans e27_4) (by rfl)) <| sG to3 b27_g23 <| sF (fun f => or_max f.1 f.2.1) <| sF (fun f => or_call cf52 (args3 f.1 f.2.1 f.2.2.1) (exact_within_w _ p3.1 (mn x1.1 b2.1) (mx x1.1 b2.1)  r28 hr28) post_val) <| sV <| cT (fun _ s _ _ => or_field fo25_1 (s.1.trans e27_5) (by rfl)) <| cT (fun f _ hE hg => ld1 to3 (f.2.1.1 hg) (be_ hE b27_g25)) <| cT (fun _ s _ _ => or_field fo25_1 (s.1.trans e27_3) (by rfl)) <| cT (fun f _ hE hg => ld1 to3 (f.2.1.1 hg) (be_ hE b27_g21)) <| cT (fun _ s _ _ => or_field fo25_1 (s.1.trans e27_4) (by rfl)) <| cT (fun f _ hE hg => ld1 to3 (f.2.1.1 hg) (be_ hE b27_g23)) <| cT (fun f _ _ hg => or_min (f.2.1.1 hg) (f.2.2.1.1 hg)) <| cT (fun _ s _ _ => or_field fo25_1 (s.1.trans e27_3) (by rfl)) <| cT (fun f _ hE hg => ld1 to3 (f.2.1.1 hg) (be_ hE b27_g21)) <| cT (fun _ s _ _ => or_field fo25_1 (s.1.trans e27_4) (by rfl)) <| cT (fun f _ hE hg => ld1 to3 (f.2.1.1 hg) (be_ hE b27_g23)) <| cT (fun f _ _ hg => or_max (f.2.1.1 hg) (f.2.2.1.1 hg)) <| cT (fun f _ _ hg => or_call cf52 (args3 (f.2.1.1 hg) (f.2.2.1.1 hg) (f.2.2.2.1.1 hg)) (exact_within_w _ p3.2 (mn x1.2 b2.2) (mx x1.2 b2.2)  r29 (gd_t hr29 hg)) post_val) <| sF (fun f => or_and f.1 (fun hx => f.2.1.1 hx) rfl rfl) <| sA <| steps_nil
 intro o30 a30 w30 d30 z30 hk30 hf30 hE30
 have e30_6 := gv (hf30 [28] rfl) rfl
 have hX30 := es_ hX27 hE30
 refine fl_ret ?_
 obtain rfl := osome hs
 exact hret _ _ _ _ (.inl rfl) d30 (results1_ rfl (RVal.tmp_ e30_6)) ⟨o30, rfl, hX30⟩
theorem exact_On_w (w : World) (x1 : Int × Int) (b2 : Int × Int) (p3 : Int × Int) (r : Bool) (hs : exact_On x1 b2 p3 = some r) :
  Calls Try.prog 57 #[P2 x1, P2 b2, P2 p3] w fun e w' => ∃ own' : Own, e = .returned (.bool r) ∧ Evo [] (fun _ => 0) own' w w' := by
 refine fl_enter (n := 25) rfl rfl rfl (Nat.le_of_ble_eq_true rfl) ?_
 intro a0 Q d0 z0 harg hret
 have ha0 := harg 0 _ rfl
 have ha1 := harg 1 _ rfl
 have ha2 := harg 2 _ rfl
 clear harg
 have hE0 : Evo [] (fun _ => 0) (fun _ => 0) w w := Evo.refl _ _ _
 refine rq_seq 25 (fun _ => 0) [0, 0, 0, 0] [⟨[], [0], [], Fct.blk 25 3 (fun g => pt g 0) 25 #[Zi x1.1, Zi x1.2]⟩, ⟨[], [1], [], Fct.blk 27 4 (fun g => pt g 0) 25 #[Zi b2.1, Zi b2.2]⟩, ⟨[], [2], [], Fct.blk 29 5 (fun g => pt g 0) 25 #[Zi p3.1, Zi p3.2]⟩, dv [] [] 6 (.bool false)] z0 d0 ?_ ?_
 ·exact sS (fun s => nw1 (s.1.trans ha0)) <| sS (fun s => nw1 (s.1.trans ha1)) <| sS (fun s => nw1 (s.1.trans ha2)) <| sO (or_assign rfl) <| steps_nil
 intro o30 a30 w30 d30 z30 hk30 hf30 hE30
 obtain ⟨⟨g24, (e30_3 : a30.eval (.tmp 3) = pt g24 0), (b30_g24 : BlkO o30 25 w30 g24 25 #[Zi x1.1, Zi x1.2])⟩, ⟨g26, (e30_4 : a30.eval (.tmp 4) = pt g26 0), (b30_g26 : BlkO o30 27 w30 g26 25 #[Zi b2.1, Zi b2.2])⟩, ⟨g28, (e30_5 : a30.eval (.tmp 5) = pt g28 0), (b30_g28 : BlkO o30 29 w30 g28 25 #[Zi p3.1, Zi p3.2])⟩, -⟩ := hf30 [0, 1, 2] rfl
 have hX30 := es_ hE0 hE30
 obtain ⟨r33, hr33, hs⟩ := obind hs
 obtain ⟨r34, hr34, hs⟩ := obind hs
 obtain ⟨r35, hr35, hs⟩ := obind hs
 refine rq_seq 25 o30 [0, 0, 0, 7, 15, 31, 63, 63, 63, 511, 1023, 2047, 4095, 8191, 8191, 8191, 65535, 131071, 262143] [dv [] [3] 7 (P2 x1), dv [] [4] 8 (P2 b2), dv [] [5] 9 (P2 p3), ⟨[0, 1, 2], [], [], Fct.row 32 [] 10 25 R25 [x1, b2, p3]⟩, dv [3] [] 11 (.bool r33), dv [4] [] 12 (.bool r33), dc [5] [3] r33 13 (P2 x1), dc [5] [4] r33 14 (P2 b2), dc [5] [5] r33 15 (P2 p3), dc [5, 6, 7, 8] [] r33 16 (Zi r34), dc [5, 9] [] r33 17 (.bool (decide (r34 = 0))), dv [5, 10] [] 18 (.bool (r33 && (decide (r34 = 0)))), dv [11] [] 19 (.bool (r33 && (decide (r34 = 0)))), dc [12] [3] (r33 && (decide (r34 = 0))) 20 (P2 x1), dc [12] [4] (r33 && (decide (r34 = 0))) 21 (P2 b2), dc [12] [5] (r33 && (decide (r34 = 0))) 22 (P2 p3), dc [12, 13, 14, 15] [] (r33 && (decide (r34 = 0))) 23 (.bool r35), dv [12, 16] [] 24 (.bool ((r33 && (decide (r34 = 0))) && r35)), dv [17] [] 6 (.bool ((r33 && (decide (r34 = 0))) && r35))] z30 d30 ?_ ?_
 ·refine sL ta25 e30_3 b30_g24 <| sL ta25 e30_4 b30_g26 <| sL ta25 e30_5 b30_g28 <| sF (fun f => or_lit (lab := 32) (e := 25) (cs := #[Zi x1.1, Zi x1.2, Zi b2.1, Zi b2.2, Zi p3.1, Zi p3.2]) (F := E25) (nw3 f.1 f.2.1 f.2.2.1) rfl rfl (show 3 ≤ maxLen by decide)) ?_
  refine sc (fun own a wx hf hsl hE => ?_) ?_
  ·obtain ⟨⟨⟨A31, cA31⟩, f_10, b_A31⟩, -⟩ := hf
   exact px (or_call cf32 (args1 f_10) (exact_Right_w _ [x1, b2, p3] A31 cA31 (RdO.zero (RwO.rd b_A31)) r33 hr33) post_val)
  exact sV <| cTL ta25 e30_3 b30_g24 <| cTL ta25 e30_4 b30_g26 <| cTL ta25 e30_5 b30_g28 <| cT (fun f _ _ hg => or_call cf46 (args3 (f.2.1.1 hg) (f.2.2.1.1 hg) (f.2.2.2.1.1 hg)) (exact_Turn_w _ x1 b2 p3  r34 (gd_t hr34 hg)) post_val) <| cT (fun f _ _ hg => or_eql (f.2.1.1 hg) rfl rfl) <| sF (fun f => or_and f.1 (fun hx => f.2.1.1 hx) rfl rfl) <| sV <| cTL ta25 e30_3 b30_g24 <| cTL ta25 e30_4 b30_g26 <| cTL ta25 e30_5 b30_g28 <| cT (fun f _ _ hg => or_call cf69 (args3 (f.2.1.1 hg) (f.2.2.1.1 hg) (f.2.2.2.1.1 hg)) (exact_between_w _ x1 b2 p3  r35 (gd_t hr35 hg)) post_val) <| sF (fun f => or_and f.1 (fun hx => f.2.1.1 hx) rfl rfl) <| sA <| steps_nil
 intro o36 a36 w36 d36 z36 hk36 hf36 hE36
 have e36_6 := gv (hf36 [18] rfl) rfl
 have hX36 := es_ hX30 hE36
 refine fl_ret ?_
 obtain rfl := osome hs
 exact hret _ _ _ _ (.inl rfl) d36 (results1_ rfl (RVal.tmp_ e36_6)) ⟨o36, rfl, hX36⟩
theorem exact_InTriangle_1_w (w : World) (x1 : Int × Int) (y2 : Int × Int) (f2 : Int × Int) (gf2 : Nat) (tf2 : TypeId) (f3 : Int) (gf3 : Nat) (tf3 : TypeId) (hgf2 : BlkO (fun _ => 0) 0 w gf2 tf2 #[Zi f2.1, Zi f2.2]) (hgf3 : BlkO (fun _ => 0) 0 w gf3 tf3 #[Zi f3]) (r : Bool) (hs : exact_InTriangle_1 x1 y2 f2 f3 = some r) :
  Calls Try.prog 58 #[P2 x1, P2 y2, pt gf2 0, pt gf3 0] w fun e w' => ∃ own' : Own, e = .returned (.bool r) ∧ Evo [] (fun _ => 0) own' w w' := by
 refine fl_enter (n := 14) rfl rfl rfl (Nat.le_of_ble_eq_true rfl) ?_
 intro a0 Q d0 z0 harg hret
 have ha0 := harg 0 _ rfl
 have ha1 := harg 1 _ rfl
 have ha2 := harg 2 _ rfl
 have ha3 := harg 3 _ rfl
 clear harg
 have hE0 : Evo [] (fun _ => 0) (fun _ => 0) w w := Evo.refl _ _ _
 refine rq_seq 14 (fun _ => 0) [0, 0, 0] [⟨[], [0], [], Fct.blk 19 4 (fun g => pt g 0) 25 #[Zi x1.1, Zi x1.2]⟩, ⟨[], [1], [], Fct.blk 21 5 (fun g => pt g 0) 25 #[Zi y2.1, Zi y2.2]⟩, dv [] [] 6 (.bool false)] z0 d0 ?_ ?_
 ·exact sS (fun s => nw1 (s.1.trans ha0)) <| sS (fun s => nw1 (s.1.trans ha1)) <| sO (or_assign rfl) <| steps_nil
 intro o22 a22 w22 d22 z22 hk22 hf22 hE22
 obtain ⟨e22_2, e22_3⟩ := kt2 hk22 ha2 ha3
 obtain ⟨⟨g18, (e22_4 : a22.eval (.tmp 4) = pt g18 0), (b22_g18 : BlkO o22 19 w22 g18 25 #[Zi x1.1, Zi x1.2])⟩, ⟨g20, (e22_5 : a22.eval (.tmp 5) = pt g20 0), (b22_g20 : BlkO o22 21 w22 g20 25 #[Zi y2.1, Zi y2.2])⟩, -⟩ := hf22 [0, 1] rfl
 have hX22 := es_ hE0 hE22
 obtain ⟨r23, hr23, hs⟩ := obind hs
 refine rd_seq g_mixed 14 [] o22 [] [0, 0, 0, 7, 0, 16, 63, 127] [dv [] [4] 7 (P2 x1), dv [] [5] 8 (P2 y2), dv [] [2] 9 (P2 f2), dv [0, 1, 2] [] 10 (Zi r23), dv [] [3] 11 (Zi f3), dv [4] [] 12 (Zi (ng f3)), dv [3, 5] [] 13 (.bool (!decide (r23 = (ng f3)))), dv [6] [] 6 (.bool (!decide (r23 = (ng f3))))] z22 d22 nm_ ?_ ?_
 ·exact sL ta25 e22_4 b22_g18 <| sL ta25 e22_5 b22_g20 <| sL ta25 e22_2 (be_ hX22 hgf2) <| sF (fun f => or_call cf46 (args3 f.1 f.2.1 f.2.2.1) (exact_Turn_w _ x1 y2 f2  r23 hr23) post_val) <| sL1 to3 e22_3 (be_ hX22 hgf3) <| sF (fun f => or_neg f.1 rfl) <| sF (fun f => or_neq f.1 f.2.1 rfl) <| sA <| steps_nil
 intro o24 a24 w24 d24 z24 hk24 hf24 hE24
 have e24_6 := gv (hf24 [7] rfl) rfl
 have hX24 := es_ hX22 hE24
 refine fl_ret ?_
 obtain rfl := osome hs
 exact hret _ _ _ _ (.inl rfl) d24 (results1_ rfl (RVal.tmp_ e24_6)) ⟨o24, rfl, hX24⟩
theorem exact_InTriangle_w (w : World) (x1 : Int × Int) (b2 : Int × Int) (c3 : Int × Int) (p4 : Int × Int) (r : Bool) (hs : exact_InTriangle x1 b2 c3 p4 = some r) :
  Calls Try.prog 36 #[P2 x1, P2 b2, P2 c3, P2 p4] w fun e w' => ∃ own' : Own, e = .returned (.bool r) ∧ Evo [] (fun _ => 0) own' w w' := by
 refine fl_enter (n := 65) rfl rfl rfl (Nat.le_of_ble_eq_true rfl) ?_
 intro a0 Q d0 z0 harg hret
 have ha0 := harg 0 _ rfl
 have ha1 := harg 1 _ rfl
 have ha2 := harg 2 _ rfl
 have ha3 := harg 3 _ rfl
 clear harg
 have hE0 : Evo [] (fun _ => 0) (fun _ => 0) w w := Evo.refl _ _ _
 refine rq_seq 65 (fun _ => 0) [0, 0, 0, 0, 0] [⟨[], [0], [], Fct.blk 47 4 (fun g => pt g 0) 25 #[Zi x1.1, Zi x1.2]⟩, ⟨[], [1], [], Fct.blk 49 5 (fun g => pt g 0) 25 #[Zi b2.1, Zi b2.2]⟩, ⟨[], [2], [], Fct.blk 51 6 (fun g => pt g 0) 25 #[Zi c3.1, Zi c3.2]⟩, ⟨[], [3], [], Fct.blk 53 7 (fun g => pt g 0) 25 #[Zi p4.1, Zi p4.2]⟩, dv [] [] 8 (.bool false)] z0 d0 ?_ ?_
 ·exact sS (fun s => nw1 (s.1.trans ha0)) <| sS (fun s => nw1 (s.1.trans ha1)) <| sS (fun s => nw1 (s.1.trans ha2)) <| sS (fun s => nw1 (s.1.trans ha3)) <| sO (or_assign rfl) <| steps_nil
 intro o54 a54 w54 d54 z54 hk54 hf54 hE54
 obtain ⟨⟨g46, (e54_4 : a54.eval (.tmp 4) = pt g46 0), (b54_g46 : BlkO o54 47 w54 g46 25 #[Zi x1.1, Zi x1.2])⟩, ⟨g48, (e54_5 : a54.eval (.tmp 5) = pt g48 0), (b54_g48 : BlkO o54 49 w54 g48 25 #[Zi b2.1, Zi b2.2])⟩, ⟨g50, (e54_6 : a54.eval (.tmp 6) = pt g50 0), (b54_g50 : BlkO o54 51 w54 g50 25 #[Zi c3.1, Zi c3.2])⟩, ⟨g52, (e54_7 : a54.eval (.tmp 7) = pt g52 0), (b54_g52 : BlkO o54 53 w54 g52 25 #[Zi p4.1, Zi p4.2])⟩, -⟩ := hf54 [0, 1, 2, 3] rfl
 have hX54 := es_ hE0 hE54
 refine fl_seq (fun Q55 hn55 hp55 => ?_)
 obtain ⟨r58, hr58, hs⟩ := obind hs
 refine rq_seq 65 o54 [0, 0, 0, 0, 15, 31, 63] [dv [] [4] 11 (P2 x1), dv [] [5] 12 (P2 b2), dv [] [6] 13 (P2 c3), dv [] [7] 14 (P2 p4), ⟨[0, 1, 2, 3], [], [], Fct.row 57 [] 15 25 R25 [x1, b2, c3, p4]⟩, dv [4] [] 16 (.bool r58), dv [5] [] 17 (.bool (!r58))] z54 d54 ?_ ?_
 ·refine sL ta25 e54_4 b54_g46 <| sL ta25 e54_5 b54_g48 <| sL ta25 e54_6 b54_g50 <| sL ta25 e54_7 b54_g52 <| sF (fun f => or_lit (lab := 57) (e := 25) (cs := #[Zi x1.1, Zi x1.2, Zi b2.1, Zi b2.2, Zi c3.1, Zi c3.2, Zi p4.1, Zi p4.2]) (F := E25) (nw4 f.1 f.2.1 f.2.2.1 f.2.2.2.1) rfl rfl (show 4 ≤ maxLen by decide)) ?_
  refine sc (fun own a wx hf hsl hE => ?_) ?_
  ·obtain ⟨⟨⟨A56, cA56⟩, f_15, b_A56⟩, -⟩ := hf
   exact px (or_call cf32 (args1 f_15) (exact_Right_w _ [x1, b2, c3, p4] A56 cA56 (RdO.zero (RwO.rd b_A56)) r58 hr58) post_val)
  exact sF (fun f => or_not f.1 rfl) <| steps_nil
 intro o59 a59 w59 d59 z59 hk59 hf59 hE59
 obtain ⟨e59_4, e59_5, e59_6, e59_7⟩ := kt4 hk59 e54_4 e54_5 e54_6 e54_7
 have e59_17 := gv (hf59 [6] rfl) rfl
 have hX59 := es_ hX54 hE59
 obtain ⟨b59_g46, b59_g48, b59_g50, b59_g52⟩ := be4 hE59 b54_g46 b54_g48 b54_g50 b54_g52
 refine fl_cond e59_17 hs (fun c60 hs => ?_) (fun c60 hs => ?_)
 ·refine rq_seq 65 o59 (bz 1) [dv [] [] 8 (.bool false)] z59 d59 ?_ ?_
  ·exact sO (or_assign rfl) <| steps_nil
  intro o61 a61 w61 d61 z61 hk61 hf61 hE61
  have e61_8 := gv (hf61 [0] rfl) rfl
  have hX61 := es_ hX59 hE61
  refine fl_ret ?_
  refine hp55 _ _ _ rfl ?_
  obtain rfl := osome hs
  exact hret _ _ _ _ (.inl rfl) d61 (results1_ rfl (RVal.tmp_ e61_8)) ⟨o61, rfl, hX61⟩
 refine fl_skip ?_
 refine hn55 _ _ ?_
 refine fl_seq (fun Q62 hn62 hp62 => ?_)
 obtain ⟨r63, hr63, hs⟩ := obind hs
 refine rq_seq 65 o59 [0, 0, 0, 7, 15] [dv [] [4] 18 (P2 x1), dv [] [5] 19 (P2 b2), dv [] [6] 20 (P2 c3), dv [0, 1, 2] [] 21 (Zi r63), dv [3] [] 22 (.bool (decide (r63 = 0)))] z59 d59 ?_ ?_
 ·exact sL ta25 e59_4 b59_g46 <| sL ta25 e59_5 b59_g48 <| sL ta25 e59_6 b59_g50 <| sF (fun f => or_call cf46 (args3 f.1 f.2.1 f.2.2.1) (exact_Turn_w _ x1 b2 c3  r63 hr63) post_val) <| sF (fun f => or_eql f.1 rfl rfl) <| steps_nil
 intro o64 a64 w64 d64 z64 hk64 hf64 hE64
 obtain ⟨e64_4, e64_5, e64_6, e64_7⟩ := kt4 hk64 e59_4 e59_5 e59_6 e59_7
 have e64_22 := gv (hf64 [4] rfl) rfl
 have hX64 := es_ hX59 hE64
 obtain ⟨b64_g46, b64_g48, b64_g50, b64_g52⟩ := be4 hE64 b59_g46 b59_g48 b59_g50 b59_g52
 refine fl_cond e64_22 hs (fun c65 hs => ?_) (fun c65 hs => ?_)
 ·obtain ⟨r66, hr66, hs⟩ := obind hs
  obtain ⟨r67, hr67, hs⟩ := obind hs
  obtain ⟨r68, hr68, hs⟩ := obind hs
  refine rq_seq 65 o64 [0, 0, 0, 7, 15, 31, 31, 31, 255, 511, 1023, 2047, 2047, 2047, 16383, 32767, 65535] [dv [] [4] 23 (P2 x1), dv [] [5] 24 (P2 b2), dv [] [7] 25 (P2 p4), dv [0, 1, 2] [] 26 (.bool r66), dv [3] [] 27 (.bool r66), dc [4] [5] (!r66) 28 (P2 b2), dc [4] [6] (!r66) 29 (P2 c3), dc [4] [7] (!r66) 30 (P2 p4), dc [4, 5, 6, 7] [] (!r66) 31 (.bool r67), dv [4, 8] [] 32 (.bool (r66 || r67)), dv [9] [] 33 (.bool (r66 || r67)), dc [10] [6] (!(r66 || r67)) 34 (P2 c3), dc [10] [4] (!(r66 || r67)) 35 (P2 x1), dc [10] [7] (!(r66 || r67)) 36 (P2 p4), dc [10, 11, 12, 13] [] (!(r66 || r67)) 37 (.bool r68), dv [10, 14] [] 38 (.bool ((r66 || r67) || r68)), dv [15] [] 8 (.bool ((r66 || r67) || r68))] z64 d64 ?_ ?_
  ·exact sL ta25 e64_4 b64_g46 <| sL ta25 e64_5 b64_g48 <| sL ta25 e64_7 b64_g52 <| sF (fun f => or_call cf57 (args3 f.1 f.2.1 f.2.2.1) (exact_On_w _ x1 b2 p4  r66 hr66) post_val) <| sV <| cFL ta25 e64_5 b64_g48 <| cFL ta25 e64_6 b64_g50 <| cFL ta25 e64_7 b64_g52 <| cF (fun f _ _ hg => or_call cf57 (args3 (f.2.1.1 hg) (f.2.2.1.1 hg) (f.2.2.2.1.1 hg)) (exact_On_w _ b2 c3 p4  r67 (gd_t hr67 hg)) post_val) <| sF (fun f => or_or f.1 rfl (fun hx => f.2.1.1 hx) rfl) <| sV <| cFL ta25 e64_6 b64_g50 <| cFL ta25 e64_4 b64_g46 <| cFL ta25 e64_7 b64_g52 <| cF (fun f _ _ hg => or_call cf57 (args3 (f.2.1.1 hg) (f.2.2.1.1 hg) (f.2.2.2.1.1 hg)) (exact_On_w _ c3 x1 p4  r68 (gd_t hr68 hg)) post_val) <| sF (fun f => or_or f.1 rfl (fun hx => f.2.1.1 hx) rfl) <| sA <| steps_nil
  intro o69 a69 w69 d69 z69 hk69 hf69 hE69
  have e69_8 := gv (hf69 [16] rfl) rfl
  have hX69 := es_ hX64 hE69
  refine fl_ret ?_
  refine hp62 _ _ _ rfl ?_
  obtain rfl := osome hs
  exact hret _ _ _ _ (.inl rfl) d69 (results1_ rfl (RVal.tmp_ e69_8)) ⟨o69, rfl, hX69⟩
 refine fl_skip ?_
 refine hn62 _ _ ?_
 obtain ⟨r70, hr70, hs⟩ := obind hs
 refine rp_seq 65 o64 [72] [0, 0, 0, 7, 0, 31] [dv [] [4] 39 (P2 x1), dv [] [5] 40 (P2 b2), dv [] [6] 41 (P2 c3), dv [0, 1, 2] [] 42 (Zi r70), ⟨[], [], [], Fct.blk 72 9 (fun g => pt g 0) 3 #[Zi 0]⟩, ⟨[4, 3], [], [72], Fct.blk 73 9 (fun g => pt g 0) 3 #[Zi r70]⟩] z64 d64 ?_ ?_
 ·refine sL ta25 e64_4 b64_g46 <| sL ta25 e64_5 b64_g48 <| sL ta25 e64_6 b64_g50 <| sF (fun f => or_call cf46 (args3 f.1 f.2.1 f.2.2.1) (exact_Turn_w _ x1 b2 c3  r70 hr70) post_val) <| sO (nw0) ?_
  refine sc (fun own a wx hf hsl hE => ?_) ?_
  ·obtain ⟨⟨g71, f_9, b_g71⟩, f_42, -⟩ := hf
   exact px (or_store1 (lab := 72) (lab2 := 73) ts3 f_9 f_42 b_g71 (by simp) rfl (mem_of rfl) (by decide) rfl (fun own' a' w' ha hb => ⟨_, (ha 9).trans f_9, hb⟩))
  exact steps_nil
 intro o74 a74 w74 d74 z74 hk74 hf74 hE74
 obtain ⟨e74_4, e74_5, e74_6, e74_7⟩ := kt4 hk74 e64_4 e64_5 e64_6 e64_7
 obtain ⟨⟨g71, (e74_9 : a74.eval (.tmp 9) = pt g71 0), (b74_g71 : BlkO o74 73 w74 g71 3 #[Zi r70])⟩, -⟩ := hf74 [5] rfl
 have hX74 := es_ hX64 hE74
 obtain ⟨b74_g46, b74_g48, b74_g50, b74_g52⟩ := be4 hE74 b64_g46 b64_g48 b64_g50 b64_g52
 refine rq_seq 65 o74 (bz 2) [dv [] [7, 9] 43 (.func (.func 58) #[] #[pt g52 0, pt g71 0]), dv [0] [] 10 (.func (.func 58) #[] #[pt g52 0, pt g71 0])] z74 d74 ?_ ?_
 ·exact sS (fun s => ok2 (s.1.trans e74_7) (s.2.1.trans e74_9)) <| sA <| steps_nil
 intro o75 a75 w75 d75 z75 hk75 hf75 hE75
 obtain ⟨e75_4, e75_5, e75_6, e75_7⟩ := kt4 hk75 e74_4 e74_5 e74_6 e74_7
 have e75_10 := gv (hf75 [1] rfl) rfl
 have hX75 := es_ hX74 hE75
 obtain ⟨b75_g46, b75_g48, b75_g50, b75_g52, b75_g71⟩ := be5 hE75 b74_g46 b74_g48 b74_g50 b74_g52 b74_g71
 obtain ⟨r76, hr76, hs⟩ := obind hs
 obtain ⟨r77, hr77, hs⟩ := obind hs
 obtain ⟨r78, hr78, hs⟩ := obind hs
 obtain ⟨x79, hx79, hs⟩ := obind hs
 refine rq_seq 65 o75 [0, 0, 3, 7, 15, 15, 15, 127, 255, 511, 511, 511, 4095, 8191, 16383, 32767, 32767, 32767, 262143, 524287, 1048575, 2097151] [dv [] [7] 44 (P2 p4), dv [] [4] 45 (P2 x1), dv [0, 1] [] 46 (.bool (decide (p4 = x1))), dv [2] [] 47 (.bool (decide (p4 = x1))), dc [3] [10] (!(decide (p4 = x1))) 48 (.func (.func 58) #[] #[pt g52 0, pt g71 0]), dc [3] [4] (!(decide (p4 = x1))) 49 (P2 x1), dc [3] [5] (!(decide (p4 = x1))) 50 (P2 b2), dc [3, 4, 5, 6] [] (!(decide (p4 = x1))) 51 (.bool r76), dc [3, 7] [] (!(decide (p4 = x1))) 52 (.bool r76), dc [8] [10] ((!(decide (p4 = x1))) && r76) 53 (.func (.func 58) #[] #[pt g52 0, pt g71 0]), dc [8] [5] ((!(decide (p4 = x1))) && r76) 54 (P2 b2), dc [8] [6] ((!(decide (p4 = x1))) && r76) 55 (P2 c3), dc [8, 9, 10, 11] [] ((!(decide (p4 = x1))) && r76) 56 (.bool r77), dc [3, 8, 12] [] (!(decide (p4 = x1))) 57 (.bool (r76 && r77)), dc [3, 13] [] (!(decide (p4 = x1))) 58 (.bool (r76 && r77)), dc [14] [10] ((!(decide (p4 = x1))) && (r76 && r77)) 59 (.func (.func 58) #[] #[pt g52 0, pt g71 0]), dc [14] [6] ((!(decide (p4 = x1))) && (r76 && r77)) 60 (P2 c3), dc [14] [4] ((!(decide (p4 = x1))) && (r76 && r77)) 61 (P2 x1), dc [14, 15, 16, 17] [] ((!(decide (p4 = x1))) && (r76 && r77)) 62 (.bool r78), dc [3, 14, 18] [] (!(decide (p4 = x1))) 63 (.bool ((r76 && r77) && r78)), dv [3, 19] [] 64 (.bool x79), dv [20] [] 8 (.bool x79)] z75 d75 ?_ ?_
 ·exact sL ta25 e75_7 b75_g52 <| sL ta25 e75_4 b75_g46 <| sF (fun f => or_eqlA sg25 f.1 f.2.1 (se25 p4.1 p4.2 x1.1 x1.2 _) rfl) <| sV <| cF (fun _ s _ _ => or_move (s.1.trans e75_10)) <| cFL ta25 e75_4 b75_g46 <| cFL ta25 e75_5 b75_g48 <| cF (fun f _ hE hg => or_callf cf58 (f.2.1.1 hg) (args2 (f.2.2.1.1 hg) (f.2.2.2.1.1 hg)) rfl (exact_InTriangle_1_w _ x1 b2 p4 g52 25 r70 g71 3 (BlkO.zero_ (be_ hE b75_g52)) (BlkO.zero_ (be_ hE b75_g71)) r76 (gd_t hr76 hg)) post_val) <| cF (fun f _ _ hg => or_move (f.2.1.1 hg)) <| cTc (fun _ s _ _ => or_move (s.1.trans e75_10)) <| cTc (fun _ s hE _ => ldS ta25 (s.1.trans e75_5) (be_ hE b75_g48)) <| cTc (fun _ s hE _ => ldS ta25 (s.1.trans e75_6) (be_ hE b75_g50)) <| cTc (fun f _ hE hg => or_callf cf58 (f.2.1.1 hg) (args2 (f.2.2.1.1 hg) (f.2.2.2.1.1 hg)) rfl (exact_InTriangle_1_w _ b2 c3 p4 g52 25 r70 g71 3 (BlkO.zero_ (be_ hE b75_g52)) (BlkO.zero_ (be_ hE b75_g71)) r77 (gd_t hr77 hg)) post_val) <| cF (fun f _ _ hg => or_and (f.2.1.1 hg) (fun hx => f.2.2.1.1 (gI hg hx)) rfl rfl) <| cF (fun f _ _ hg => or_move (f.2.1.1 hg)) <| cTc (fun _ s _ _ => or_move (s.1.trans e75_10)) <| cTc (fun _ s hE _ => ldS ta25 (s.1.trans e75_6) (be_ hE b75_g50)) <| cTc (fun _ s hE _ => ldS ta25 (s.1.trans e75_4) (be_ hE b75_g46)) <| cTc (fun f _ hE hg => or_callf cf58 (f.2.1.1 hg) (args2 (f.2.2.1.1 hg) (f.2.2.2.1.1 hg)) rfl (exact_InTriangle_1_w _ c3 x1 p4 g52 25 r70 g71 3 (BlkO.zero_ (be_ hE b75_g52)) (BlkO.zero_ (be_ hE b75_g71)) r78 (gd_t hr78 hg)) post_val) <| cF (fun f _ _ hg => or_and (f.2.1.1 hg) (fun hx => f.2.2.1.1 (gI hg hx)) rfl rfl) <| sF (fun f => or_or f.1 rfl (fun hx => f.2.1.1 hx) (osome hx79).symm) <| sA <| steps_nil
 intro o80 a80 w80 d80 z80 hk80 hf80 hE80
 have e80_8 := gv (hf80 [21] rfl) rfl
 have hX80 := es_ hX75 hE80
 refine fl_ret ?_
 obtain rfl := (osome hs).symm
 exact hret _ _ _ _ (.inl rfl) d80 (results1_ rfl (RVal.tmp_ e80_8)) ⟨o80, rfl, hX80⟩
theorem guard_Guard_Why_w (w : World) (g1 : (((List ((Int × Int) × (Int × Int))) × (List ((Int × Int) × (List Int))) × (List Int))) × (List Int) × (List (Int × Int)) × (List ((Int × Int) × Bool)) × (List (((Int × Int) × (Int × Int)) × Bool))) (gg1 : Nat) (tg1 : TypeId) (gg1_0 : Nat) (tg1_0 : TypeId) (Ag1_0_0 : Option Addr) (cg1_0_0 : Nat) (mg1_0_1 : Nat) (Ag1_0_2 : Option Addr) (cg1_0_2 : Nat) (Ag1_1 : Option Addr) (cg1_1 : Nat) (Ag1_2 : Option Addr) (cg1_2 : Nat) (mg1_3 : Nat) (mg1_4 : Nat) (x2 : Int × Int) (b3 : Int × Int) (c4 : Int × Int) (hgg1 : BlkO (fun _ => 0) 0 w gg1 tg1 #[pt gg1_0 0, sl Ag1_1 g1.2.1 cg1_1, sl Ag1_2 g1.2.2.1 cg1_2, .map (some mg1_3), .map (some mg1_4)]) (hAg1_1 : RdO (fun _ => 0) [0] w R3 Ag1_1 cg1_1 g1.2.1) (hAg1_2 : RdO (fun _ => 0) [0] w R25 Ag1_2 cg1_2 g1.2.2.1) (hmg1_3 : MpO (fun _ => 0) 0 w mg1_3 vv25 vv4 g1.2.2.2.1) (hmg1_4 : MpO (fun _ => 0) 0 w mg1_4 vv81 vv4 g1.2.2.2.2) (hgg1_0 : BlkO (fun _ => 0) 0 w gg1_0 tg1_0 #[sl Ag1_0_0 g1.1.1 cg1_0_0, .map (some mg1_0_1), sl Ag1_0_2 g1.1.2.2 cg1_0_2]) (hAg1_0_0 : RdO (fun _ => 0) [0] w R80 Ag1_0_0 cg1_0_0 g1.1.1) (hmg1_0_1 : MpN (fun _ => 0) 0 0 [0] w mg1_0_1 vv111 3 R3 g1.1.2.1) (hAg1_0_2 : RdO (fun _ => 0) [0] w R3 Ag1_0_2 cg1_0_2 g1.1.2.2) (r : Int) (hs : guard_Guard_Why g1 x2 b3 c4 = some r) :
  Calls Try.prog 10 #[pt gg1 0, P2 x2, P2 b3, P2 c4] w fun e w' => ∃ own' : Own, e = .returned (Zi r) ∧ Evo [] (fun _ => 0) own' w w' := by
 refine fl_enter (n := 155) rfl rfl rfl (Nat.le_of_ble_eq_true rfl) ?_
 intro a0 Q d0 z0 harg hret
 have ha0 := harg 0 _ rfl
 have ha1 := harg 1 _ rfl
 have ha2 := harg 2 _ rfl
 have ha3 := harg 3 _ rfl
 clear harg
 have hE0 : Evo [] (fun _ => 0) (fun _ => 0) w w := Evo.refl _ _ _
 refine rq_seq 155 (fun _ => 0) [0, 0, 0, 0] [⟨[], [1], [], Fct.blk 117 5 (fun g => pt g 0) 25 #[Zi x2.1, Zi x2.2]⟩, ⟨[], [2], [], Fct.blk 119 6 (fun g => pt g 0) 25 #[Zi b3.1, Zi b3.2]⟩, ⟨[], [3], [], Fct.blk 121 7 (fun g => pt g 0) 25 #[Zi c4.1, Zi c4.2]⟩, dv [] [] 8 (Zi 0)] z0 d0 ?_ ?_
 ·exact sS (fun s => nw1 (s.1.trans ha1)) <| sS (fun s => nw1 (s.1.trans ha2)) <| sS (fun s => nw1 (s.1.trans ha3)) <| sO (or_assign rfl) <| steps_nil
 intro o122 a122 w122 d122 z122 hk122 hf122 hE122
 have e122_0 := kt hk122 ha0
 obtain ⟨⟨g116, (e122_5 : a122.eval (.tmp 5) = pt g116 0), (b122_g116 : BlkO o122 117 w122 g116 25 #[Zi x2.1, Zi x2.2])⟩, ⟨g118, (e122_6 : a122.eval (.tmp 6) = pt g118 0), (b122_g118 : BlkO o122 119 w122 g118 25 #[Zi b3.1, Zi b3.2])⟩, ⟨g120, (e122_7 : a122.eval (.tmp 7) = pt g120 0), (b122_g120 : BlkO o122 121 w122 g120 25 #[Zi c4.1, Zi c4.2])⟩, -⟩ := hf122 [0, 1, 2] rfl
 have hX122 := es_ hE0 hE122
 refine fl_seq (fun Q123 hn123 hp123 => ?_)
 refine fl_block (fun Q124 hn124 hx124 hp124 => ?_)
 obtain ⟨x125, hx125, hs⟩ := obind hs
 obtain ⟨r128, hr128, hs⟩ := obind hs
 obtain ⟨x129, hx129, hs⟩ := obind hs
 obtain ⟨x130, hx130, hs⟩ := obind hs
 obtain ⟨x131, hx131, hs⟩ := obind hs
 obtain ⟨x132, hx132, hs⟩ := obind hs
 refine rd_seq g_mixed 155 [] o122 [] [0, 1, 3, 7, 7, 31, 63, 127, 255, 255, 1023, 2047, 4095, 8191, 8191, 32767, 65535, 131071, 262143, 262143, 262143, 2097151, 4194303, 8388607, 16777215, 33554431, 67108863, 134217727, 268435455, 536870911, 67108863, 2147483647, 4294967295, 8589934591, 17179869183, 34359738367, 68719476735, 137438953471, 274877906943, 34359738367, 1099511627775, 2199023255551, 4398046511103, 8796093022207, 17592186044415, 35184372088831, 70368744177663, 140737488355327, 17592186044415, 562949953421311, 1125899906842623, 2251799813685247, 4503599627370495] [dv [] [0] 15 (pt gg1 0), dv [0] [] 16 (.bool false), dv [1] [] 17 (.bool false), dc [2] [5] (!false) 18 (P2 x2), dc [2] [7] (!false) 19 (P2 c4), dc [2, 3, 4] [] (!false) 20 (.bool (decide (x2 = c4))), dv [2, 5] [] 21 (.bool (false || (decide (x2 = c4)))), dv [6] [] 22 (.bool (false || (decide (x2 = c4)))), dc [7] [6] (!(false || (decide (x2 = c4)))) 23 (P2 b3), dc [7] [5] (!(false || (decide (x2 = c4)))) 24 (P2 x2), dc [7, 8, 9] [] (!(false || (decide (x2 = c4)))) 25 (.bool (decide (b3 = x2))), dv [7, 10] [] 26 (.bool x125), dv [11] [] 27 (.bool x125), dc [12] [6] (!x125) 28 (P2 b3), dc [12] [7] (!x125) 29 (P2 c4), dc [12, 13, 14] [] (!x125) 30 (.bool (decide (b3 = c4))), dv [12, 15] [] 31 (.bool (x125 || (decide (b3 = c4)))), dv [16] [] 32 (.bool (x125 || (decide (b3 = c4)))), dc [17] [5] (!(x125 || (decide (b3 = c4)))) 33 (P2 x2), dc [17] [6] (!(x125 || (decide (b3 = c4)))) 34 (P2 b3), dc [17] [7] (!(x125 || (decide (b3 = c4)))) 35 (P2 c4), ⟨[17, 18, 19, 20], [], [], Fct.cond (!(x125 || (decide (b3 = c4)))) (some 36) (Fct.row 127 [] 36 25 R25 [x2, b3, c4])⟩, dc [17, 21] [] (!(x125 || (decide (b3 = c4)))) 37 (.bool r128), dc [17, 22] [] (!(x125 || (decide (b3 = c4)))) 38 (.bool (!r128)), dv [17, 23] [] 39 (.bool x129), dv [24] [] 40 (.bool x129), dc [25] [0] (!x129) 41 (pt gg1 0), dc [25, 26] [] (!x129) 42 (pt gg1 0), dc [25, 27] [] (!x129) 43 (pt gg1 3), dc [25, 28] [] (!x129) 44 (.map (some mg1_3)), dc [25] [5] (!x129) 45 (P2 x2), dc [25, 29, 30] [] (!x129) 46 (.bool ((lkM g1.2.2.2.1 x2).getD false)), dc [25, 31] [] (!x129) 47 (.bool (!((lkM g1.2.2.2.1 x2).getD false))), dv [25, 32] [] 48 (.bool x130), dv [33] [] 49 (.bool x130), dc [34] [0] (!x130) 50 (pt gg1 0), dc [34, 35] [] (!x130) 51 (pt gg1 0), dc [34, 36] [] (!x130) 52 (pt gg1 3), dc [34, 37] [] (!x130) 53 (.map (some mg1_3)), dc [34] [6] (!x130) 54 (P2 b3), dc [34, 38, 39] [] (!x130) 55 (.bool ((lkM g1.2.2.2.1 b3).getD false)), dc [34, 40] [] (!x130) 56 (.bool (!((lkM g1.2.2.2.1 b3).getD false))), dv [34, 41] [] 57 (.bool x131), dv [42] [] 58 (.bool x131), dc [43] [0] (!x131) 59 (pt gg1 0), dc [43, 44] [] (!x131) 60 (pt gg1 0), dc [43, 45] [] (!x131) 61 (pt gg1 3), dc [43, 46] [] (!x131) 62 (.map (some mg1_3)), dc [43] [7] (!x131) 63 (P2 c4), dc [43, 47, 48] [] (!x131) 64 (.bool ((lkM g1.2.2.2.1 c4).getD false)), dc [43, 49] [] (!x131) 65 (.bool (!((lkM g1.2.2.2.1 c4).getD false))), dv [43, 50] [] 66 (.bool x132), dv [51] [] 14 (.bool x132)] z122 d122 nm_ ?_ ?_
 ·refine sM e122_0 <| sF (fun f => ok1 f.1) <| sV <| cFL ta25 e122_5 b122_g116 <| cFL ta25 e122_7 b122_g120 <| cF (fun f _ _ hg => or_eqlA sg25 (f.2.1.1 hg) (f.2.2.1.1 hg) (se25 x2.1 x2.2 c4.1 c4.2 _) rfl) <| sF (fun f => or_or f.1 rfl (fun hx => f.2.1.1 hx) rfl) <| sV <| cFL ta25 e122_6 b122_g118 <| cFL ta25 e122_5 b122_g116 <| cF (fun f _ _ hg => or_eqlA sg25 (f.2.1.1 hg) (f.2.2.1.1 hg) (se25 b3.1 b3.2 x2.1 x2.2 _) rfl) <| sF (fun f => or_or f.1 rfl (fun hx => f.2.1.1 hx) (osome hx125).symm) <| sV <| cFL ta25 e122_6 b122_g118 <| cFL ta25 e122_7 b122_g120 <| cF (fun f _ _ hg => or_eqlA sg25 (f.2.1.1 hg) (f.2.2.1.1 hg) (se25 b3.1 b3.2 c4.1 c4.2 _) rfl) <| sF (fun f => or_or f.1 rfl (fun hx => f.2.1.1 hx) rfl) <| sV <| cFL ta25 e122_5 b122_g116 <| cFL ta25 e122_6 b122_g118 <| cFL ta25 e122_7 b122_g120 <| cF (fun f _ _ hg => or_lit (lab := 127) (e := 25) (cs := #[Zi x2.1, Zi x2.2, Zi b3.1, Zi b3.2, Zi c4.1, Zi c4.2]) (F := E25) (nw3 (f.2.1.1 hg) (f.2.2.1.1 hg) (f.2.2.2.1.1 hg)) rfl rfl (show 3 ≤ maxLen by decide)) ?_
  refine sc (fun own a wx hf hsl hE => ?_) ?_
  ·obtain ⟨f_32, c_36, -⟩ := hf
   refine sg_f rfl rfl rfl f_32 (fun hg => ?_)
   obtain ⟨⟨A126, cA126⟩, f_36, b_A126⟩ := c_36.1 hg
   exact or_call cf32 (args1 f_36) (exact_Right_w _ [x2, b3, c4] A126 cA126 (RdO.zero (RwO.rd b_A126)) r128 (gd_t hr128 hg)) post_val
  exact cF (fun f _ _ hg => or_not (f.2.1.1 hg) rfl) <| sF (fun f => or_or f.1 rfl (fun hx => f.2.1.1 hx) (osome hx129).symm) <| sV <| cF (fun _ s _ _ => or_move (s.1.trans e122_0)) <| cF (fun f _ _ hg => ok1 (f.2.1.1 hg)) <| cF (fun f _ _ hg => or_field fo77_3 (f.2.1.1 hg) (by rfl)) <| cF (fun f _ hE hg => ld1 to74 (f.2.1.1 hg) (be_ hE (be_ hX122 hgg1))) <| cFL ta25 e122_5 b122_g116 <| cF (fun f _ hE hg => or_lookupE (kf := vv25) (vf := vv4) (k := x2) (dv := false) ko25 tm74 tzv74 (f.2.1.1 hg) (f.2.2.1.1 hg) (MpO.evo (by decide) hE (MpO.evo (by decide) hX122 hmg1_3)) rfl) <| cF (fun f _ _ hg => or_not (f.2.1.1 hg) rfl) <| sF (fun f => or_or f.1 rfl (fun hx => f.2.1.1 hx) (osome hx130).symm) <| sV <| cF (fun _ s _ _ => or_move (s.1.trans e122_0)) <| cF (fun f _ _ hg => ok1 (f.2.1.1 hg)) <| cF (fun f _ _ hg => or_field fo77_3 (f.2.1.1 hg) (by rfl)) <| cF (fun f _ hE hg => ld1 to74 (f.2.1.1 hg) (be_ hE (be_ hX122 hgg1))) <| cFL ta25 e122_6 b122_g118 <| cF (fun f _ hE hg => or_lookupE (kf := vv25) (vf := vv4) (k := b3) (dv := false) ko25 tm74 tzv74 (f.2.1.1 hg) (f.2.2.1.1 hg) (MpO.evo (by decide) hE (MpO.evo (by decide) hX122 hmg1_3)) rfl) <| cF (fun f _ _ hg => or_not (f.2.1.1 hg) rfl) <| sF (fun f => or_or f.1 rfl (fun hx => f.2.1.1 hx) (osome hx131).symm) <| sV <| cF (fun _ s _ _ => or_move (s.1.trans e122_0)) <| cF (fun f _ _ hg => ok1 (f.2.1.1 hg)) <| cF (fun f _ _ hg => or_field fo77_3 (f.2.1.1 hg) (by rfl)) <| cF (fun f _ hE hg => ld1 to74 (f.2.1.1 hg) (be_ hE (be_ hX122 hgg1))) <| cFL ta25 e122_7 b122_g120 <| cF (fun f _ hE hg => or_lookupE (kf := vv25) (vf := vv4) (k := c4) (dv := false) ko25 tm74 tzv74 (f.2.1.1 hg) (f.2.2.1.1 hg) (MpO.evo (by decide) hE (MpO.evo (by decide) hX122 hmg1_3)) rfl) <| cF (fun f _ _ hg => or_not (f.2.1.1 hg) rfl) <| sF (fun f => or_or f.1 rfl (fun hx => f.2.1.1 hx) (osome hx132).symm) <| sA <| steps_nil
 intro o133 a133 w133 d133 z133 hk133 hf133 hE133
 obtain ⟨e133_0, e133_5, e133_6, e133_7⟩ := kt4 hk133 e122_0 e122_5 e122_6 e122_7
 have e133_14 := gv (hf133 [52] rfl) rfl
 have hX133 := es_ hX122 hE133
 obtain ⟨b133_g116, b133_g118, b133_g120⟩ := be3 hE133 b122_g116 b122_g118 b122_g120
 refine fl_cond e133_14 hs (fun c134 hs => ?_) (fun c134 hs => ?_)
 ·refine rq_seq 155 o133 (bz 1) [dv [] [] 8 (Zi 1)] z133 d133 ?_ ?_
  ·exact sO (or_assign rfl) <| steps_nil
  intro o135 a135 w135 d135 z135 hk135 hf135 hE135
  have e135_8 := gv (hf135 [0] rfl) rfl
  have hX135 := es_ hX133 hE135
  refine fl_ret ?_
  refine hp124 _ _ _ rfl ?_
  refine hp123 _ _ _ rfl ?_
  obtain rfl := osome hs
  exact hret _ _ _ _ (.inl rfl) d135 (results1_ rfl (RVal.tmp_ e135_8)) ⟨o135, rfl, hX135⟩
 obtain ⟨r136, hr136, hs⟩ := obind hs
 obtain ⟨r137, hr137, hs⟩ := obind hs
 refine rd_seq g_mixed 155 [] o133 [] [0, 1, 3, 7, 0, 16, 0, 64, 255, 511, 1023, 2047, 4095, 8191, 16383, 2047, 34815, 2047, 133119, 524287, 1048575, 2097151, 4194303] [dv [] [0] 68 (pt gg1 0), dv [0] [] 69 (pt gg1 0), dv [1] [] 70 (pt gg1 1), dv [2] [] 71 (sl Ag1_1 g1.2.1 cg1_1), dv [] [5] 72 (pt g116 0), dv [4] [] 73 (Zi x2.1), dv [] [7] 74 (pt g120 0), dv [6] [] 75 (Zi c4.1), dv [3, 5, 7] [] 76 (.bool r136), dv [8] [] 77 (.bool (!r136)), dv [9] [] 78 (.bool (!r136)), dc [10] [0] (!(!r136)) 79 (pt gg1 0), dc [10, 11] [] (!(!r136)) 80 (pt gg1 0), dc [10, 12] [] (!(!r136)) 81 (pt gg1 1), dc [10, 13] [] (!(!r136)) 82 (sl Ag1_1 g1.2.1 cg1_1), dc [10] [5] (!(!r136)) 83 (pt g116 1), dc [10, 15] [] (!(!r136)) 84 (Zi x2.2), dc [10] [7] (!(!r136)) 85 (pt g120 1), dc [10, 17] [] (!(!r136)) 86 (Zi c4.2), dc [10, 14, 16, 18] [] (!(!r136)) 87 (.bool r137), dc [10, 19] [] (!(!r136)) 88 (.bool (!r137)), dv [10, 20] [] 89 (.bool ((!r136) || (!r137))), dv [21] [] 67 (.bool ((!r136) || (!r137)))] z133 d133 nm_ ?_ ?_
 ·exact sM e133_0 <| sF (fun f => ok1 f.1) <| sF (fun f => or_field fo77_1 f.1 (by rfl)) <| sG to22 (be_ hX133 hgg1) <| sS (fun s => or_field fo25_0 (s.1.trans e133_5) (by rfl)) <| sG to3 b133_g116 <| sS (fun s => or_field fo25_0 (s.1.trans e133_7) (by rfl)) <| sG to3 b133_g120 <| sFE (fun f hE => or_call cf33 (args3 f.1 f.2.1 f.2.2.1) (order_Common_w _ g1.2.1 Ag1_1 cg1_1 x2.1 c4.1 (RdO.zero (RdO.evo rfl hE (RdO.evo rfl hX133 hAg1_1))) r136 hr136) post_val) <| sF (fun f => or_not f.1 rfl) <| sV <| cF (fun _ s _ _ => or_move (s.1.trans e133_0)) <| cF (fun f _ _ hg => ok1 (f.2.1.1 hg)) <| cF (fun f _ _ hg => or_field fo77_1 (f.2.1.1 hg) (by rfl)) <| cF (fun f _ hE hg => ld1 to22 (f.2.1.1 hg) (be_ hE (be_ hX133 hgg1))) <| cF (fun _ s _ _ => or_field fo25_1 (s.1.trans e133_5) (by rfl)) <| cF (fun f _ hE hg => ld1 to3 (f.2.1.1 hg) (be_ hE b133_g116)) <| cF (fun _ s _ _ => or_field fo25_1 (s.1.trans e133_7) (by rfl)) <| cF (fun f _ hE hg => ld1 to3 (f.2.1.1 hg) (be_ hE b133_g120)) <| cF (fun f _ hE hg => or_call cf33 (args3 (f.2.1.1 hg) (f.2.2.1.1 hg) (f.2.2.2.1.1 hg)) (order_Common_w _ g1.2.1 Ag1_1 cg1_1 x2.2 c4.2 (RdO.zero (RdO.evo rfl hE (RdO.evo rfl hX133 hAg1_1))) r137 (gd_t hr137 hg)) post_val) <| cF (fun f _ _ hg => or_not (f.2.1.1 hg) rfl) <| sF (fun f => or_or f.1 rfl (fun hx => f.2.1.1 hx) rfl) <| sA <| steps_nil
 intro o138 a138 w138 d138 z138 hk138 hf138 hE138
 obtain ⟨e138_0, e138_5, e138_6, e138_7⟩ := kt4 hk138 e133_0 e133_5 e133_6 e133_7
 have e138_67 := gv (hf138 [22] rfl) rfl
 have hX138 := es_ hX133 hE138
 obtain ⟨b138_g116, b138_g118, b138_g120⟩ := be3 hE138 b133_g116 b133_g118 b133_g120
 refine fl_cond e138_67 hs (fun c139 hs => ?_) (fun c139 hs => ?_)
 ·refine rq_seq 155 o138 (bz 1) [dv [] [] 8 (Zi 2)] z138 d138 ?_ ?_
  ·exact sO (or_assign rfl) <| steps_nil
  intro o140 a140 w140 d140 z140 hk140 hf140 hE140
  have e140_8 := gv (hf140 [0] rfl) rfl
  have hX140 := es_ hX138 hE140
  refine fl_ret ?_
  refine hp124 _ _ _ rfl ?_
  refine hp123 _ _ _ rfl ?_
  obtain rfl := osome hs
  exact hret _ _ _ _ (.inl rfl) d140 (results1_ rfl (RVal.tmp_ e140_8)) ⟨o140, rfl, hX140⟩
 obtain ⟨r141, hr141, hs⟩ := obind hs
 refine rd_seq g_mixed 155 [] o138 [] [0, 1, 3, 7, 0, 0, 48, 127, 255] [dv [] [0] 91 (pt gg1 0), dv [0] [] 92 (pt gg1 0), dv [1] [] 93 (pt gg1 4), dv [2] [] 94 (.map (some mg1_4)), dv [] [5] 95 (P2 x2), dv [] [7] 96 (P2 c4), dv [4, 5] [] 97 (.agg #[Zi r141.1.1, Zi r141.1.2, Zi r141.2.1, Zi r141.2.2]), dv [3, 6] [] 98 (.bool ((lkM g1.2.2.2.2 r141).getD false)), dv [7] [] 90 (.bool ((lkM g1.2.2.2.2 r141).getD false))] z138 d138 nm_ ?_ ?_
 ·exact sM e138_0 <| sF (fun f => ok1 f.1) <| sF (fun f => or_field fo77_4 f.1 (by rfl)) <| sG to75 (be_ hX138 hgg1) <| sL ta25 e138_5 b138_g116 <| sL ta25 e138_7 b138_g120 <| sF (fun f => or_call cf30 (args2 f.1 f.2.1) (guard_between_w _ x2 c4  r141 hr141) post_val) <| sFE (fun f hE => or_lookupE (kf := vv81) (vf := vv4) (k := r141) (dv := false) ko81 tm75 tzv75 f.1 f.2.1 (MpO.evo (by decide) hE (MpO.evo (by decide) hX138 hmg1_4)) rfl) <| sA <| steps_nil
 intro o142 a142 w142 d142 z142 hk142 hf142 hE142
 obtain ⟨e142_0, e142_5, e142_6, e142_7⟩ := kt4 hk142 e138_0 e138_5 e138_6 e138_7
 have e142_90 := gv (hf142 [8] rfl) rfl
 have hX142 := es_ hX138 hE142
 obtain ⟨b142_g116, b142_g118, b142_g120⟩ := be3 hE142 b138_g116 b138_g118 b138_g120
 refine fl_cond e142_90 hs (fun c143 hs => ?_) (fun c143 hs => ?_)
 ·refine rq_seq 155 o142 (bz 1) [dv [] [] 8 (Zi 3)] z142 d142 ?_ ?_
  ·exact sO (or_assign rfl) <| steps_nil
  intro o144 a144 w144 d144 z144 hk144 hf144 hE144
  have e144_8 := gv (hf144 [0] rfl) rfl
  have hX144 := es_ hX142 hE144
  refine fl_ret ?_
  refine hp124 _ _ _ rfl ?_
  refine hp123 _ _ _ rfl ?_
  obtain rfl := osome hs
  exact hret _ _ _ _ (.inl rfl) d144 (results1_ rfl (RVal.tmp_ e144_8)) ⟨o144, rfl, hX144⟩
 refine fl_skip ?_
 refine hn124 _ _ ?_
 refine hn123 _ _ ?_
 obtain ⟨r147, hr147, hs⟩ := obind hs
 refine rp_seq 155 o142 [149] [0, 0, 0, 7, 15, 31, 63, 63, 0, 383, 1023] [dv [] [5] 100 (P2 x2), dv [] [6] 101 (P2 b3), dv [] [7] 102 (P2 c4), ⟨[0, 1, 2], [], [], Fct.row 146 [] 103 25 R25 [x2, b3, c4]⟩, dv [3] [] 104 (.tuple #[.agg #[Zi r147.1.1.1, Zi r147.1.1.2, Zi r147.1.2.1, Zi r147.1.2.2], .bool r147.2]), dv [4] [] 99 (.tuple #[.agg #[Zi r147.1.1.1, Zi r147.1.1.2, Zi r147.1.2.1, Zi r147.1.2.2], .bool r147.2]), dv [5] [] 105 (.agg #[Zi r147.1.1.1, Zi r147.1.1.2, Zi r147.1.2.1, Zi r147.1.2.2]), dv [5] [] 106 (.bool r147.2), ⟨[], [], [], Fct.blk 149 9 (fun g => pt g 0) 80 #[Zi 0, Zi 0, Zi 0, Zi 0]⟩, ⟨[8, 6], [], [149], Fct.blk 150 9 (fun g => pt g 0) 80 #[Zi r147.1.1.1, Zi r147.1.1.2, Zi r147.1.2.1, Zi r147.1.2.2]⟩, dv [7] [] 10 (.bool r147.2)] z142 d142 ?_ ?_
 ·refine sL ta25 e142_5 b142_g116 <| sL ta25 e142_6 b142_g118 <| sL ta25 e142_7 b142_g120 <| sF (fun f => or_lit (lab := 146) (e := 25) (cs := #[Zi x2.1, Zi x2.2, Zi b3.1, Zi b3.2, Zi c4.1, Zi c4.2]) (F := E25) (nw3 f.1 f.2.1 f.2.2.1) rfl rfl (show 3 ≤ maxLen by decide)) ?_
  refine sc (fun own a wx hf hsl hE => ?_) ?_
  ·obtain ⟨⟨⟨A145, cA145⟩, f_103, b_A145⟩, -⟩ := hf
   exact px (or_call cf34 (args1 f_103) (rows_Of_w _ [x2, b3, c4] A145 cA145 (RdO.zero (RwO.rd b_A145)) r147 hr147) post_val)
  refine sV <| sF (fun f => ok1 f.1) <| sF (fun f => ok1 f.1) <| sO (nw0) ?_
  refine sc (fun own a wx hf hsl hE => ?_) ?_
  ·obtain ⟨⟨g148, f_9, b_g148⟩, f_105, -⟩ := hf
   exact px (or_store (l := #[Zi r147.1.1.1, Zi r147.1.1.2, Zi r147.1.2.1, Zi r147.1.2.2]) (lab := 149) (lab2 := 150) ts80 f_9 f_105 b_g148 (by simp) (by kernel_rfl) (mem_of rfl) (by decide) (by kernel_rfl) (fun own' a' w' ha hb => ⟨_, (ha 9).trans f_9, hb⟩))
  exact sA <| steps_nil
 intro o151 a151 w151 d151 z151 hk151 hf151 hE151
 obtain ⟨e151_0, e151_5, e151_6, e151_7⟩ := kt4 hk151 e142_0 e142_5 e142_6 e142_7
 obtain ⟨⟨g148, (e151_9 : a151.eval (.tmp 9) = pt g148 0), (b151_g148 : BlkO o151 150 w151 g148 80 #[Zi r147.1.1.1, Zi r147.1.1.2, Zi r147.1.2.1, Zi r147.1.2.2])⟩, -⟩ := hf151 [9] rfl
 have hX151 := es_ hX142 hE151
 obtain ⟨b151_g116, b151_g118, b151_g120⟩ := be3 hE151 b142_g116 b142_g118 b142_g120
 refine fl_seq (fun Q152 hn152 hp152 => ?_)
 obtain ⟨r153, hr153, hs⟩ := obind hs
 refine rd_seq g_mixed 155 [] o151 [] [0, 1, 3, 7, 15, 0, 63, 127, 0] [dv [] [0] 107 (pt gg1 0), dv [0] [] 108 (pt gg1 0), dv [1] [] 109 (pt gg1 0), dv [2] [] 110 (pt gg1 0), dv [3] [] 111 (pt gg1_0 0), dv [] [9] 112 (.agg #[Zi r147.1.1.1, Zi r147.1.1.2, Zi r147.1.2.1, Zi r147.1.2.2]), ⟨[4, 5], [], [], Fct.row 155 [] 113 3 R3 r153⟩, dv [6] [] 114 (Zi (r153.length : Int)), dv [] [] 115 (Zi 0)] z151 d151 nm_ ?_ ?_
 ·refine sM e151_0 <| sF (fun f => ok1 f.1) <| sF (fun f => or_field fo77_0 f.1 (by rfl)) <| sF (fun f => or_field fo73_0 f.1 (by rfl)) <| sG to70 (be_ hX151 hgg1) <| sL ta80 e151_9 b151_g148 <| sFE (fun f hE => or_call cf35 (args2 f.1 f.2.1) (rows_Index_Find_w _ g1.1 gg1_0 tg1_0 Ag1_0_0 cg1_0_0 mg1_0_1 Ag1_0_2 cg1_0_2 r147.1 (BlkO.zero_ (be_ hE (be_ hX151 hgg1_0))) (RdO.zero (RdO.evo rfl hE (RdO.evo rfl hX151 hAg1_0_0))) (MpN.zero_ (MpN.evo rfl hE (MpN.evo rfl hX151 hmg1_0_1))) (RdO.zero (RdO.evo rfl hE (RdO.evo rfl hX151 hAg1_0_2))) r153 hr153) (post_row (m' := (look0 [(1, 155)])) (.inl (Rep.fl_flat _)) rfl rfl (fun _ => rfl))) ?_
  refine sc (fun own a wx hf hsl hE => ?_) ?_
  ·obtain ⟨⟨⟨A154, cA154⟩, f_113, b_A154⟩, -⟩ := hf
   exact px (or_len tu22 f_113 rfl)
  exact sO (or_move rfl) <| steps_nil
 intro o156 a156 w156 d156 z156 hk156 hf156 hE156
 obtain ⟨e156_0, e156_5, e156_6, e156_7⟩ := kt4 hk156 e151_0 e151_5 e151_6 e151_7
 have e156_114 := gv (hf156 [7] rfl) rfl
 have e156_115 := gv (hf156 [8] rfl) rfl
 obtain ⟨⟨⟨A154, cA154⟩, (e156_113 : a156.eval (.tmp 113) = sl A154 r153 cA154), (b156_A154 : RwO o156 155 [] w156 3 R3 A154 cA154 r153)⟩, -⟩ := hf156 [6] rfl
 have hX156 := es_ hX151 hE156
 obtain ⟨b156_g116, b156_g118, b156_g120⟩ := be3 hE156 b151_g116 b151_g118 b151_g120
 refine fl_block (fun Q157 hn157 hx157 hp157 => ?_)
 refine fl_loop (body := (fun s => guard_Guard_Why_b1 g1 x2 b3 c4 r153 s)) (z := r) (show loopO _ _ = _ from hs) (fun (x178 : Int) a wx => ∃ (ox : Own), a.defers = [] ∧ a.tmps.size = 155 ∧ a.eval (.tmp 0) = pt gg1 0 ∧ a.eval (.tmp 5) = pt g116 0 ∧ a.eval (.tmp 6) = pt g118 0 ∧ a.eval (.tmp 7) = pt g120 0 ∧ a.eval (.tmp 113) = sl A154 r153 cA154 ∧ a.eval (.tmp 114) = Zi (r153.length : Int) ∧ a.eval (.tmp 115) = Zi x178 ∧ Evo [] (fun _ => 0) ox w wx ∧ BlkO ox 117 wx g116 25 #[Zi x2.1, Zi x2.2] ∧ BlkO ox 119 wx g118 25 #[Zi b3.1, Zi b3.2] ∧ BlkO ox 121 wx g120 25 #[Zi c4.1, Zi c4.2] ∧ RwO ox 155 [] wx 3 R3 A154 cA154 r153) ?_ ?_
 ·exact ⟨o156, d156, z156, e156_0, e156_5, e156_6, e156_7, e156_113, e156_114, e156_115, hX156, b156_g116, b156_g118, b156_g120, b156_A154⟩
 ·rintro x178 zz199 a199 w199 ⟨o199, d200, z200, e200_0, e200_5, e200_6, e200_7, e200_113, e200_114, e200_115, hE200, b200_g116, b200_g118, b200_g120, b200_A154⟩ hs Q199 hn199 hp199 z199
  have hs : guard_Guard_Why_b1 g1 x2 b3 c4 r153 x178 = some zz199 := hs
  refine rq_seq 155 o199 (bz 1) [dv [] [115, 114] 116 (.bool (decide (x178 < (r153.length : Int))))] z200 d200 ?_ ?_
  ·exact sS (fun s => or_lss (s.1.trans e200_115) (s.2.1.trans e200_114) rfl) <| steps_nil
  intro o201 a201 w201 d201 z201 hk201 hf201 hE201
  obtain ⟨e201_0, e201_5, e201_6, e201_7, e201_113, e201_114, e201_115⟩ := kt7 hk201 e200_0 e200_5 e200_6 e200_7 e200_113 e200_114 e200_115
  have e201_116 := gv (hf201 [0] rfl) rfl
  have hX201 := es_ hE200 hE201
  obtain ⟨b201_g116, b201_g118, b201_g120⟩ := be3 hE201 b200_g116 b200_g118 b200_g120
  have b201_A154 := re_ hE201 b200_A154
  refine fl_seq (fun Q202 hn202 hp202 => ?_)
  refine fl_cond e201_116 hs (fun c203 hs => ?_) (fun c203 hs => ?_)
  ·refine fl_skip ?_
   refine hn202 _ _ ?_
   refine fl_seq (fun Q204 hn204 hp204 => ?_)
   refine fl_block (fun Q205 hn205 hx205 hp205 => ?_)
   obtain ⟨x206, hx206, hs⟩ := obind hs
   refine rq_seq 155 o201 (bz 3) [dv [] [113, 115] 117 (.pointer (some ((adr A154).add ((x178 : Int).toNat * R3.s)))), dv [0] [] 118 (Zi x206), dv [1] [] 12 (Zi x206)] z201 d201 ?_ ?_
   ·exact sS (fun s => or_index (R := R3) (l := r153) tl22 (s.1.trans e201_113) (s.2.1.trans e201_115) (RdO.some_ (RwO.rd b201_A154) hx206) hx206) <| sFE (fun f hE => or_load1 to3 f.1 (CellsAt.zero (RdO.cells (F := E3) (RwO.rd (re_ hE b201_A154)) hx206) rfl)) <| sA <| steps_nil
   intro o207 a207 w207 d207 z207 hk207 hf207 hE207
   obtain ⟨e207_0, e207_5, e207_6, e207_7, e207_113, e207_114, e207_115⟩ := kt7 hk207 e201_0 e201_5 e201_6 e201_7 e201_113 e201_114 e201_115
   have e207_12 := gv (hf207 [2] rfl) rfl
   have hX207 := es_ hX201 hE207
   obtain ⟨b207_g116, b207_g118, b207_g120⟩ := be3 hE207 b201_g116 b201_g118 b201_g120
   have b207_A154 := re_ hE207 b201_A154
   obtain ⟨x208, hx208, hs⟩ := obind hs
   refine rp_seq 155 o207 [210] [0, 1, 3, 7, 0, 31, 63, 0, 255] [dv [] [0] 119 (pt gg1 0), dv [0] [] 120 (pt gg1 0), dv [1] [] 121 (pt gg1 2), dv [2] [] 122 (sl Ag1_2 g1.2.2.1 cg1_2), dv [] [12] 123 (Zi x206), dv [3, 4] [] 124 (.pointer (some ((adr Ag1_2).add ((x206 : Int).toNat * R25.s)))), dv [5] [] 125 (P2 x208), ⟨[], [], [], Fct.blk 210 13 (fun g => pt g 0) 25 #[Zi 0, Zi 0]⟩, ⟨[7, 6], [], [210], Fct.blk 211 13 (fun g => pt g 0) 25 #[Zi x208.1, Zi x208.2]⟩] z207 d207 ?_ ?_
   ·refine sM e207_0 <| sF (fun f => ok1 f.1) <| sF (fun f => or_field fo77_2 f.1 (by rfl)) <| sG to55 (be_ hX207 hgg1) <| sM e207_12 <| sF (fun f => or_index (R := R25) (l := g1.2.2.1) tl55 f.1 f.2.1 (RdO.some_ (RdO.evo rfl hX207 hAg1_2) hx208) hx208) <| sFE (fun f hE => or_load (l := E25.f x208) ta25 f.1 (RdO.cells (F := E25) (RdO.evo rfl hE (RdO.evo rfl hX207 hAg1_2)) hx208) rfl) <| sO (nw0) ?_
    refine sc (fun own a wx hf hsl hE => ?_) ?_
    ·obtain ⟨⟨g209, f_13, b_g209⟩, f_125, -⟩ := hf
     exact px (or_store (l := #[Zi x208.1, Zi x208.2]) (lab := 210) (lab2 := 211) ts25 f_13 f_125 b_g209 (by simp) (by kernel_rfl) (mem_of rfl) (by decide) (by kernel_rfl) (fun own' a' w' ha hb => ⟨_, (ha 13).trans f_13, hb⟩))
    exact steps_nil
   intro o212 a212 w212 d212 z212 hk212 hf212 hE212
   obtain ⟨e212_0, e212_5, e212_6, e212_7, e212_113, e212_114, e212_115⟩ := kt7 hk212 e207_0 e207_5 e207_6 e207_7 e207_113 e207_114 e207_115
   obtain ⟨⟨g209, (e212_13 : a212.eval (.tmp 13) = pt g209 0), (b212_g209 : BlkO o212 211 w212 g209 25 #[Zi x208.1, Zi x208.2])⟩, -⟩ := hf212 [8] rfl
   have hX212 := es_ hX207 hE212
   obtain ⟨b212_g116, b212_g118, b212_g120⟩ := be3 hE212 b207_g116 b207_g118 b207_g120
   have b212_A154 := re_ hE212 b207_A154
   obtain ⟨x213, hx213, hs⟩ := obind hs
   obtain ⟨x214, hx214, hs⟩ := obind hs
   obtain ⟨r215, hr215, hs⟩ := obind hs
   refine rd_seq g_mixed 155 [] o212 [] [0, 0, 3, 7, 15, 15, 63, 127, 255, 511, 511, 2047, 4095, 8191, 16383, 32767, 65535, 131071, 16383, 524287, 1048575, 2097151, 4194303, 4194303, 4194303, 4194303, 67108863, 134217727] [dv [] [13] 126 (P2 x208), dv [] [5] 127 (P2 x2), dv [0, 1] [] 128 (.bool (!decide (x208 = x2))), dv [2] [] 129 (.bool (!decide (x208 = x2))), dc [3] [13] (!decide (x208 = x2)) 130 (P2 x208), dc [3] [6] (!decide (x208 = x2)) 131 (P2 b3), dc [3, 4, 5] [] (!decide (x208 = x2)) 132 (.bool (!decide (x208 = b3))), dv [3, 6] [] 133 (.bool x213), dv [7] [] 134 (.bool x213), dc [8] [13] x213 135 (P2 x208), dc [8] [7] x213 136 (P2 c4), dc [8, 9, 10] [] x213 137 (.bool (!decide (x208 = c4))), dv [8, 11] [] 138 (.bool (x213 && (!decide (x208 = c4)))), dv [12] [] 139 (.bool (x213 && (!decide (x208 = c4)))), dc [13] [0] (x213 && (!decide (x208 = c4))) 140 (pt gg1 0), dc [13, 14] [] (x213 && (!decide (x208 = c4))) 141 (pt gg1 0), dc [13, 15] [] (x213 && (!decide (x208 = c4))) 142 (pt gg1 3), dc [13, 16] [] (x213 && (!decide (x208 = c4))) 143 (.map (some mg1_3)), dc [13] [13] (x213 && (!decide (x208 = c4))) 144 (P2 x208), dc [13, 17, 18] [] (x213 && (!decide (x208 = c4))) 145 (.bool ((lkM g1.2.2.2.1 x208).getD false)), dv [13, 19] [] 146 (.bool x214), dv [20] [] 147 (.bool x214), dc [21] [5] x214 148 (P2 x2), dc [21] [6] x214 149 (P2 b3), dc [21] [7] x214 150 (P2 c4), dc [21] [13] x214 151 (P2 x208), dc [21, 22, 23, 24, 25] [] x214 152 (.bool r215), dv [21, 26] [] 153 (.bool (x214 && r215))] z212 d212 nm_ ?_ ?_
   ·exact sL ta25 e212_13 b212_g209 <| sL ta25 e212_5 b212_g116 <| sF (fun f => or_neqA sg25 f.1 f.2.1 (sn25 x208.1 x208.2 x2.1 x2.2 _) rfl) <| sV <| cTL ta25 e212_13 b212_g209 <| cTL ta25 e212_6 b212_g118 <| cT (fun f _ _ hg => or_neqA sg25 (f.2.1.1 hg) (f.2.2.1.1 hg) (sn25 x208.1 x208.2 b3.1 b3.2 _) rfl) <| sF (fun f => or_and f.1 (fun hx => f.2.1.1 hx) rfl (osome hx213).symm) <| sV <| cTL ta25 e212_13 b212_g209 <| cTL ta25 e212_7 b212_g120 <| cT (fun f _ _ hg => or_neqA sg25 (f.2.1.1 hg) (f.2.2.1.1 hg) (sn25 x208.1 x208.2 c4.1 c4.2 _) rfl) <| sF (fun f => or_and f.1 (fun hx => f.2.1.1 hx) rfl rfl) <| sV <| cT (fun _ s _ _ => or_move (s.1.trans e212_0)) <| cT (fun f _ _ hg => ok1 (f.2.1.1 hg)) <| cT (fun f _ _ hg => or_field fo77_3 (f.2.1.1 hg) (by rfl)) <| cT (fun f _ hE hg => ld1 to74 (f.2.1.1 hg) (be_ hE (be_ hX212 hgg1))) <| cTL ta25 e212_13 b212_g209 <| cT (fun f _ hE hg => or_lookupE (kf := vv25) (vf := vv4) (k := x208) (dv := false) ko25 tm74 tzv74 (f.2.1.1 hg) (f.2.2.1.1 hg) (MpO.evo (by decide) hE (MpO.evo (by decide) hX212 hmg1_3)) rfl) <| sF (fun f => or_and f.1 (fun hx => f.2.1.1 hx) rfl (osome hx214).symm) <| sV <| cTL ta25 e212_5 b212_g116 <| cTL ta25 e212_6 b212_g118 <| cTL ta25 e212_7 b212_g120 <| cTL ta25 e212_13 b212_g209 <| cT (fun f _ _ hg => or_call cf36 (args4 (f.2.1.1 hg) (f.2.2.1.1 hg) (f.2.2.2.1.1 hg) (f.2.2.2.2.1.1 hg)) (exact_InTriangle_w _ x2 b3 c4 x208  r215 (gd_t hr215 hg)) post_val) <| sF (fun f => or_and f.1 (fun hx => f.2.1.1 hx) rfl rfl) <| steps_nil
   intro o216 a216 w216 d216 z216 hk216 hf216 hE216
   obtain ⟨e216_0, e216_5, e216_6, e216_7, e216_113, e216_114, e216_115⟩ := kt7 hk216 e212_0 e212_5 e212_6 e212_7 e212_113 e212_114 e212_115
   have e216_153 := gv (hf216 [27] rfl) rfl
   have hX216 := es_ hX212 hE216
   obtain ⟨b216_g116, b216_g118, b216_g120⟩ := be3 hE216 b212_g116 b212_g118 b212_g120
   have b216_A154 := re_ hE216 b212_A154
   refine fl_cond e216_153 hs (fun c217 hs => ?_) (fun c217 hs => ?_)
   ·refine rq_seq 155 o216 (bz 1) [dv [] [] 8 (Zi 4)] z216 d216 ?_ ?_
    ·exact sO (or_assign rfl) <| steps_nil
    intro o218 a218 w218 d218 z218 hk218 hf218 hE218
    have e218_8 := gv (hf218 [0] rfl) rfl
    have hX218 := es_ hX216 hE218
    refine fl_ret ?_
    refine hp205 _ _ _ rfl ?_
    refine hp204 _ _ _ rfl ?_
    replace hs := z199 _ hs
    refine hp199 _ _ _ rfl ?_
    refine hp157 _ _ _ rfl ?_
    refine hp152 _ _ _ rfl ?_
    obtain rfl := osome hs
    exact hret _ _ _ _ (.inl rfl) d218 (results1_ rfl (RVal.tmp_ e218_8)) ⟨o218, rfl, hX218⟩
   refine fl_skip ?_
   refine hn205 _ _ ?_
   refine hn204 _ _ ?_
   refine rq 155 o216 (bz 2) [dv [] [115] 154 (Zi (ad x178 1)), dv [0] [] 115 (Zi (ad x178 1))] z216 d216 ?_ ?_
   ·exact sS (fun s => or_add (s.1.trans e216_115) rfl rfl) <| sV <| steps_nil
   intro o219 a219 w219 d219 z219 hk219 hf219 hE219
   obtain ⟨e219_0, e219_5, e219_6, e219_7, e219_113, e219_114⟩ := kt6 hk219 e216_0 e216_5 e216_6 e216_7 e216_113 e216_114
   have e219_115 := gv (hf219 [1] rfl) rfl
   have hX219 := es_ hX216 hE219
   obtain ⟨b219_g116, b219_g118, b219_g120⟩ := be3 hE219 b216_g116 b216_g118 b216_g120
   have b219_A154 := re_ hE219 b216_A154
   exact hn199 _ _ _ hs ⟨o219, d219, z219, e219_0, e219_5, e219_6, e219_7, e219_113, e219_114, e219_115, hX219, b219_g116, b219_g118, b219_g120, b219_A154⟩
  refine fl_exit ?_
  refine hp202 _ _ _ rfl ?_
  replace hs := z199 _ hs
  refine hp199 _ _ _ rfl ?_
  refine hx157 _ _ ?_
  refine hn152 _ _ ?_
  refine rq_seq 155 o201 (bz 1) [dv [] [] 8 (Zi 0)] z201 d201 ?_ ?_
  ·exact sO (or_assign rfl) <| steps_nil
  intro o220 a220 w220 d220 z220 hk220 hf220 hE220
  have e220_8 := gv (hf220 [0] rfl) rfl
  have hX220 := es_ hX201 hE220
  refine fl_ret ?_
  obtain rfl := osome hs
  exact hret _ _ _ _ (.inl rfl) d220 (results1_ rfl (RVal.tmp_ e220_8)) ⟨o220, rfl, hX220⟩
theorem guard_Guard_Edges_w (w : World) (g1 : (((List ((Int × Int) × (Int × Int))) × (List ((Int × Int) × (List Int))) × (List Int))) × (List Int) × (List (Int × Int)) × (List ((Int × Int) × Bool)) × (List (((Int × Int) × (Int × Int)) × Bool))) (gg1 : Nat) (tg1 : TypeId) (gg1_0 : Nat) (tg1_0 : TypeId) (Ag1_0_0 : Option Addr) (cg1_0_0 : Nat) (mg1_0_1 : Nat) (Ag1_0_2 : Option Addr) (cg1_0_2 : Nat) (Ag1_1 : Option Addr) (cg1_1 : Nat) (Ag1_2 : Option Addr) (cg1_2 : Nat) (mg1_3 : Nat) (mg1_4 : Nat) (hgg1 : BlkO (fun _ => 0) 0 w gg1 tg1 #[pt gg1_0 0, sl Ag1_1 g1.2.1 cg1_1, sl Ag1_2 g1.2.2.1 cg1_2, .map (some mg1_3), .map (some mg1_4)]) (hAg1_1 : RdO (fun _ => 0) [0] w R3 Ag1_1 cg1_1 g1.2.1) (hAg1_2 : RdO (fun _ => 0) [0] w R25 Ag1_2 cg1_2 g1.2.2.1) (hmg1_3 : MpO (fun _ => 0) 0 w mg1_3 vv25 vv4 g1.2.2.2.1) (hmg1_4 : MpO (fun _ => 0) 0 w mg1_4 vv81 vv4 g1.2.2.2.2) (hgg1_0 : BlkO (fun _ => 0) 0 w gg1_0 tg1_0 #[sl Ag1_0_0 g1.1.1 cg1_0_0, .map (some mg1_0_1), sl Ag1_0_2 g1.1.2.2 cg1_0_2]) (hAg1_0_0 : RdO (fun _ => 0) [0] w R80 Ag1_0_0 cg1_0_0 g1.1.1) (hmg1_0_1 : MpN (fun _ => 0) 0 0 [0] w mg1_0_1 vv111 3 R3 g1.1.2.1) (hAg1_0_2 : RdO (fun _ => 0) [0] w R3 Ag1_0_2 cg1_0_2 g1.1.2.2) (r : Int) (hs : guard_Guard_Edges g1 = some r) :
  Calls Try.prog 22 #[pt gg1 0] w fun e w' => ∃ own' : Own, e = .returned (Zi r) ∧ Evo [] (fun _ => 0) own' w w' := by
 refine fl_enter (n := 10) rfl rfl rfl (Nat.le_of_ble_eq_true rfl) ?_
 intro a0 Q d0 z0 harg hret
 have ha0 := harg 0 _ rfl
 clear harg
 have hE0 : Evo [] (fun _ => 0) (fun _ => 0) w w := Evo.refl _ _ _
 refine rq_seq 10 (fun _ => 0) (bz 1) [dv [] [] 2 (Zi 0)] z0 d0 ?_ ?_
 ·exact sO (or_assign rfl) <| steps_nil
 intro o15 a15 w15 d15 z15 hk15 hf15 hE15
 have e15_0 := kt hk15 ha0
 have hX15 := es_ hE0 hE15
 refine fl_seq (fun Q16 hn16 hp16 => ?_)
 refine rq_seq 10 o15 (bz 2) [dv [] [0] 3 (pt gg1 0), dv [0] [] 4 (.bool false)] z15 d15 ?_ ?_
 ·exact sM e15_0 <| sF (fun f => ok1 f.1) <| steps_nil
 intro o17 a17 w17 d17 z17 hk17 hf17 hE17
 have e17_0 := kt hk17 e15_0
 have e17_4 := gv (hf17 [1] rfl) rfl
 have hX17 := es_ hX15 hE17
 refine fl_f e17_4 ?_
 refine fl_skip ?_
 refine hn16 _ _ ?_
 refine rq_seq 10 o17 (bz 6) [dv [] [0] 5 (pt gg1 0), dv [0] [] 6 (pt gg1 0), dv [1] [] 7 (pt gg1 4), dv [2] [] 8 (.map (some mg1_4)), dv [3] [] 9 (Zi (g1.2.2.2.2.length : Int)), dv [4] [] 2 (Zi (g1.2.2.2.2.length : Int))] z17 d17 ?_ ?_
 ·exact sM e17_0 <| sF (fun f => ok1 f.1) <| sF (fun f => or_field fo77_4 f.1 (by rfl)) <| sG to75 (be_ hX17 hgg1) <| sFE (fun f hE => or_lenMap (kf := vv81) (vf := vv4) tm75 f.1 (MpO.evo (by decide) hE (MpO.evo (by decide) hX17 hmg1_4)) rfl) <| sA <| steps_nil
 intro o18 a18 w18 d18 z18 hk18 hf18 hE18
 have e18_2 := gv (hf18 [5] rfl) rfl
 have hX18 := es_ hX17 hE18
 refine fl_ret ?_
 obtain rfl := osome hs
 exact hret _ _ _ _ (.inl rfl) d18 (results1_ rfl (RVal.tmp_ e18_2)) ⟨o18, rfl, hX18⟩
theorem law18_known_w (w : World) (r : Bool) (hs : law18_known = some r) :
  Calls Try.prog 11 #[] w fun e w' => ∃ own' : Own, e = .returned (.bool r) ∧ Evo [] (fun _ => 0) own' w w' := by
 refine fl_enter (n := 62) rfl rfl rfl (Nat.le_of_ble_eq_true rfl) ?_
 intro a0 Q d0 z0 harg hret
 clear harg
 have hE0 : Evo [] (fun _ => 0) (fun _ => 0) w w := Evo.refl _ _ _
 refine rq_seq 62 (fun _ => 0) (bz 1) [dv [] [] 0 (.bool false)] z0 d0 ?_ ?_
 ·exact sO (or_assign rfl) <| steps_nil
 intro o81 a81 w81 d81 z81 hk81 hf81 hE81
 have hX81 := es_ hE0 hE81
 refine rp_seq 62 o81 [85] [0, 0, 0, 7, 15, 0, 63] [dv [] [] 4 (.agg #[Zi 0, Zi 0]), dv [] [] 5 (.agg #[Zi 2, Zi 1]), dv [] [] 6 (.agg #[Zi 4, Zi 0]), ⟨[0, 1, 2], [], [], Fct.row 83 [] 7 25 R25 [(0, 0), (2, 1), (4, 0)]⟩, ⟨[3], [], [], Fct.rel [8, 7] (fun l => ∀ (A82 : Option Addr) (cA82 : Nat), l.getD 1 undef = .slice A82 [(0, 0), (2, 1), (4, 0)].length cA82 → l.getD 0 undef = .agg #[.slice A82 [(0, 0), (2, 1), (4, 0)].length cA82, Zi 0, Zi 0])⟩, ⟨[], [], [], Fct.blk 85 1 (fun g => pt g 0) 63 #[.slice none 0 0, Zi 0, Zi 0]⟩, ⟨[5, 4, 3], [], [85], Fct.by_ [86] [1, 7] (fun l own w => ∃ g84 : Nat, l.getD 0 undef = pt g84 0 ∧ (∀ (A82 : Option Addr) (cA82 : Nat), l.getD 1 undef = .slice A82 [(0, 0), (2, 1), (4, 0)].length cA82 → BlkO own 86 w g84 63 #[.slice A82 [(0, 0), (2, 1), (4, 0)].length cA82, Zi 0, Zi 0])) (fun hk he h => by obtain ⟨g, e, h⟩ := h; exact ⟨g, e, fun _ _ h0' => BlkO.evo (not_hit hk (by decide)) he (h _ _ h0')⟩)⟩] z81 d81 ?_ ?_
 ·refine sO (or_k [] rfl rfl trivial (by kernel_rfl)) <| sO (or_k [] rfl rfl trivial (by kernel_rfl)) <| sO (or_k [] rfl rfl trivial (by kernel_rfl)) <| sF (fun f => or_lit (lab := 83) (e := 25) (cs := #[Zi 0, Zi 0, Zi 2, Zi 1, Zi 4, Zi 0]) (F := E25) (nw3 f.1 f.2.1 f.2.2.1) rfl rfl (show 3 ≤ maxLen by decide)) ?_
  refine sc (fun own a wx hf hsl hE => ?_) ?_
  ·obtain ⟨⟨⟨A82, cA82⟩, (f_7 : a.eval (.tmp 7) = .slice A82 [(0, 0), (2, 1), (4, 0)].length cA82), b_A82⟩, -⟩ := hf
   exact px (or_mono (f := Fct.val 8 (.agg #[.slice A82 [(0, 0), (2, 1), (4, 0)].length cA82, Zi 0, Zi 0])) (ok1 f_7) (fun own' a' w' v' hp h => fun _ _ h0' => by cases (f_7.symm.trans ((hp.2 7 (by decide)).symm.trans h0')); exact h))
  refine sO (nw0) ?_
  refine sc (fun own a wx hf hsl hE => ?_) ?_
  ·obtain ⟨⟨g84, f_1, b_g84⟩, (q_8 : ∀ (A82 : Option Addr) (cA82 : Nat), a.eval (.tmp 7) = .slice A82 [(0, 0), (2, 1), (4, 0)].length cA82 → a.eval (.tmp 8) = .agg #[.slice A82 [(0, 0), (2, 1), (4, 0)].length cA82, Zi 0, Zi 0]), ⟨⟨A82, cA82⟩, (f_7 : a.eval (.tmp 7) = .slice A82 [(0, 0), (2, 1), (4, 0)].length cA82), b_A82⟩, -⟩ := hf
   have f_8 := q_8 _ _ f_7
   exact px (or_store (l := #[.slice A82 [(0, 0), (2, 1), (4, 0)].length cA82, Zi 0, Zi 0]) (lab := 85) (lab2 := 86) ts63 f_1 f_8 b_g84 (by simp) (by kernel_rfl) (mem_of rfl) (by decide) (by kernel_rfl) (fun own' a' w' ha hb => ⟨_, (ha 1).trans f_1, fun _ _ h0' => by cases (f_7.symm.trans ((ha 7).symm.trans h0')); exact hb⟩))
  exact steps_nil
 intro o87 a87 w87 d87 z87 hk87 hf87 hE87
 obtain ⟨⟨⟨A82, cA82⟩, (f_7 : a87.eval (.tmp 7) = .slice A82 [(0, 0), (2, 1), (4, 0)].length cA82), (b87_A82 : RwO o87 83 [] w87 25 R25 A82 cA82 [(0, 0), (2, 1), (4, 0)])⟩, ⟨g84, (e87_1 : a87.eval (.tmp 1) = pt g84 0), (bq_g84 : ∀ (A82 : Option Addr) (cA82 : Nat), a87.eval (.tmp 7) = .slice A82 [(0, 0), (2, 1), (4, 0)].length cA82 → BlkO o87 86 w87 g84 63 #[.slice A82 [(0, 0), (2, 1), (4, 0)].length cA82, Zi 0, Zi 0])⟩, -⟩ := hf87 [3, 6] rfl
 have b87_g84 := bq_g84 _ _ f_7
 have hX87 := es_ hX81 hE87
 obtain ⟨r90, hr90, hs⟩ := obind hs
 refine rq_seq 62 o87 (bz 4) [dv [] [1] 9 (.agg #[.slice A82 [(0, 0), (2, 1), (4, 0)].length cA82, Zi 0, Zi 0]), ⟨[0], [], [], Fct.row 89 [83] 10 63 R63 [([(0, 0), (2, 1), (4, 0)], 0, 0)]⟩, ⟨[1], [], [], Fct.mems [100, 101, 102, 103, 104, 105, 106, 107, 108, 109] 11 (fun (x : (Option Addr × Nat) × (Option Addr × Nat) × (Option Addr × Nat) × (Option Addr × Nat) × (Option Addr × Nat) × (Option Addr × Nat) × (Option Addr × Nat) × (Option Addr × Nat) × (Option Addr × Nat)) => .pointer (some ⟨x.1.2, 0, none⟩)) (fun (x : (Option Addr × Nat) × (Option Addr × Nat) × (Option Addr × Nat) × (Option Addr × Nat) × (Option Addr × Nat) × (Option Addr × Nat) × (Option Addr × Nat) × (Option Addr × Nat) × (Option Addr × Nat)) own w => RwO own 100 [] w 80 R80 x.2.2.1.1 x.2.2.1.2 r90.1.1 ∧ MpN own 101 102 [] w x.2.2.2.1.2 vv111 3 R3 r90.1.2.1 ∧ RwO own 103 [] w 3 R3 x.2.2.2.2.1.1 x.2.2.2.2.1.2 r90.1.2.2 ∧ BlkO own 104 w x.2.1.2 106 #[.slice x.2.2.1.1 r90.1.1.length x.2.2.1.2, .map (some x.2.2.2.1.2), .slice x.2.2.2.2.1.1 r90.1.2.2.length x.2.2.2.2.1.2] ∧ RwO own 105 [] w 3 R3 x.2.2.2.2.2.1.1 x.2.2.2.2.2.1.2 r90.2.1 ∧ RwO own 106 [] w 25 R25 x.2.2.2.2.2.2.1.1 x.2.2.2.2.2.2.1.2 r90.2.2.1 ∧ MpO own 107 w x.2.2.2.2.2.2.2.1.2 vv25 vv4 r90.2.2.2.1 ∧ MpO own 108 w x.2.2.2.2.2.2.2.2.2 vv81 vv4 r90.2.2.2.2 ∧ BlkO own 109 w x.1.2 77 #[.pointer (some ⟨x.2.1.2, 0, none⟩), .slice x.2.2.2.2.2.1.1 r90.2.1.length x.2.2.2.2.2.1.2, .slice x.2.2.2.2.2.2.1.1 r90.2.2.1.length x.2.2.2.2.2.2.1.2, .map (some x.2.2.2.2.2.2.2.1.2), .map (some x.2.2.2.2.2.2.2.2.2)]) (fun hk he h => ⟨RwO.evo (hits_sub hk (by decide)) he h.1, MpN.evo (hits_sub hk (by decide)) he h.2.1, RwO.evo (hits_sub hk (by decide)) he h.2.2.1, BlkO.evo (not_hit hk (by decide)) he h.2.2.2.1, RwO.evo (hits_sub hk (by decide)) he h.2.2.2.2.1, RwO.evo (hits_sub hk (by decide)) he h.2.2.2.2.2.1, MpO.evo (not_hit hk (by decide)) he h.2.2.2.2.2.2.1, MpO.evo (not_hit hk (by decide)) he h.2.2.2.2.2.2.2.1, BlkO.evo (not_hit hk (by decide)) he h.2.2.2.2.2.2.2.2⟩)⟩, ⟨[2], [], [], Fct.rel [2, 11] (fun l => ∀ (cA91 : Nat), l.getD 1 undef = pt cA91 0 → l.getD 0 undef = pt cA91 0)⟩] z87 d87 ?_ ?_
 ·refine sL ta63 e87_1 b87_g84 <| sFE (fun f hE => or_litN (R := R63) (lab := 89) (L := [83]) (e := 63) (cs := #[.slice A82 [(0, 0), (2, 1), (4, 0)].length cA82, Zi 0, Zi 0]) (l := [([(0, 0), (2, 1), (4, 0)], 0, 0)]) (n := 1) [(9, .agg #[.slice A82 [(0, 0), (2, 1), (4, 0)].length cA82, Zi 0, Zi 0])] rfl rfl ⟨f.1, trivial⟩ (by kernel_rfl) rfl (by decide) ⟨(Ex.iff X63).2 ⟨((A82, cA82), (), ()), rfl, ⟨(RwO.rd (re_ hE b87_A82)), trivial, trivial⟩⟩, rfl⟩ rfl) ?_
  refine sc (fun own a wx hf hsl hE => ?_) ?_
  ·obtain ⟨⟨⟨A88, cA88⟩, f_10, b_A88⟩, -⟩ := hf
   exact px (or_call cf7 (args2 rfl f_10) (guard_New_w _ ([] : List Int) none 0 [([(0, 0), (2, 1), (4, 0)], 0, 0)] A88 cA88 RdO.nil_ (RdO.zero (RwO.rd b_A88)) r90 hr90) (post_mems (m := (fun _ => 0)) (m' := (look0 [(1, 109), (2, 104), (3, 100), (4, 101), (5, 102), (6, 103), (7, 105), (8, 106), (9, 107), (10, 108)])) (fun _ _ => .inl rfl) (fun own' w' a' x h1 h => ⟨x, h1, ⟨RwO.back_ h.1 (by decide) (.inl (Rep.fl_flat _)), MpN.back_ h.2.1 (by decide) (by decide) (.inl (Rep.fl_flat _)), RwO.back_ h.2.2.1 (by decide) (.inl (Rep.fl_flat _)), BlkO.back_ h.2.2.2.1 (by decide), RwO.back_ h.2.2.2.2.1 (by decide) (.inl (Rep.fl_flat _)), RwO.back_ h.2.2.2.2.2.1 (by decide) (.inl (Rep.fl_flat _)), MpO.back_ h.2.2.2.2.2.2.1 (by decide), MpO.back_ h.2.2.2.2.2.2.2.1 (by decide), BlkO.back_ h.2.2.2.2.2.2.2.2 (by decide)⟩⟩)))
  refine sc (fun own a wx hf hsl hE => ?_) ?_
  ·obtain ⟨⟨⟨⟨A91, cA91⟩, ⟨A92, cA92⟩, ⟨A93, cA93⟩, ⟨A94, cA94⟩, ⟨A95, cA95⟩, ⟨A96, cA96⟩, ⟨A97, cA97⟩, ⟨A98, cA98⟩, ⟨A99, cA99⟩⟩, (f_11 : a.eval (.tmp 11) = pt cA91 0), b_A93, b_cA94, b_A95, b_cA92, b_A96, b_A97, b_cA98, b_cA99, b_cA91⟩, -⟩ := hf
   exact px (or_mono (f := Fct.val 2 (pt cA91 0)) (or_assign f_11) (fun own' a' w' v' hp h => fun _ h0' => by cases (f_11.symm.trans ((hp.2 11 (by decide)).symm.trans h0')); exact h))
  exact steps_nil
 intro o110 a110 w110 d110 z110 hk110 hf110 hE110
 have e110_1 := kt hk110 e87_1
 obtain ⟨⟨⟨⟨A91, cA91⟩, ⟨A92, cA92⟩, ⟨A93, cA93⟩, ⟨A94, cA94⟩, ⟨A95, cA95⟩, ⟨A96, cA96⟩, ⟨A97, cA97⟩, ⟨A98, cA98⟩, ⟨A99, cA99⟩⟩, (f_11 : a110.eval (.tmp 11) = pt cA91 0), (b110_A93 : RwO o110 100 [] w110 80 R80 A93 cA93 r90.1.1), (b110_cA94 : MpN o110 101 102 [] w110 cA94 vv111 3 R3 r90.1.2.1), (b110_A95 : RwO o110 103 [] w110 3 R3 A95 cA95 r90.1.2.2), (b110_cA92 : BlkO o110 104 w110 cA92 106 #[sl A93 r90.1.1 cA93, .map (some cA94), sl A95 r90.1.2.2 cA95]), (b110_A96 : RwO o110 105 [] w110 3 R3 A96 cA96 r90.2.1), (b110_A97 : RwO o110 106 [] w110 25 R25 A97 cA97 r90.2.2.1), (b110_cA98 : MpO o110 107 w110 cA98 vv25 vv4 r90.2.2.2.1), (b110_cA99 : MpO o110 108 w110 cA99 vv81 vv4 r90.2.2.2.2), (b110_cA91 : BlkO o110 109 w110 cA91 77 #[pt cA92 0, sl A96 r90.2.1 cA96, sl A97 r90.2.2.1 cA97, .map (some cA98), .map (some cA99)])⟩, (q_2 : ∀ (cA91 : Nat), a110.eval (.tmp 11) = pt cA91 0 → a110.eval (.tmp 2) = pt cA91 0), -⟩ := hf110 [2, 3] rfl
 have e110_2 := q_2 _ f_11
 have hX110 := es_ hX87 hE110
 have b110_g84 := be_ hE110 b87_g84
 have b110_A82 := re_ hE110 b87_A82
 obtain ⟨r115, hr115, hs⟩ := obind hs
 refine rq_seq 62 o110 [0, 0, 0, 6, 14, 31, 63, 127] [dv [] [1] 12 (.agg #[.slice A82 [(0, 0), (2, 1), (4, 0)].length cA82, Zi 0, Zi 0]), dv [] [] 13 (.agg #[Zi 2, Zi 0]), dv [] [] 14 (.agg #[Zi 2, Zi (-5)]), ⟨[1, 2], [], [], Fct.row 112 [] 15 25 R25 [(2, 0), (2, (-5))]⟩, ⟨[3], [], [], Fct.rel [16, 15] (fun l => ∀ (A111 : Option Addr) (cA111 : Nat), l.getD 1 undef = .slice A111 [(2, 0), (2, (-5))].length cA111 → l.getD 0 undef = .agg #[.slice A111 [(2, 0), (2, (-5))].length cA111, Zi 0, Zi 0])⟩, ⟨[0, 4, 3], [], [], Fct.row 114 [83, 112] 17 63 R63 [([(0, 0), (2, 1), (4, 0)], 0, 0), ([(2, 0), (2, (-5))], 0, 0)]⟩, ⟨[5], [], [], Fct.mems [125, 126, 127, 128, 129, 130, 131, 132, 133, 134] 18 (fun (x : (Option Addr × Nat) × (Option Addr × Nat) × (Option Addr × Nat) × (Option Addr × Nat) × (Option Addr × Nat) × (Option Addr × Nat) × (Option Addr × Nat) × (Option Addr × Nat) × (Option Addr × Nat)) => .pointer (some ⟨x.1.2, 0, none⟩)) (fun (x : (Option Addr × Nat) × (Option Addr × Nat) × (Option Addr × Nat) × (Option Addr × Nat) × (Option Addr × Nat) × (Option Addr × Nat) × (Option Addr × Nat) × (Option Addr × Nat) × (Option Addr × Nat)) own w => RwO own 125 [] w 80 R80 x.2.2.1.1 x.2.2.1.2 r115.1.1 ∧ MpN own 126 127 [] w x.2.2.2.1.2 vv111 3 R3 r115.1.2.1 ∧ RwO own 128 [] w 3 R3 x.2.2.2.2.1.1 x.2.2.2.2.1.2 r115.1.2.2 ∧ BlkO own 129 w x.2.1.2 106 #[.slice x.2.2.1.1 r115.1.1.length x.2.2.1.2, .map (some x.2.2.2.1.2), .slice x.2.2.2.2.1.1 r115.1.2.2.length x.2.2.2.2.1.2] ∧ RwO own 130 [] w 3 R3 x.2.2.2.2.2.1.1 x.2.2.2.2.2.1.2 r115.2.1 ∧ RwO own 131 [] w 25 R25 x.2.2.2.2.2.2.1.1 x.2.2.2.2.2.2.1.2 r115.2.2.1 ∧ MpO own 132 w x.2.2.2.2.2.2.2.1.2 vv25 vv4 r115.2.2.2.1 ∧ MpO own 133 w x.2.2.2.2.2.2.2.2.2 vv81 vv4 r115.2.2.2.2 ∧ BlkO own 134 w x.1.2 77 #[.pointer (some ⟨x.2.1.2, 0, none⟩), .slice x.2.2.2.2.2.1.1 r115.2.1.length x.2.2.2.2.2.1.2, .slice x.2.2.2.2.2.2.1.1 r115.2.2.1.length x.2.2.2.2.2.2.1.2, .map (some x.2.2.2.2.2.2.2.1.2), .map (some x.2.2.2.2.2.2.2.2.2)]) (fun hk he h => ⟨RwO.evo (hits_sub hk (by decide)) he h.1, MpN.evo (hits_sub hk (by decide)) he h.2.1, RwO.evo (hits_sub hk (by decide)) he h.2.2.1, BlkO.evo (not_hit hk (by decide)) he h.2.2.2.1, RwO.evo (hits_sub hk (by decide)) he h.2.2.2.2.1, RwO.evo (hits_sub hk (by decide)) he h.2.2.2.2.2.1, MpO.evo (not_hit hk (by decide)) he h.2.2.2.2.2.2.1, MpO.evo (not_hit hk (by decide)) he h.2.2.2.2.2.2.2.1, BlkO.evo (not_hit hk (by decide)) he h.2.2.2.2.2.2.2.2⟩)⟩, ⟨[6], [], [], Fct.rel [3, 18] (fun l => ∀ (cA116 : Nat), l.getD 1 undef = pt cA116 0 → l.getD 0 undef = pt cA116 0)⟩] z110 d110 ?_ ?_
 ·refine sL ta63 e110_1 b110_g84 <| sO (or_k [] rfl rfl trivial (by kernel_rfl)) <| sO (or_k [] rfl rfl trivial (by kernel_rfl)) <| sF (fun f => or_lit (lab := 112) (e := 25) (cs := #[Zi 2, Zi 0, Zi 2, Zi (-5)]) (F := E25) (nw2 f.1 f.2.1) rfl rfl (show 2 ≤ maxLen by decide)) ?_
  refine sc (fun own a wx hf hsl hE => ?_) ?_
  ·obtain ⟨⟨⟨A111, cA111⟩, (f_15 : a.eval (.tmp 15) = .slice A111 [(2, 0), (2, (-5))].length cA111), b_A111⟩, -⟩ := hf
   exact px (or_mono (f := Fct.val 16 (.agg #[.slice A111 [(2, 0), (2, (-5))].length cA111, Zi 0, Zi 0])) (ok1 f_15) (fun own' a' w' v' hp h => fun _ _ h0' => by cases (f_15.symm.trans ((hp.2 15 (by decide)).symm.trans h0')); exact h))
  refine sc (fun own a wx hf hsl hE => ?_) ?_
  ·obtain ⟨f_12, (q_16 : ∀ (A111 : Option Addr) (cA111 : Nat), a.eval (.tmp 15) = .slice A111 [(2, 0), (2, (-5))].length cA111 → a.eval (.tmp 16) = .agg #[.slice A111 [(2, 0), (2, (-5))].length cA111, Zi 0, Zi 0]), ⟨⟨A111, cA111⟩, f_15, b_A111⟩, -⟩ := hf
   have f_16 := q_16 _ _ f_15
   exact px (or_litN (R := R63) (lab := 114) (L := [83, 112]) (e := 63) (cs := #[.slice A82 [(0, 0), (2, 1), (4, 0)].length cA82, Zi 0, Zi 0, .slice A111 [(2, 0), (2, (-5))].length cA111, Zi 0, Zi 0]) (l := [([(0, 0), (2, 1), (4, 0)], 0, 0), ([(2, 0), (2, (-5))], 0, 0)]) (n := 2) [(12, .agg #[.slice A82 [(0, 0), (2, 1), (4, 0)].length cA82, Zi 0, Zi 0]), (16, .agg #[.slice A111 [(2, 0), (2, (-5))].length cA111, Zi 0, Zi 0])] rfl rfl ⟨f_12, f_16, trivial⟩ (by kernel_rfl) rfl (by decide) ⟨(Ex.iff X63).2 ⟨((A82, cA82), (), ()), rfl, ⟨(RdO.more (RwO.rd (re_ hE b110_A82)) (by decide)), trivial, trivial⟩⟩, ⟨(Ex.iff X63).2 ⟨((A111, cA111), (), ()), rfl, ⟨(RdO.more (RwO.rd b_A111) (by decide)), trivial, trivial⟩⟩, rfl⟩⟩ rfl)
  refine sc (fun own a wx hf hsl hE => ?_) ?_
  ·obtain ⟨⟨⟨A113, cA113⟩, f_17, b_A113⟩, -⟩ := hf
   exact px (or_call cf7 (args2 rfl f_17) (guard_New_w _ ([] : List Int) none 0 [([(0, 0), (2, 1), (4, 0)], 0, 0), ([(2, 0), (2, (-5))], 0, 0)] A113 cA113 RdO.nil_ (RdO.zero (RwO.rd b_A113)) r115 hr115) (post_mems (m := (fun _ => 0)) (m' := (look0 [(1, 134), (2, 129), (3, 125), (4, 126), (5, 127), (6, 128), (7, 130), (8, 131), (9, 132), (10, 133)])) (fun _ _ => .inl rfl) (fun own' w' a' x h1 h => ⟨x, h1, ⟨RwO.back_ h.1 (by decide) (.inl (Rep.fl_flat _)), MpN.back_ h.2.1 (by decide) (by decide) (.inl (Rep.fl_flat _)), RwO.back_ h.2.2.1 (by decide) (.inl (Rep.fl_flat _)), BlkO.back_ h.2.2.2.1 (by decide), RwO.back_ h.2.2.2.2.1 (by decide) (.inl (Rep.fl_flat _)), RwO.back_ h.2.2.2.2.2.1 (by decide) (.inl (Rep.fl_flat _)), MpO.back_ h.2.2.2.2.2.2.1 (by decide), MpO.back_ h.2.2.2.2.2.2.2.1 (by decide), BlkO.back_ h.2.2.2.2.2.2.2.2 (by decide)⟩⟩)))
  refine sc (fun own a wx hf hsl hE => ?_) ?_
  ·obtain ⟨⟨⟨⟨A116, cA116⟩, ⟨A117, cA117⟩, ⟨A118, cA118⟩, ⟨A119, cA119⟩, ⟨A120, cA120⟩, ⟨A121, cA121⟩, ⟨A122, cA122⟩, ⟨A123, cA123⟩, ⟨A124, cA124⟩⟩, (f_18 : a.eval (.tmp 18) = pt cA116 0), b_A118, b_cA119, b_A120, b_cA117, b_A121, b_A122, b_cA123, b_cA124, b_cA116⟩, -⟩ := hf
   exact px (or_mono (f := Fct.val 3 (pt cA116 0)) (or_assign f_18) (fun own' a' w' v' hp h => fun _ h0' => by cases (f_18.symm.trans ((hp.2 18 (by decide)).symm.trans h0')); exact h))
  exact steps_nil
 intro o135 a135 w135 d135 z135 hk135 hf135 hE135
 obtain ⟨e135_1, e135_2⟩ := kt2 hk135 e110_1 e110_2
 obtain ⟨⟨⟨⟨A116, cA116⟩, ⟨A117, cA117⟩, ⟨A118, cA118⟩, ⟨A119, cA119⟩, ⟨A120, cA120⟩, ⟨A121, cA121⟩, ⟨A122, cA122⟩, ⟨A123, cA123⟩, ⟨A124, cA124⟩⟩, (f_18 : a135.eval (.tmp 18) = pt cA116 0), (b135_A118 : RwO o135 125 [] w135 80 R80 A118 cA118 r115.1.1), (b135_cA119 : MpN o135 126 127 [] w135 cA119 vv111 3 R3 r115.1.2.1), (b135_A120 : RwO o135 128 [] w135 3 R3 A120 cA120 r115.1.2.2), (b135_cA117 : BlkO o135 129 w135 cA117 106 #[sl A118 r115.1.1 cA118, .map (some cA119), sl A120 r115.1.2.2 cA120]), (b135_A121 : RwO o135 130 [] w135 3 R3 A121 cA121 r115.2.1), (b135_A122 : RwO o135 131 [] w135 25 R25 A122 cA122 r115.2.2.1), (b135_cA123 : MpO o135 132 w135 cA123 vv25 vv4 r115.2.2.2.1), (b135_cA124 : MpO o135 133 w135 cA124 vv81 vv4 r115.2.2.2.2), (b135_cA116 : BlkO o135 134 w135 cA116 77 #[pt cA117 0, sl A121 r115.2.1 cA121, sl A122 r115.2.2.1 cA122, .map (some cA123), .map (some cA124)])⟩, (q_3 : ∀ (cA116 : Nat), a135.eval (.tmp 18) = pt cA116 0 → a135.eval (.tmp 3) = pt cA116 0), -⟩ := hf135 [6, 7] rfl
 have e135_3 := q_3 _ f_18
 have hX135 := es_ hX110 hE135
 obtain ⟨b135_g84, b135_cA92, b135_cA91⟩ := be3 hE135 b110_g84 b110_cA92 b110_cA91
 have b135_A82 := re_ hE135 b110_A82
 have b135_A93 := re_ hE135 b110_A93
 have b135_cA94 := MpN.evo rfl hE135 b110_cA94
 have b135_A95 := re_ hE135 b110_A95
 have b135_A96 := re_ hE135 b110_A96
 have b135_A97 := re_ hE135 b110_A97
 have b135_cA98 := MpO.evo (by decide) hE135 b110_cA98
 have b135_cA99 := MpO.evo (by decide) hE135 b110_cA99
 refine fl_seq (fun Q136 hn136 hp136 => ?_)
 refine rq_seq 62 o135 (bz 6) [dv [] [2] 19 (pt cA91 0), dv [0] [] 20 (.bool false), dv [1] [] 21 (.bool false), dc [2] [3] (!false) 22 (pt cA116 0), dc [2, 3] [] (!false) 23 (.bool false), dv [2, 4] [] 24 (.bool (false || false))] z135 d135 ?_ ?_
 ·exact sM e135_2 <| sF (fun f => ok1 f.1) <| sV <| cF (fun _ s _ _ => or_move (s.1.trans e135_3)) <| cF (fun f _ _ hg => ok1 (f.2.1.1 hg)) <| sF (fun f => or_or f.1 rfl (fun hx => f.2.1.1 hx) rfl) <| steps_nil
 intro o137 a137 w137 d137 z137 hk137 hf137 hE137
 obtain ⟨e137_1, e137_2, e137_3⟩ := kt3 hk137 e135_1 e135_2 e135_3
 have e137_24 := gv (hf137 [5] rfl) rfl
 have hX137 := es_ hX135 hE137
 obtain ⟨b137_g84, b137_cA92, b137_cA91, b137_cA117, b137_cA116⟩ := be5 hE137 b135_g84 b135_cA92 b135_cA91 b135_cA117 b135_cA116
 have b137_A82 := re_ hE137 b135_A82
 have b137_A93 := re_ hE137 b135_A93
 have b137_cA94 := MpN.evo rfl hE137 b135_cA94
 have b137_A95 := re_ hE137 b135_A95
 have b137_A96 := re_ hE137 b135_A96
 have b137_A97 := re_ hE137 b135_A97
 have b137_cA98 := MpO.evo (by decide) hE137 b135_cA98
 have b137_cA99 := MpO.evo (by decide) hE137 b135_cA99
 have b137_A118 := re_ hE137 b135_A118
 have b137_cA119 := MpN.evo rfl hE137 b135_cA119
 have b137_A120 := re_ hE137 b135_A120
 have b137_A121 := re_ hE137 b135_A121
 have b137_A122 := re_ hE137 b135_A122
 have b137_cA123 := MpO.evo (by decide) hE137 b135_cA123
 have b137_cA124 := MpO.evo (by decide) hE137 b135_cA124
 refine fl_cond e137_24 hs (fun c138 hs => ?_) (fun c138 hs => ?_)
 ·refine rq_seq 62 o137 (bz 1) [dv [] [] 0 (.bool false)] z137 d137 ?_ ?_
  ·exact sO (or_assign rfl) <| steps_nil
  intro o139 a139 w139 d139 z139 hk139 hf139 hE139
  have e139_0 := gv (hf139 [0] rfl) rfl
  have hX139 := es_ hX137 hE139
  refine fl_ret ?_
  refine hp136 _ _ _ rfl ?_
  obtain rfl := osome hs
  exact hret _ _ _ _ (.inl rfl) d139 (results1_ rfl (RVal.tmp_ e139_0)) ⟨o139, rfl, hX139⟩
 refine fl_skip ?_
 refine hn136 _ _ ?_
 obtain ⟨x140, hx140, hs⟩ := obind hs
 obtain ⟨x141, hx141, hs⟩ := obind hs
 obtain ⟨x142, hx142, hs⟩ := obind hs
 obtain ⟨r143, hr143, hs⟩ := obind hs
 obtain ⟨x144, hx144, hs⟩ := obind hs
 obtain ⟨x145, hx145, hs⟩ := obind hs
 obtain ⟨x146, hx146, hs⟩ := obind hs
 obtain ⟨r147, hr147, hs⟩ := obind hs
 obtain ⟨x148, hx148, hs⟩ := obind hs
 obtain ⟨r149, hr149, hs⟩ := obind hs
 refine rd_seq g_mixed 62 [] o137 [] [0, 0, 2, 6, 14, 0, 32, 96, 224, 0, 512, 1536, 3584, 8191, 16383, 32767, 65535, 65535, 196607, 458751, 983039, 65535, 2162687, 6356991, 14745599, 65535, 33619967, 100728831, 234946559, 536870911, 1073741823, 2147483647, 4294967295, 8589934591, 17179869183, 34359738367, 68719476735, 137438953471] [dv [] [2] 25 (pt cA91 0), dv [] [1] 26 (pt g84 0), dv [1] [] 27 (.slice A82 [(0, 0), (2, 1), (4, 0)].length cA82), dv [2] [] 28 (.pointer (some ((adr A82).add ((0 : Int).toNat * R25.s)))), dv [3] [] 29 (P2 x140), dv [] [1] 30 (pt g84 0), dv [5] [] 31 (.slice A82 [(0, 0), (2, 1), (4, 0)].length cA82), dv [6] [] 32 (.pointer (some ((adr A82).add ((1 : Int).toNat * R25.s)))), dv [7] [] 33 (P2 x141), dv [] [1] 34 (pt g84 0), dv [9] [] 35 (.slice A82 [(0, 0), (2, 1), (4, 0)].length cA82), dv [10] [] 36 (.pointer (some ((adr A82).add ((2 : Int).toNat * R25.s)))), dv [11] [] 37 (P2 x142), dv [0, 4, 8, 12] [] 38 (Zi r143), dv [13] [] 39 (.bool (decide (r143 = 0))), dv [14] [] 40 (.bool (decide (r143 = 0))), dc [15] [3] (decide (r143 = 0)) 41 (pt cA116 0), dc [15] [1] (decide (r143 = 0)) 42 (pt g84 0), dc [15, 17] [] (decide (r143 = 0)) 43 (.slice A82 [(0, 0), (2, 1), (4, 0)].length cA82), dc [15, 18] [] (decide (r143 = 0)) 44 (.pointer (some ((adr A82).add ((0 : Int).toNat * R25.s)))), dc [15, 19] [] (decide (r143 = 0)) 45 (P2 x144), dc [15] [1] (decide (r143 = 0)) 46 (pt g84 0), dc [15, 21] [] (decide (r143 = 0)) 47 (.slice A82 [(0, 0), (2, 1), (4, 0)].length cA82), dc [15, 22] [] (decide (r143 = 0)) 48 (.pointer (some ((adr A82).add ((1 : Int).toNat * R25.s)))), dc [15, 23] [] (decide (r143 = 0)) 49 (P2 x145), dc [15] [1] (decide (r143 = 0)) 50 (pt g84 0), dc [15, 25] [] (decide (r143 = 0)) 51 (.slice A82 [(0, 0), (2, 1), (4, 0)].length cA82), dc [15, 26] [] (decide (r143 = 0)) 52 (.pointer (some ((adr A82).add ((2 : Int).toNat * R25.s)))), dc [15, 27] [] (decide (r143 = 0)) 53 (P2 x146), dc [15, 16, 20, 24, 28] [] (decide (r143 = 0)) 54 (Zi r147), dc [15, 29] [] (decide (r143 = 0)) 55 (.bool (decide (r147 = 4))), dv [15, 30] [] 56 (.bool x148), dv [31] [] 57 (.bool x148), dc [32] [2] x148 58 (pt cA91 0), dc [32, 33] [] x148 59 (Zi r149), dc [32, 34] [] x148 60 (.bool (decide (r149 = 2))), dv [32, 35] [] 61 (.bool (x148 && (decide (r149 = 2)))), dv [36] [] 0 (.bool (x148 && (decide (r149 = 2))))] z137 d137 nm_ ?_ ?_
 ·exact sM e137_2 <| sS (fun s => or_field fo63_0 (s.1.trans e137_1) (by rfl)) <| sG to55 b137_g84 <| sF (fun f => or_index (R := R25) (l := [(0, 0), (2, 1), (4, 0)]) tl55 f.1 rfl (RdO.some_ (RwO.rd b137_A82) hx140) hx140) <| sFE (fun f hE => or_load (l := E25.f x140) ta25 f.1 (RdO.cells (F := E25) (RwO.rd (re_ hE b137_A82)) hx140) rfl) <| sS (fun s => or_field fo63_0 (s.1.trans e137_1) (by rfl)) <| sG to55 b137_g84 <| sF (fun f => or_index (R := R25) (l := [(0, 0), (2, 1), (4, 0)]) tl55 f.1 rfl (RdO.some_ (RwO.rd b137_A82) hx141) hx141) <| sFE (fun f hE => or_load (l := E25.f x141) ta25 f.1 (RdO.cells (F := E25) (RwO.rd (re_ hE b137_A82)) hx141) rfl) <| sS (fun s => or_field fo63_0 (s.1.trans e137_1) (by rfl)) <| sG to55 b137_g84 <| sF (fun f => or_index (R := R25) (l := [(0, 0), (2, 1), (4, 0)]) tl55 f.1 rfl (RdO.some_ (RwO.rd b137_A82) hx142) hx142) <| sFE (fun f hE => or_load (l := E25.f x142) ta25 f.1 (RdO.cells (F := E25) (RwO.rd (re_ hE b137_A82)) hx142) rfl) <| sFE (fun f hE => or_call cf10 (args4 f.1 f.2.1 f.2.2.1 f.2.2.2.1) (guard_Guard_Why_w _ r90 cA91 77 cA92 106 A93 cA93 cA94 A95 cA95 A96 cA96 A97 cA97 cA98 cA99 x140 x141 x142 (BlkO.zero_ (be_ hE b137_cA91)) (RdO.zero (RwO.rd (re_ hE b137_A96))) (RdO.zero (RwO.rd (re_ hE b137_A97))) (MpO.zero_ (MpO.evo (by decide) hE b137_cA98)) (MpO.zero_ (MpO.evo (by decide) hE b137_cA99)) (BlkO.zero_ (be_ hE b137_cA92)) (RdO.zero (RwO.rd (re_ hE b137_A93))) (MpN.zero_ (MpN.evo rfl hE b137_cA94)) (RdO.zero (RwO.rd (re_ hE b137_A95))) r143 hr143) post_val) <| sF (fun f => or_eql f.1 rfl rfl) <| sV <| cT (fun _ s _ _ => or_move (s.1.trans e137_3)) <| cT (fun _ s _ _ => or_field fo63_0 (s.1.trans e137_1) (by rfl)) <| cT (fun f _ hE hg => ld1 to55 (f.2.1.1 hg) (be_ hE b137_g84)) <| cT (fun f _ _ hg => or_index (R := R25) (l := [(0, 0), (2, 1), (4, 0)]) tl55 (f.2.1.1 hg) rfl (RdO.some_ (RwO.rd b137_A82) (gd_t hx144 hg)) (gd_t hx144 hg)) <| cT (fun f _ hE hg => or_load (l := E25.f x144) ta25 (f.2.1.1 hg) (RdO.cells (F := E25) (RwO.rd (re_ hE b137_A82)) (gd_t hx144 hg)) rfl) <| cT (fun _ s _ _ => or_field fo63_0 (s.1.trans e137_1) (by rfl)) <| cT (fun f _ hE hg => ld1 to55 (f.2.1.1 hg) (be_ hE b137_g84)) <| cT (fun f _ _ hg => or_index (R := R25) (l := [(0, 0), (2, 1), (4, 0)]) tl55 (f.2.1.1 hg) rfl (RdO.some_ (RwO.rd b137_A82) (gd_t hx145 hg)) (gd_t hx145 hg)) <| cT (fun f _ hE hg => or_load (l := E25.f x145) ta25 (f.2.1.1 hg) (RdO.cells (F := E25) (RwO.rd (re_ hE b137_A82)) (gd_t hx145 hg)) rfl) <| cT (fun _ s _ _ => or_field fo63_0 (s.1.trans e137_1) (by rfl)) <| cT (fun f _ hE hg => ld1 to55 (f.2.1.1 hg) (be_ hE b137_g84)) <| cT (fun f _ _ hg => or_index (R := R25) (l := [(0, 0), (2, 1), (4, 0)]) tl55 (f.2.1.1 hg) rfl (RdO.some_ (RwO.rd b137_A82) (gd_t hx146 hg)) (gd_t hx146 hg)) <| cT (fun f _ hE hg => or_load (l := E25.f x146) ta25 (f.2.1.1 hg) (RdO.cells (F := E25) (RwO.rd (re_ hE b137_A82)) (gd_t hx146 hg)) rfl) <| cT (fun f _ hE hg => or_call cf10 (args4 (f.2.1.1 hg) (f.2.2.1.1 hg) (f.2.2.2.1.1 hg) (f.2.2.2.2.1.1 hg)) (guard_Guard_Why_w _ r115 cA116 77 cA117 106 A118 cA118 cA119 A120 cA120 A121 cA121 A122 cA122 cA123 cA124 x144 x145 x146 (BlkO.zero_ (be_ hE b137_cA116)) (RdO.zero (RwO.rd (re_ hE b137_A121))) (RdO.zero (RwO.rd (re_ hE b137_A122))) (MpO.zero_ (MpO.evo (by decide) hE b137_cA123)) (MpO.zero_ (MpO.evo (by decide) hE b137_cA124)) (BlkO.zero_ (be_ hE b137_cA117)) (RdO.zero (RwO.rd (re_ hE b137_A118))) (MpN.zero_ (MpN.evo rfl hE b137_cA119)) (RdO.zero (RwO.rd (re_ hE b137_A120))) r147 (gd_t hr147 hg)) post_val) <| cT (fun f _ _ hg => or_eql (f.2.1.1 hg) rfl rfl) <| sF (fun f => or_and f.1 (fun hx => f.2.1.1 hx) rfl (osome hx148).symm) <| sV <| cT (fun _ s _ _ => or_move (s.1.trans e137_2)) <| cT (fun f _ hE hg => or_call cf22 (args1 (f.2.1.1 hg)) (guard_Guard_Edges_w _ r90 cA91 77 cA92 106 A93 cA93 cA94 A95 cA95 A96 cA96 A97 cA97 cA98 cA99 (BlkO.zero_ (be_ hE b137_cA91)) (RdO.zero (RwO.rd (re_ hE b137_A96))) (RdO.zero (RwO.rd (re_ hE b137_A97))) (MpO.zero_ (MpO.evo (by decide) hE b137_cA98)) (MpO.zero_ (MpO.evo (by decide) hE b137_cA99)) (BlkO.zero_ (be_ hE b137_cA92)) (RdO.zero (RwO.rd (re_ hE b137_A93))) (MpN.zero_ (MpN.evo rfl hE b137_cA94)) (RdO.zero (RwO.rd (re_ hE b137_A95))) r149 (gd_t hr149 hg)) post_val) <| cT (fun f _ _ hg => or_eql (f.2.1.1 hg) rfl rfl) <| sF (fun f => or_and f.1 (fun hx => f.2.1.1 hx) rfl rfl) <| sA <| steps_nil
 intro o150 a150 w150 d150 z150 hk150 hf150 hE150
 have e150_0 := gv (hf150 [37] rfl) rfl
 have hX150 := es_ hX137 hE150
 refine fl_ret ?_
 obtain rfl := osome hs
 exact hret _ _ _ _ (.inl rfl) d150 (results1_ rfl (RVal.tmp_ e150_0)) ⟨o150, rfl, hX150⟩
theorem guard_Guard_Drop_w (w : World) (own : Own) (g1 : (((List ((Int × Int) × (Int × Int))) × (List ((Int × Int) × (List Int))) × (List Int))) × (List Int) × (List (Int × Int)) × (List ((Int × Int) × Bool)) × (List (((Int × Int) × (Int × Int)) × Bool))) (gg1 : Nat) (tg1 : TypeId) (gg1_0 : Nat) (tg1_0 : TypeId) (Ag1_0_0 : Option Addr) (cg1_0_0 : Nat) (mg1_0_1 : Nat) (Ag1_0_2 : Option Addr) (cg1_0_2 : Nat) (Ag1_1 : Option Addr) (cg1_1 : Nat) (Ag1_2 : Option Addr) (cg1_2 : Nat) (mg1_3 : Nat) (mg1_4 : Nat) (x2 : Int × Int) (b3 : Int × Int) (c4 : Int × Int) (hown : ∀ b, own b ≤ 10) (hgg1 : BlkO own 1 w gg1 tg1 #[pt gg1_0 0, sl Ag1_1 g1.2.1 cg1_1, sl Ag1_2 g1.2.2.1 cg1_2, .map (some mg1_3), .map (some mg1_4)]) (hAg1_1 : RwO own 7 [] w 3 R3 Ag1_1 cg1_1 g1.2.1) (hAg1_2 : RwO own 8 [] w 25 R25 Ag1_2 cg1_2 g1.2.2.1) (hmg1_3 : MpO own 9 w mg1_3 vv25 vv4 g1.2.2.2.1) (hmg1_4 : MpO own 10 w mg1_4 vv81 vv4 g1.2.2.2.2) (hgg1_0 : BlkO own 2 w gg1_0 tg1_0 #[sl Ag1_0_0 g1.1.1 cg1_0_0, .map (some mg1_0_1), sl Ag1_0_2 g1.1.2.2 cg1_0_2]) (hAg1_0_0 : RwO own 3 [] w 80 R80 Ag1_0_0 cg1_0_0 g1.1.1) (hmg1_0_1 : MpN own 4 5 [] w mg1_0_1 vv111 3 R3 g1.1.2.1) (hAg1_0_2 : RwO own 6 [] w 3 R3 Ag1_0_2 cg1_0_2 g1.1.2.2) (r : Bool × ((((List ((Int × Int) × (Int × Int))) × (List ((Int × Int) × (List Int))) × (List Int))) × (List Int) × (List (Int × Int)) × (List ((Int × Int) × Bool)) × (List (((Int × Int) × (Int × Int)) × Bool)))) (hs : guard_Guard_Drop g1 x2 b3 c4 = some r) :
  Calls Try.prog 12 #[pt gg1 0, P2 x2, P2 b3, P2 c4] w fun e w' => ∃ (own' : Own) (x : (Option Addr × Nat) × (Option Addr × Nat) × (Option Addr × Nat) × (Option Addr × Nat)), e = .returned (.bool r.1) ∧ Evo [1, 2, 3, 4, 5, 6, 7, 8, 9, 10] own own' w w' ∧ RwO own' 3 [] w' 80 R80 x.1.1 x.1.2 r.2.1.1 ∧ MpN own' 4 5 [] w' mg1_0_1 vv111 3 R3 r.2.1.2.1 ∧ RwO own' 6 [] w' 3 R3 x.2.1.1 x.2.1.2 r.2.1.2.2 ∧ BlkO own' 2 w' gg1_0 tg1_0 #[.slice x.1.1 r.2.1.1.length x.1.2, .map (some mg1_0_1), .slice x.2.1.1 r.2.1.2.2.length x.2.1.2] ∧ RwO own' 7 [] w' 3 R3 x.2.2.1.1 x.2.2.1.2 r.2.2.1 ∧ RwO own' 8 [] w' 25 R25 x.2.2.2.1 x.2.2.2.2 r.2.2.2.1 ∧ MpO own' 9 w' mg1_3 vv25 vv4 r.2.2.2.2.1 ∧ MpO own' 10 w' mg1_4 vv81 vv4 r.2.2.2.2.2 ∧ BlkO own' 1 w' gg1 tg1 #[pt gg1_0 0, .slice x.2.2.1.1 r.2.2.1.length x.2.2.1.2, .slice x.2.2.2.1 r.2.2.2.1.length x.2.2.2.2, .map (some mg1_3), .map (some mg1_4)] := by
 refine fl_enter (n := 41) rfl rfl rfl (Nat.le_of_ble_eq_true rfl) ?_
 intro a0 Q d0 z0 harg hret
 have ha0 := harg 0 _ rfl
 have ha1 := harg 1 _ rfl
 have ha2 := harg 2 _ rfl
 have ha3 := harg 3 _ rfl
 clear harg
 have hE0 : Evo [1, 2, 3, 4, 5, 6, 7, 8, 9, 10] own own w w := Evo.refl _ _ _
 refine rq_seq 41 own [0, 0, 0, 0] [⟨[], [1], [], Fct.blk 53 5 (fun g => pt g 0) 25 #[Zi x2.1, Zi x2.2]⟩, ⟨[], [2], [], Fct.blk 55 6 (fun g => pt g 0) 25 #[Zi b3.1, Zi b3.2]⟩, ⟨[], [3], [], Fct.blk 57 7 (fun g => pt g 0) 25 #[Zi c4.1, Zi c4.2]⟩, dv [] [] 8 (.bool false)] z0 d0 ?_ ?_
 ·exact sS (fun s => nw1 (s.1.trans ha1)) <| sS (fun s => nw1 (s.1.trans ha2)) <| sS (fun s => nw1 (s.1.trans ha3)) <| sO (or_assign rfl) <| steps_nil
 intro o58 a58 w58 d58 z58 hk58 hf58 hE58
 have e58_0 := kt hk58 ha0
 obtain ⟨⟨g52, (e58_5 : a58.eval (.tmp 5) = pt g52 0), (b58_g52 : BlkO o58 53 w58 g52 25 #[Zi x2.1, Zi x2.2])⟩, ⟨g54, (e58_6 : a58.eval (.tmp 6) = pt g54 0), (b58_g54 : BlkO o58 55 w58 g54 25 #[Zi b3.1, Zi b3.2])⟩, ⟨g56, (e58_7 : a58.eval (.tmp 7) = pt g56 0), (b58_g56 : BlkO o58 57 w58 g56 25 #[Zi c4.1, Zi c4.2])⟩, -⟩ := hf58 [0, 1, 2] rfl
 have hX58 := Evo.step hE0 hown hE58 rfl
 obtain ⟨b58_gg1_0, b58_gg1⟩ := be2 hE58 hgg1_0 hgg1
 have b58_Ag1_0_0 := re_ hE58 hAg1_0_0
 have b58_mg1_0_1 := MpN.evo rfl hE58 hmg1_0_1
 have b58_Ag1_0_2 := re_ hE58 hAg1_0_2
 have b58_Ag1_1 := re_ hE58 hAg1_1
 have b58_Ag1_2 := re_ hE58 hAg1_2
 have b58_mg1_3 := MpO.evo (by decide) hE58 hmg1_3
 have b58_mg1_4 := MpO.evo (by decide) hE58 hmg1_4
 refine fl_seq (fun Q59 hn59 hp59 => ?_)
 obtain ⟨r60, hr60, hs⟩ := obind hs
 refine rq_seq 41 o58 [0, 0, 0, 0, 15, 31] [dv [] [0] 9 (pt gg1 0), dv [] [5] 10 (P2 x2), dv [] [6] 11 (P2 b3), dv [] [7] 12 (P2 c4), dv [0, 1, 2, 3] [] 13 (Zi r60), dv [4] [] 14 (.bool (!decide (r60 = 0)))] z58 d58 ?_ ?_
 ·exact sM e58_0 <| sL ta25 e58_5 b58_g52 <| sL ta25 e58_6 b58_g54 <| sL ta25 e58_7 b58_g56 <| sFE (fun f hE => or_call cf10 (args4 f.1 f.2.1 f.2.2.1 f.2.2.2.1) (guard_Guard_Why_w _ g1 gg1 tg1 gg1_0 tg1_0 Ag1_0_0 cg1_0_0 mg1_0_1 Ag1_0_2 cg1_0_2 Ag1_1 cg1_1 Ag1_2 cg1_2 mg1_3 mg1_4 x2 b3 c4 (BlkO.zero_ (be_ hE b58_gg1)) (RdO.zero (RwO.rd (re_ hE b58_Ag1_1))) (RdO.zero (RwO.rd (re_ hE b58_Ag1_2))) (MpO.zero_ (MpO.evo (by decide) hE b58_mg1_3)) (MpO.zero_ (MpO.evo (by decide) hE b58_mg1_4)) (BlkO.zero_ (be_ hE b58_gg1_0)) (RdO.zero (RwO.rd (re_ hE b58_Ag1_0_0))) (MpN.zero_ (MpN.evo rfl hE b58_mg1_0_1)) (RdO.zero (RwO.rd (re_ hE b58_Ag1_0_2))) r60 hr60) post_val) <| sF (fun f => or_neq f.1 rfl rfl) <| steps_nil
 intro o61 a61 w61 d61 z61 hk61 hf61 hE61
 obtain ⟨e61_0, e61_5, e61_6, e61_7⟩ := kt4 hk61 e58_0 e58_5 e58_6 e58_7
 have e61_14 := gv (hf61 [5] rfl) rfl
 have hX61 := Evo.step hX58 hown hE61 rfl
 obtain ⟨b61_gg1_0, b61_gg1, b61_g52, b61_g54, b61_g56⟩ := be5 hE61 b58_gg1_0 b58_gg1 b58_g52 b58_g54 b58_g56
 have b61_Ag1_0_0 := re_ hE61 b58_Ag1_0_0
 have b61_mg1_0_1 := MpN.evo rfl hE61 b58_mg1_0_1
 have b61_Ag1_0_2 := re_ hE61 b58_Ag1_0_2
 have b61_Ag1_1 := re_ hE61 b58_Ag1_1
 have b61_Ag1_2 := re_ hE61 b58_Ag1_2
 have b61_mg1_3 := MpO.evo (by decide) hE61 b58_mg1_3
 have b61_mg1_4 := MpO.evo (by decide) hE61 b58_mg1_4
 refine fl_cond e61_14 hs (fun c62 hs => ?_) (fun c62 hs => ?_)
 ·refine rq_seq 41 o61 (bz 1) [dv [] [] 8 (.bool false)] z61 d61 ?_ ?_
  ·exact sO (or_assign rfl) <| steps_nil
  intro o63 a63 w63 d63 z63 hk63 hf63 hE63
  have e63_0 := kt hk63 e61_0
  have e63_8 := gv (hf63 [0] rfl) rfl
  have hX63 := Evo.step hX61 hown hE63 rfl
  obtain ⟨b63_gg1_0, b63_gg1⟩ := be2 hE63 b61_gg1_0 b61_gg1
  have b63_Ag1_0_0 := re_ hE63 b61_Ag1_0_0
  have b63_mg1_0_1 := MpN.evo rfl hE63 b61_mg1_0_1
  have b63_Ag1_0_2 := re_ hE63 b61_Ag1_0_2
  have b63_Ag1_1 := re_ hE63 b61_Ag1_1
  have b63_Ag1_2 := re_ hE63 b61_Ag1_2
  have b63_mg1_3 := MpO.evo (by decide) hE63 b61_mg1_3
  have b63_mg1_4 := MpO.evo (by decide) hE63 b61_mg1_4
  refine fl_ret ?_
  refine hp59 _ _ _ rfl ?_
  obtain rfl := osome hs
  exact hret _ _ _ _ (.inl rfl) d63 (results1_ rfl (RVal.tmp_ e63_8)) ⟨o63, ((Ag1_0_0, cg1_0_0), (Ag1_0_2, cg1_0_2), (Ag1_1, cg1_1), (Ag1_2, cg1_2)), rfl, hX63, b63_Ag1_0_0, b63_mg1_0_1, b63_Ag1_0_2, b63_gg1_0, b63_Ag1_1, b63_Ag1_2, b63_mg1_3, b63_mg1_4, b63_gg1⟩
 refine fl_skip ?_
 refine hn59 _ _ ?_
 obtain ⟨D64, hD64, hs⟩ := obind hs
 refine rd_seq g_mixed 41 [Fct.mapAt 9 mg1_3 vv25 vv4 g1.2.2.2.1] o61 [9] [0, 1, 3, 7, 0, 31] [dv [] [0] 15 (pt gg1 0), dv [0] [] 16 (pt gg1 0), dv [1] [] 17 (pt gg1 3), dv [2] [] 18 (.map (some mg1_3)), dv [] [6] 19 (P2 b3), ⟨[3, 4, 6], [], [9], Fct.mapAt 65 mg1_3 vv25 vv4 D64⟩] z61 d61 (fm1 b61_mg1_3) ?_ ?_
 ·refine sM e61_0 <| sF (fun f => ok1 f.1) <| sF (fun f => or_field fo77_3 f.1 (by rfl)) <| sG to74 b61_gg1 <| sL ta25 e61_6 b61_g54 ?_
  refine sc (fun own a wx hf hsl hE => ?_) ?_
  ·obtain ⟨f_18, f_19, b_mg1_3, -⟩ := hf
   exact px (or_delete (kf := vv25) (vf := vv4) (k := b3) (lab := 9) (lab2 := 65) ko25 tm74 f_18 f_19 b_mg1_3 (osome hD64).symm (mem_of rfl) (by decide) (fun own' a' w' hb => hb))
  exact steps_nil
 intro o66 a66 w66 d66 z66 hk66 hf66 hE66
 obtain ⟨e66_0, e66_5, e66_6, e66_7⟩ := kt4 hk66 e61_0 e61_5 e61_6 e61_7
 obtain ⟨(b66_mg1_3 : MpO o66 65 w66 mg1_3 vv25 vv4 D64), -⟩ := hf66 [5] rfl
 have hX66 := Evo.step hX61 hown hE66 rfl
 obtain ⟨b66_gg1_0, b66_gg1, b66_g52, b66_g54, b66_g56⟩ := be5 hE66 b61_gg1_0 b61_gg1 b61_g52 b61_g54 b61_g56
 have b66_Ag1_0_0 := re_ hE66 b61_Ag1_0_0
 have b66_mg1_0_1 := MpN.evo rfl hE66 b61_mg1_0_1
 have b66_Ag1_0_2 := re_ hE66 b61_Ag1_0_2
 have b66_Ag1_1 := re_ hE66 b61_Ag1_1
 have b66_Ag1_2 := re_ hE66 b61_Ag1_2
 have b66_mg1_4 := MpO.evo (by decide) hE66 b61_mg1_4
 obtain ⟨r68, hr68, hs⟩ := obind hs
 obtain ⟨D69, hD69, hs⟩ := obind hs
 refine rd_seq g_mixed 41 [Fct.mapAt 10 mg1_4 vv81 vv4 g1.2.2.2.2] o66 [10] [0, 1, 3, 7, 0, 0, 48, 127] [dv [] [0] 20 (pt gg1 0), dv [0] [] 21 (pt gg1 0), dv [1] [] 22 (pt gg1 4), dv [2] [] 23 (.map (some mg1_4)), dv [] [5] 24 (P2 x2), dv [] [6] 25 (P2 b3), dv [4, 5] [] 26 (.agg #[Zi r68.1.1, Zi r68.1.2, Zi r68.2.1, Zi r68.2.2]), ⟨[3, 6, 8], [], [10], Fct.mapAt 70 mg1_4 vv81 vv4 D69⟩] z66 d66 (fm1 b66_mg1_4) ?_ ?_
 ·refine sM e66_0 <| sF (fun f => ok1 f.1) <| sF (fun f => or_field fo77_4 f.1 (by rfl)) <| sG to75 b66_gg1 <| sL ta25 e66_5 b66_g52 <| sL ta25 e66_6 b66_g54 <| sF (fun f => or_call cf30 (args2 f.1 f.2.1) (guard_between_w _ x2 b3  r68 hr68) post_val) ?_
  refine sc (fun own a wx hf hsl hE => ?_) ?_
  ·obtain ⟨f_23, f_26, b_mg1_4, -⟩ := hf
   exact px (or_delete (kf := vv81) (vf := vv4) (k := r68) (lab := 10) (lab2 := 70) ko81 tm75 f_23 f_26 b_mg1_4 (osome hD69).symm (mem_of rfl) (by decide) (fun own' a' w' hb => hb))
  exact steps_nil
 intro o71 a71 w71 d71 z71 hk71 hf71 hE71
 obtain ⟨e71_0, e71_5, e71_6, e71_7⟩ := kt4 hk71 e66_0 e66_5 e66_6 e66_7
 obtain ⟨(b71_mg1_4 : MpO o71 70 w71 mg1_4 vv81 vv4 D69), -⟩ := hf71 [7] rfl
 have hX71 := Evo.step hX66 hown hE71 rfl
 obtain ⟨b71_gg1_0, b71_gg1, b71_g52, b71_g54, b71_g56⟩ := be5 hE71 b66_gg1_0 b66_gg1 b66_g52 b66_g54 b66_g56
 have b71_Ag1_0_0 := re_ hE71 b66_Ag1_0_0
 have b71_mg1_0_1 := MpN.evo rfl hE71 b66_mg1_0_1
 have b71_Ag1_0_2 := re_ hE71 b66_Ag1_0_2
 have b71_Ag1_1 := re_ hE71 b66_Ag1_1
 have b71_Ag1_2 := re_ hE71 b66_Ag1_2
 have b71_mg1_3 := MpO.evo (by decide) hE71 b66_mg1_3
 obtain ⟨r73, hr73, hs⟩ := obind hs
 obtain ⟨D74, hD74, hs⟩ := obind hs
 refine rd_seq g_mixed 41 [Fct.mapAt 70 mg1_4 vv81 vv4 D69] o71 [70] [0, 1, 3, 7, 0, 0, 48, 127] [dv [] [0] 27 (pt gg1 0), dv [0] [] 28 (pt gg1 0), dv [1] [] 29 (pt gg1 4), dv [2] [] 30 (.map (some mg1_4)), dv [] [6] 31 (P2 b3), dv [] [7] 32 (P2 c4), dv [4, 5] [] 33 (.agg #[Zi r73.1.1, Zi r73.1.2, Zi r73.2.1, Zi r73.2.2]), ⟨[3, 6, 8], [], [70], Fct.mapAt 75 mg1_4 vv81 vv4 D74⟩] z71 d71 (fm1 b71_mg1_4) ?_ ?_
 ·refine sM e71_0 <| sF (fun f => ok1 f.1) <| sF (fun f => or_field fo77_4 f.1 (by rfl)) <| sG to75 b71_gg1 <| sL ta25 e71_6 b71_g54 <| sL ta25 e71_7 b71_g56 <| sF (fun f => or_call cf30 (args2 f.1 f.2.1) (guard_between_w _ b3 c4  r73 hr73) post_val) ?_
  refine sc (fun own a wx hf hsl hE => ?_) ?_
  ·obtain ⟨f_30, f_33, b_mg1_4, -⟩ := hf
   exact px (or_delete (kf := vv81) (vf := vv4) (k := r73) (lab := 70) (lab2 := 75) ko81 tm75 f_30 f_33 b_mg1_4 (osome hD74).symm (mem_of rfl) (by decide) (fun own' a' w' hb => hb))
  exact steps_nil
 intro o76 a76 w76 d76 z76 hk76 hf76 hE76
 obtain ⟨e76_0, e76_5, e76_7⟩ := kt3 hk76 e71_0 e71_5 e71_7
 obtain ⟨(b76_mg1_4 : MpO o76 75 w76 mg1_4 vv81 vv4 D74), -⟩ := hf76 [7] rfl
 have hX76 := Evo.step hX71 hown hE76 rfl
 obtain ⟨b76_gg1_0, b76_gg1, b76_g52, b76_g56⟩ := be4 hE76 b71_gg1_0 b71_gg1 b71_g52 b71_g56
 have b76_Ag1_0_0 := re_ hE76 b71_Ag1_0_0
 have b76_mg1_0_1 := MpN.evo rfl hE76 b71_mg1_0_1
 have b76_Ag1_0_2 := re_ hE76 b71_Ag1_0_2
 have b76_Ag1_1 := re_ hE76 b71_Ag1_1
 have b76_Ag1_2 := re_ hE76 b71_Ag1_2
 have b76_mg1_3 := MpO.evo (by decide) hE76 b71_mg1_3
 obtain ⟨r78, hr78, hs⟩ := obind hs
 obtain ⟨D79, hD79, hs⟩ := obind hs
 refine rd_seq g_mixed 41 [Fct.mapAt 75 mg1_4 vv81 vv4 D74] o76 [75] [0, 1, 3, 7, 0, 0, 48, 127] [dv [] [0] 34 (pt gg1 0), dv [0] [] 35 (pt gg1 0), dv [1] [] 36 (pt gg1 4), dv [2] [] 37 (.map (some mg1_4)), dv [] [5] 38 (P2 x2), dv [] [7] 39 (P2 c4), dv [4, 5] [] 40 (.agg #[Zi r78.1.1, Zi r78.1.2, Zi r78.2.1, Zi r78.2.2]), ⟨[3, 6, 8], [], [75], Fct.mapAt 80 mg1_4 vv81 vv4 D79⟩] z76 d76 (fm1 b76_mg1_4) ?_ ?_
 ·refine sM e76_0 <| sF (fun f => ok1 f.1) <| sF (fun f => or_field fo77_4 f.1 (by rfl)) <| sG to75 b76_gg1 <| sL ta25 e76_5 b76_g52 <| sL ta25 e76_7 b76_g56 <| sF (fun f => or_call cf30 (args2 f.1 f.2.1) (guard_between_w _ x2 c4  r78 hr78) post_val) ?_
  refine sc (fun own a wx hf hsl hE => ?_) ?_
  ·obtain ⟨f_37, f_40, b_mg1_4, -⟩ := hf
   exact px (or_mapUpdate (kf := vv81) (vf := vv4) (k := r78) (v := true) (lab := 75) (lab2 := 80) ko81 tm75 f_37 f_40 rfl b_mg1_4 (osome hD79).symm (mem_of rfl) (by decide) (fun own' a' w' hb => hb))
  exact steps_nil
 intro o81 a81 w81 d81 z81 hk81 hf81 hE81
 have e81_0 := kt hk81 e76_0
 obtain ⟨(b81_mg1_4 : MpO o81 80 w81 mg1_4 vv81 vv4 D79), -⟩ := hf81 [7] rfl
 have hX81 := Evo.step hX76 hown hE81 rfl
 obtain ⟨b81_gg1_0, b81_gg1⟩ := be2 hE81 b76_gg1_0 b76_gg1
 have b81_Ag1_0_0 := re_ hE81 b76_Ag1_0_0
 have b81_mg1_0_1 := MpN.evo rfl hE81 b76_mg1_0_1
 have b81_Ag1_0_2 := re_ hE81 b76_Ag1_0_2
 have b81_Ag1_1 := re_ hE81 b76_Ag1_1
 have b81_Ag1_2 := re_ hE81 b76_Ag1_2
 have b81_mg1_3 := MpO.evo (by decide) hE81 b76_mg1_3
 refine rq_seq 41 o81 (bz 1) [dv [] [] 8 (.bool true)] z81 d81 ?_ ?_
 ·exact sO (or_assign rfl) <| steps_nil
 intro o82 a82 w82 d82 z82 hk82 hf82 hE82
 have e82_0 := kt hk82 e81_0
 have e82_8 := gv (hf82 [0] rfl) rfl
 have hX82 := Evo.step hX81 hown hE82 rfl
 obtain ⟨b82_gg1_0, b82_gg1⟩ := be2 hE82 b81_gg1_0 b81_gg1
 have b82_Ag1_0_0 := re_ hE82 b81_Ag1_0_0
 have b82_mg1_0_1 := MpN.evo rfl hE82 b81_mg1_0_1
 have b82_Ag1_0_2 := re_ hE82 b81_Ag1_0_2
 have b82_Ag1_1 := re_ hE82 b81_Ag1_1
 have b82_Ag1_2 := re_ hE82 b81_Ag1_2
 have b82_mg1_3 := MpO.evo (by decide) hE82 b81_mg1_3
 have b82_mg1_4 := MpO.evo (by decide) hE82 b81_mg1_4
 refine fl_ret ?_
 obtain rfl := osome hs
 exact hret _ _ _ _ (.inl rfl) d82 (results1_ rfl (RVal.tmp_ e82_8)) ⟨(rl [(65, 9), (80, 10)] o82), ((Ag1_0_0, cg1_0_0), (Ag1_0_2, cg1_0_2), (Ag1_1, cg1_1), (Ag1_2, cg1_2)), rfl, (Evo.rl_ hX82 hown rfl), (RwO.rl_ b82_Ag1_0_0), (MpN.rl_ b82_mg1_0_1), (RwO.rl_ b82_Ag1_0_2), (BlkO.rl_ b82_gg1_0), (RwO.rl_ b82_Ag1_1), (RwO.rl_ b82_Ag1_2), (MpO.rl_ b82_mg1_3), (MpO.rl_ b82_mg1_4), (BlkO.rl_ b82_gg1)⟩
theorem ref18_Has_w (w : World) (g1 : (List Int) × (List (Int × Int)) × (List ((Int × Int) × (Int × Int)))) (Ag1_0 : Option Addr) (cg1_0 : Nat) (Ag1_1 : Option Addr) (cg1_1 : Nat) (Ag1_2 : Option Addr) (cg1_2 : Nat) (p2 : Int × Int) (hAg1_0 : RdO (fun _ => 0) [0] w R3 Ag1_0 cg1_0 g1.1) (hAg1_1 : RdO (fun _ => 0) [0] w R44 Ag1_1 cg1_1 g1.2.1) (hAg1_2 : RdO (fun _ => 0) [0] w R92 Ag1_2 cg1_2 g1.2.2) (r : Bool) (hs : ref18_Has g1 p2 = some r) :
  Calls Try.prog 18 #[.agg #[sl Ag1_0 g1.1 cg1_0, sl Ag1_1 g1.2.1 cg1_1, sl Ag1_2 g1.2.2 cg1_2], P2 p2] w fun e w' => ∃ own' : Own, e = .returned (.bool r) ∧ Evo [] (fun _ => 0) own' w w' := by
 refine fl_enter (n := 20) rfl rfl rfl (Nat.le_of_ble_eq_true rfl) ?_
 intro a0 Q d0 z0 harg hret
 have ha0 := harg 0 _ rfl
 have ha1 := harg 1 _ rfl
 clear harg
 have hE0 : Evo [] (fun _ => 0) (fun _ => 0) w w := Evo.refl _ _ _
 refine rq_seq 20 (fun _ => 0) [0, 0, 0] [⟨[], [0], [], Fct.blk 56 2 (fun g => pt g 0) 38 #[sl Ag1_0 g1.1 cg1_0, sl Ag1_1 g1.2.1 cg1_1, sl Ag1_2 g1.2.2 cg1_2]⟩, ⟨[], [1], [], Fct.blk 58 3 (fun g => pt g 0) 44 #[Zi p2.1, Zi p2.2]⟩, dv [] [] 4 (.bool false)] z0 d0 ?_ ?_
 ·exact sS (fun s => nw1 (s.1.trans ha0)) <| sS (fun s => nw1 (s.1.trans ha1)) <| sO (or_assign rfl) <| steps_nil
 intro o59 a59 w59 d59 z59 hk59 hf59 hE59
 obtain ⟨⟨g55, (e59_2 : a59.eval (.tmp 2) = pt g55 0), (b59_g55 : BlkO o59 56 w59 g55 38 #[sl Ag1_0 g1.1 cg1_0, sl Ag1_1 g1.2.1 cg1_1, sl Ag1_2 g1.2.2 cg1_2])⟩, ⟨g57, (e59_3 : a59.eval (.tmp 3) = pt g57 0), (b59_g57 : BlkO o59 58 w59 g57 44 #[Zi p2.1, Zi p2.2])⟩, -⟩ := hf59 [0, 1] rfl
 have hX59 := es_ hE0 hE59
 refine fl_seq (fun Q60 hn60 hp60 => ?_)
 refine rq_seq 20 o59 (bz 1) [dv [] [] 5 (Zi 0)] z59 d59 ?_ ?_
 ·exact sO (or_assign rfl) <| steps_nil
 intro o61 a61 w61 d61 z61 hk61 hf61 hE61
 obtain ⟨e61_2, e61_3⟩ := kt2 hk61 e59_2 e59_3
 have e61_5 := gv (hf61 [0] rfl) rfl
 have hX61 := es_ hX59 hE61
 obtain ⟨b61_g55, b61_g57⟩ := be2 hE61 b59_g55 b59_g57
 refine fl_block (fun Q62 hn62 hx62 hp62 => ?_)
 refine fl_loop (body := (fun s => ref18_Has_b1 g1 p2 s)) (z := r) (show loopO _ _ = _ from hs) (fun (i74 : Int) a wx => ∃ (ox : Own), a.defers = [] ∧ a.tmps.size = 20 ∧ a.eval (.tmp 2) = pt g55 0 ∧ a.eval (.tmp 3) = pt g57 0 ∧ a.eval (.tmp 5) = Zi i74 ∧ Evo [] (fun _ => 0) ox w wx ∧ BlkO ox 56 wx g55 38 #[sl Ag1_0 g1.1 cg1_0, sl Ag1_1 g1.2.1 cg1_1, sl Ag1_2 g1.2.2 cg1_2] ∧ BlkO ox 58 wx g57 44 #[Zi p2.1, Zi p2.2]) ?_ ?_
 ·exact ⟨o61, d61, z61, e61_2, e61_3, e61_5, hX61, b61_g55, b61_g57⟩
 ·rintro i74 zz86 a86 w86 ⟨o86, d87, z87, e87_2, e87_3, e87_5, hE87, b87_g55, b87_g57⟩ hs Q86 hn86 hp86 z86
  have hs : ref18_Has_b1 g1 p2 i74 = some zz86 := hs
  refine fl_seq (fun Q88 hn88 hp88 => ?_)
  refine rq_seq 20 o86 [0, 0, 2, 6, 15] [dv [] [5] 6 (Zi i74), dv [] [2] 7 (pt g55 1), dv [1] [] 8 (sl Ag1_1 g1.2.1 cg1_1), dv [2] [] 9 (Zi (g1.2.1.length : Int)), dv [0, 3] [] 10 (.bool (decide (i74 < (g1.2.1.length : Int))))] z87 d87 ?_ ?_
  ·exact sM e87_5 <| sS (fun s => or_field fo38_1 (s.1.trans e87_2) (by rfl)) <| sG to35 b87_g55 <| sF (fun f => or_len tu35 f.1 rfl) <| sF (fun f => or_lss f.1 f.2.1 rfl) <| steps_nil
  intro o89 a89 w89 d89 z89 hk89 hf89 hE89
  obtain ⟨e89_2, e89_3, e89_5⟩ := kt3 hk89 e87_2 e87_3 e87_5
  have e89_10 := gv (hf89 [4] rfl) rfl
  have hX89 := es_ hE87 hE89
  obtain ⟨b89_g55, b89_g57⟩ := be2 hE89 b87_g55 b87_g57
  refine fl_cond e89_10 hs (fun c90 hs => ?_) (fun c90 hs => ?_)
  ·refine fl_skip ?_
   refine hn88 _ _ ?_
   refine fl_seq (fun Q91 hn91 hp91 => ?_)
   refine fl_block (fun Q92 hn92 hx92 hp92 => ?_)
   obtain ⟨x93, hx93, hs⟩ := obind hs
   refine rd_seq g_mixed 20 [] o89 [] [0, 1, 0, 7, 15, 0, 63] [dv [] [2] 13 (pt g55 1), dv [0] [] 14 (sl Ag1_1 g1.2.1 cg1_1), dv [] [5] 15 (Zi i74), dv [1, 2] [] 16 (.pointer (some ((adr Ag1_1).add ((i74 : Int).toNat * R44.s)))), dv [3] [] 17 (P2 x93), dv [] [3] 18 (P2 p2), dv [4, 5] [] 19 (.bool (decide (x93 = p2)))] z89 d89 nm_ ?_ ?_
   ·exact sS (fun s => or_field fo38_1 (s.1.trans e89_2) (by rfl)) <| sG to35 b89_g55 <| sM e89_5 <| sF (fun f => or_index (R := R44) (l := g1.2.1) tl35 f.1 f.2.1 (RdO.some_ (RdO.evo rfl hX89 hAg1_1) hx93) hx93) <| sFE (fun f hE => or_load (l := E44.f x93) ta44 f.1 (RdO.cells (F := E44) (RdO.evo rfl hE (RdO.evo rfl hX89 hAg1_1)) hx93) rfl) <| sL ta44 e89_3 b89_g57 <| sF (fun f => or_eqlA sg44 f.1 f.2.1 (se44 x93.1 x93.2 p2.1 p2.2 _) rfl) <| steps_nil
   intro o94 a94 w94 d94 z94 hk94 hf94 hE94
   obtain ⟨e94_2, e94_3, e94_5⟩ := kt3 hk94 e89_2 e89_3 e89_5
   have e94_19 := gv (hf94 [6] rfl) rfl
   have hX94 := es_ hX89 hE94
   obtain ⟨b94_g55, b94_g57⟩ := be2 hE94 b89_g55 b89_g57
   refine fl_cond e94_19 hs (fun c95 hs => ?_) (fun c95 hs => ?_)
   ·refine rq_seq 20 o94 (bz 1) [dv [] [] 4 (.bool true)] z94 d94 ?_ ?_
    ·exact sO (or_assign rfl) <| steps_nil
    intro o96 a96 w96 d96 z96 hk96 hf96 hE96
    have e96_4 := gv (hf96 [0] rfl) rfl
    have hX96 := es_ hX94 hE96
    refine fl_ret ?_
    refine hp92 _ _ _ rfl ?_
    refine hp91 _ _ _ rfl ?_
    replace hs := z86 _ hs
    refine hp86 _ _ _ rfl ?_
    refine hp62 _ _ _ rfl ?_
    refine hp60 _ _ _ rfl ?_
    obtain rfl := osome hs
    exact hret _ _ _ _ (.inl rfl) d96 (results1_ rfl (RVal.tmp_ e96_4)) ⟨o96, rfl, hX96⟩
   refine fl_skip ?_
   refine hn92 _ _ ?_
   refine hn91 _ _ ?_
   refine rq 20 o94 (bz 3) [dv [] [5] 11 (Zi i74), dv [0] [] 12 (Zi (ad i74 1)), dv [1] [] 5 (Zi (ad i74 1))] z94 d94 ?_ ?_
   ·exact sM e94_5 <| sF (fun f => or_add f.1 rfl rfl) <| sA <| steps_nil
   intro o97 a97 w97 d97 z97 hk97 hf97 hE97
   obtain ⟨e97_2, e97_3⟩ := kt2 hk97 e94_2 e94_3
   have e97_5 := gv (hf97 [2] rfl) rfl
   have hX97 := es_ hX94 hE97
   obtain ⟨b97_g55, b97_g57⟩ := be2 hE97 b94_g55 b94_g57
   exact hn86 _ _ _ hs ⟨o97, d97, z97, e97_2, e97_3, e97_5, hX97, b97_g55, b97_g57⟩
  refine fl_exit ?_
  refine hp88 _ _ _ rfl ?_
  replace hs := z86 _ hs
  refine hp86 _ _ _ rfl ?_
  refine hx62 _ _ ?_
  refine hn60 _ _ ?_
  refine rq_seq 20 o89 (bz 1) [dv [] [] 4 (.bool false)] z89 d89 ?_ ?_
  ·exact sO (or_assign rfl) <| steps_nil
  intro o98 a98 w98 d98 z98 hk98 hf98 hE98
  have e98_4 := gv (hf98 [0] rfl) rfl
  have hX98 := es_ hX89 hE98
  refine fl_ret ?_
  obtain rfl := osome hs
  exact hret _ _ _ _ (.inl rfl) d98 (results1_ rfl (RVal.tmp_ e98_4)) ⟨o98, rfl, hX98⟩
theorem ref18_joins_w (w : World) (x1 : (Int × Int) × (Int × Int)) (x2 : Int × Int) (b3 : Int × Int) (r : Bool) (hs : ref18_joins x1 x2 b3 = some r) :
  Calls Try.prog 42 #[.agg #[Zi x1.1.1, Zi x1.1.2, Zi x1.2.1, Zi x1.2.2], P2 x2, P2 b3] w fun e w' => ∃ own' : Own, e = .returned (.bool r) ∧ Evo [] (fun _ => 0) own' w w' := by
 refine fl_enter (n := 29) rfl rfl rfl (Nat.le_of_ble_eq_true rfl) ?_
 intro a0 Q d0 z0 harg hret
 have ha0 := harg 0 _ rfl
 have ha1 := harg 1 _ rfl
 have ha2 := harg 2 _ rfl
 clear harg
 have hE0 : Evo [] (fun _ => 0) (fun _ => 0) w w := Evo.refl _ _ _
 refine rq_seq 29 (fun _ => 0) [0, 0, 0, 0] [⟨[], [0], [], Fct.blk 22 3 (fun g => pt g 0) 92 #[Zi x1.1.1, Zi x1.1.2, Zi x1.2.1, Zi x1.2.2]⟩, ⟨[], [1], [], Fct.blk 24 4 (fun g => pt g 0) 44 #[Zi x2.1, Zi x2.2]⟩, ⟨[], [2], [], Fct.blk 26 5 (fun g => pt g 0) 44 #[Zi b3.1, Zi b3.2]⟩, dv [] [] 6 (.bool false)] z0 d0 ?_ ?_
 ·exact sS (fun s => nw1 (s.1.trans ha0)) <| sS (fun s => nw1 (s.1.trans ha1)) <| sS (fun s => nw1 (s.1.trans ha2)) <| sO (or_assign rfl) <| steps_nil
 intro o27 a27 w27 d27 z27 hk27 hf27 hE27
 obtain ⟨⟨g21, (e27_3 : a27.eval (.tmp 3) = pt g21 0), (b27_g21 : BlkO o27 22 w27 g21 92 #[Zi x1.1.1, Zi x1.1.2, Zi x1.2.1, Zi x1.2.2])⟩, ⟨g23, (e27_4 : a27.eval (.tmp 4) = pt g23 0), (b27_g23 : BlkO o27 24 w27 g23 44 #[Zi x2.1, Zi x2.2])⟩, ⟨g25, (e27_5 : a27.eval (.tmp 5) = pt g25 0), (b27_g25 : BlkO o27 26 w27 g25 44 #[Zi b3.1, Zi b3.2])⟩, -⟩ := hf27 [0, 1, 2] rfl
 have hX27 := es_ hE0 hE27
 obtain ⟨x28, hx28, hs⟩ := obind hs
 obtain ⟨x29, hx29, hs⟩ := obind hs
 refine rq_seq 29 o27 [0, 1, 0, 7, 15, 31, 63, 31, 255, 511, 1023, 2047, 4095, 2047, 16383, 32767, 65535, 131071, 65535, 524287, 1048575, 2097151, 4194303] [dv [] [3] 7 (pt g21 0), dv [0] [] 8 (P2 x1.1), dv [] [4] 9 (P2 x2), dv [1, 2] [] 10 (.bool (decide (x1.1 = x2))), dv [3] [] 11 (.bool (decide (x1.1 = x2))), dc [4] [3] (decide (x1.1 = x2)) 12 (pt g21 2), dc [4, 5] [] (decide (x1.1 = x2)) 13 (P2 x1.2), dc [4] [5] (decide (x1.1 = x2)) 14 (P2 b3), dc [4, 6, 7] [] (decide (x1.1 = x2)) 15 (.bool (decide (x1.2 = b3))), dv [4, 8] [] 16 (.bool x28), dv [9] [] 17 (.bool x28), dc [10] [3] (!x28) 18 (pt g21 0), dc [10, 11] [] (!x28) 19 (P2 x1.1), dc [10] [5] (!x28) 20 (P2 b3), dc [10, 12, 13] [] (!x28) 21 (.bool (decide (x1.1 = b3))), dc [10, 14] [] (!x28) 22 (.bool (decide (x1.1 = b3))), dc [15] [3] ((!x28) && (decide (x1.1 = b3))) 23 (pt g21 2), dc [15, 16] [] ((!x28) && (decide (x1.1 = b3))) 24 (P2 x1.2), dc [15] [4] ((!x28) && (decide (x1.1 = b3))) 25 (P2 x2), dc [15, 17, 18] [] ((!x28) && (decide (x1.1 = b3))) 26 (.bool (decide (x1.2 = x2))), dc [10, 15, 19] [] (!x28) 27 (.bool x29), dv [10, 20] [] 28 (.bool (x28 || x29)), dv [21] [] 6 (.bool (x28 || x29))] z27 d27 ?_ ?_
 ·exact sS (fun s => ok1 (s.1.trans e27_3)) <| sFE (fun f hE => ldS ta44 f.1 (be_ hE b27_g21)) <| sL ta44 e27_4 b27_g23 <| sF (fun f => or_eqlA sg44 f.1 f.2.1 (se44 x1.1.1 x1.1.2 x2.1 x2.2 _) rfl) <| sV <| cT (fun _ s _ _ => ok1 (s.1.trans e27_3)) <| cT (fun f _ hE hg => ldS ta44 (f.2.1.1 hg) (be_ hE b27_g21)) <| cTL ta44 e27_5 b27_g25 <| cT (fun f _ _ hg => or_eqlA sg44 (f.2.1.1 hg) (f.2.2.1.1 hg) (se44 x1.2.1 x1.2.2 b3.1 b3.2 _) rfl) <| sF (fun f => or_and f.1 (fun hx => f.2.1.1 hx) rfl (osome hx28).symm) <| sV <| cF (fun _ s _ _ => ok1 (s.1.trans e27_3)) <| cF (fun f _ hE hg => ldS ta44 (f.2.1.1 hg) (be_ hE b27_g21)) <| cFL ta44 e27_5 b27_g25 <| cF (fun f _ _ hg => or_eqlA sg44 (f.2.1.1 hg) (f.2.2.1.1 hg) (se44 x1.1.1 x1.1.2 b3.1 b3.2 _) rfl) <| cF (fun f _ _ hg => or_move (f.2.1.1 hg)) <| cTc (fun _ s _ _ => ok1 (s.1.trans e27_3)) <| cTc (fun f _ hE hg => ldS ta44 (f.2.1.1 hg) (be_ hE b27_g21)) <| cTc (fun _ s hE _ => ldS ta44 (s.1.trans e27_4) (be_ hE b27_g23)) <| cTc (fun f _ _ hg => or_eqlA sg44 (f.2.1.1 hg) (f.2.2.1.1 hg) (se44 x1.2.1 x1.2.2 x2.1 x2.2 _) rfl) <| cF (fun f _ _ hg => or_and (f.2.1.1 hg) (fun hx => f.2.2.1.1 (gI hg hx)) rfl (osome hx29).symm) <| sF (fun f => or_or f.1 rfl (fun hx => f.2.1.1 hx) rfl) <| sA <| steps_nil
 intro o30 a30 w30 d30 z30 hk30 hf30 hE30
 have e30_6 := gv (hf30 [22] rfl) rfl
 have hX30 := es_ hX27 hE30
 refine fl_ret ?_
 obtain rfl := osome hs
 exact hret _ _ _ _ (.inl rfl) d30 (results1_ rfl (RVal.tmp_ e30_6)) ⟨o30, rfl, hX30⟩
theorem ref18_Joined_w (w : World) (g1 : (List Int) × (List (Int × Int)) × (List ((Int × Int) × (Int × Int)))) (Ag1_0 : Option Addr) (cg1_0 : Nat) (Ag1_1 : Option Addr) (cg1_1 : Nat) (Ag1_2 : Option Addr) (cg1_2 : Nat) (x2 : Int × Int) (b3 : Int × Int) (hAg1_0 : RdO (fun _ => 0) [0] w R3 Ag1_0 cg1_0 g1.1) (hAg1_1 : RdO (fun _ => 0) [0] w R44 Ag1_1 cg1_1 g1.2.1) (hAg1_2 : RdO (fun _ => 0) [0] w R92 Ag1_2 cg1_2 g1.2.2) (r : Bool) (hs : ref18_Joined g1 x2 b3 = some r) :
  Calls Try.prog 20 #[.agg #[sl Ag1_0 g1.1 cg1_0, sl Ag1_1 g1.2.1 cg1_1, sl Ag1_2 g1.2.2 cg1_2], P2 x2, P2 b3] w fun e w' => ∃ own' : Own, e = .returned (.bool r) ∧ Evo [] (fun _ => 0) own' w w' := by
 refine fl_enter (n := 23) rfl rfl rfl (Nat.le_of_ble_eq_true rfl) ?_
 intro a0 Q d0 z0 harg hret
 have ha0 := harg 0 _ rfl
 have ha1 := harg 1 _ rfl
 have ha2 := harg 2 _ rfl
 clear harg
 have hE0 : Evo [] (fun _ => 0) (fun _ => 0) w w := Evo.refl _ _ _
 refine rq_seq 23 (fun _ => 0) [0, 0, 0, 0] [⟨[], [0], [], Fct.blk 61 3 (fun g => pt g 0) 38 #[sl Ag1_0 g1.1 cg1_0, sl Ag1_1 g1.2.1 cg1_1, sl Ag1_2 g1.2.2 cg1_2]⟩, ⟨[], [1], [], Fct.blk 63 4 (fun g => pt g 0) 44 #[Zi x2.1, Zi x2.2]⟩, ⟨[], [2], [], Fct.blk 65 5 (fun g => pt g 0) 44 #[Zi b3.1, Zi b3.2]⟩, dv [] [] 6 (.bool false)] z0 d0 ?_ ?_
 ·exact sS (fun s => nw1 (s.1.trans ha0)) <| sS (fun s => nw1 (s.1.trans ha1)) <| sS (fun s => nw1 (s.1.trans ha2)) <| sO (or_assign rfl) <| steps_nil
 intro o66 a66 w66 d66 z66 hk66 hf66 hE66
 obtain ⟨⟨g60, (e66_3 : a66.eval (.tmp 3) = pt g60 0), (b66_g60 : BlkO o66 61 w66 g60 38 #[sl Ag1_0 g1.1 cg1_0, sl Ag1_1 g1.2.1 cg1_1, sl Ag1_2 g1.2.2 cg1_2])⟩, ⟨g62, (e66_4 : a66.eval (.tmp 4) = pt g62 0), (b66_g62 : BlkO o66 63 w66 g62 44 #[Zi x2.1, Zi x2.2])⟩, ⟨g64, (e66_5 : a66.eval (.tmp 5) = pt g64 0), (b66_g64 : BlkO o66 65 w66 g64 44 #[Zi b3.1, Zi b3.2])⟩, -⟩ := hf66 [0, 1, 2] rfl
 have hX66 := es_ hE0 hE66
 refine fl_seq (fun Q67 hn67 hp67 => ?_)
 refine rq_seq 23 o66 (bz 1) [dv [] [] 7 (Zi 0)] z66 d66 ?_ ?_
 ·exact sO (or_assign rfl) <| steps_nil
 intro o68 a68 w68 d68 z68 hk68 hf68 hE68
 obtain ⟨e68_3, e68_4, e68_5⟩ := kt3 hk68 e66_3 e66_4 e66_5
 have e68_7 := gv (hf68 [0] rfl) rfl
 have hX68 := es_ hX66 hE68
 obtain ⟨b68_g60, b68_g62, b68_g64⟩ := be3 hE68 b66_g60 b66_g62 b66_g64
 refine fl_block (fun Q69 hn69 hx69 hp69 => ?_)
 refine fl_loop (body := (fun s => ref18_Joined_b1 g1 x2 b3 s)) (z := r) (show loopO _ _ = _ from hs) (fun (i82 : Int) a wx => ∃ (ox : Own), a.defers = [] ∧ a.tmps.size = 23 ∧ a.eval (.tmp 3) = pt g60 0 ∧ a.eval (.tmp 4) = pt g62 0 ∧ a.eval (.tmp 5) = pt g64 0 ∧ a.eval (.tmp 7) = Zi i82 ∧ Evo [] (fun _ => 0) ox w wx ∧ BlkO ox 61 wx g60 38 #[sl Ag1_0 g1.1 cg1_0, sl Ag1_1 g1.2.1 cg1_1, sl Ag1_2 g1.2.2 cg1_2] ∧ BlkO ox 63 wx g62 44 #[Zi x2.1, Zi x2.2] ∧ BlkO ox 65 wx g64 44 #[Zi b3.1, Zi b3.2]) ?_ ?_
 ·exact ⟨o68, d68, z68, e68_3, e68_4, e68_5, e68_7, hX68, b68_g60, b68_g62, b68_g64⟩
 ·rintro i82 zz95 a95 w95 ⟨o95, d96, z96, e96_3, e96_4, e96_5, e96_7, hE96, b96_g60, b96_g62, b96_g64⟩ hs Q95 hn95 hp95 z95
  have hs : ref18_Joined_b1 g1 x2 b3 i82 = some zz95 := hs
  refine fl_seq (fun Q97 hn97 hp97 => ?_)
  refine rq_seq 23 o95 [0, 0, 2, 6, 15] [dv [] [7] 8 (Zi i82), dv [] [3] 9 (pt g60 2), dv [1] [] 10 (sl Ag1_2 g1.2.2 cg1_2), dv [2] [] 11 (Zi (g1.2.2.length : Int)), dv [0, 3] [] 12 (.bool (decide (i82 < (g1.2.2.length : Int))))] z96 d96 ?_ ?_
  ·exact sM e96_7 <| sS (fun s => or_field fo38_2 (s.1.trans e96_3) (by rfl)) <| sG to36 b96_g60 <| sF (fun f => or_len tu36 f.1 rfl) <| sF (fun f => or_lss f.1 f.2.1 rfl) <| steps_nil
  intro o98 a98 w98 d98 z98 hk98 hf98 hE98
  obtain ⟨e98_3, e98_4, e98_5, e98_7⟩ := kt4 hk98 e96_3 e96_4 e96_5 e96_7
  have e98_12 := gv (hf98 [4] rfl) rfl
  have hX98 := es_ hE96 hE98
  obtain ⟨b98_g60, b98_g62, b98_g64⟩ := be3 hE98 b96_g60 b96_g62 b96_g64
  refine fl_cond e98_12 hs (fun c99 hs => ?_) (fun c99 hs => ?_)
  ·refine fl_skip ?_
   refine hn97 _ _ ?_
   refine fl_seq (fun Q100 hn100 hp100 => ?_)
   refine fl_block (fun Q101 hn101 hx101 hp101 => ?_)
   obtain ⟨x102, hx102, hs⟩ := obind hs
   obtain ⟨r103, hr103, hs⟩ := obind hs
   refine rd_seq g_mixed 23 [] o98 [] [0, 1, 0, 7, 15, 0, 0, 127] [dv [] [3] 15 (pt g60 2), dv [0] [] 16 (sl Ag1_2 g1.2.2 cg1_2), dv [] [7] 17 (Zi i82), dv [1, 2] [] 18 (.pointer (some ((adr Ag1_2).add ((i82 : Int).toNat * R92.s)))), dv [3] [] 19 (.agg #[Zi x102.1.1, Zi x102.1.2, Zi x102.2.1, Zi x102.2.2]), dv [] [4] 20 (P2 x2), dv [] [5] 21 (P2 b3), dv [4, 5, 6] [] 22 (.bool r103)] z98 d98 nm_ ?_ ?_
   ·exact sS (fun s => or_field fo38_2 (s.1.trans e98_3) (by rfl)) <| sG to36 b98_g60 <| sM e98_7 <| sF (fun f => or_index (R := R92) (l := g1.2.2) tl36 f.1 f.2.1 (RdO.some_ (RdO.evo rfl hX98 hAg1_2) hx102) hx102) <| sFE (fun f hE => or_load (l := E92.f x102) ta92 f.1 (RdO.cells (F := E92) (RdO.evo rfl hE (RdO.evo rfl hX98 hAg1_2)) hx102) rfl) <| sL ta44 e98_4 b98_g62 <| sL ta44 e98_5 b98_g64 <| sF (fun f => or_call cf42 (args3 f.1 f.2.1 f.2.2.1) (ref18_joins_w _ x102 x2 b3  r103 hr103) post_val) <| steps_nil
   intro o104 a104 w104 d104 z104 hk104 hf104 hE104
   obtain ⟨e104_3, e104_4, e104_5, e104_7⟩ := kt4 hk104 e98_3 e98_4 e98_5 e98_7
   have e104_22 := gv (hf104 [7] rfl) rfl
   have hX104 := es_ hX98 hE104
   obtain ⟨b104_g60, b104_g62, b104_g64⟩ := be3 hE104 b98_g60 b98_g62 b98_g64
   refine fl_cond e104_22 hs (fun c105 hs => ?_) (fun c105 hs => ?_)
   ·refine rq_seq 23 o104 (bz 1) [dv [] [] 6 (.bool true)] z104 d104 ?_ ?_
    ·exact sO (or_assign rfl) <| steps_nil
    intro o106 a106 w106 d106 z106 hk106 hf106 hE106
    have e106_6 := gv (hf106 [0] rfl) rfl
    have hX106 := es_ hX104 hE106
    refine fl_ret ?_
    refine hp101 _ _ _ rfl ?_
    refine hp100 _ _ _ rfl ?_
    replace hs := z95 _ hs
    refine hp95 _ _ _ rfl ?_
    refine hp69 _ _ _ rfl ?_
    refine hp67 _ _ _ rfl ?_
    obtain rfl := osome hs
    exact hret _ _ _ _ (.inl rfl) d106 (results1_ rfl (RVal.tmp_ e106_6)) ⟨o106, rfl, hX106⟩
   refine fl_skip ?_
   refine hn101 _ _ ?_
   refine hn100 _ _ ?_
   refine rq 23 o104 (bz 3) [dv [] [7] 13 (Zi i82), dv [0] [] 14 (Zi (ad i82 1)), dv [1] [] 7 (Zi (ad i82 1))] z104 d104 ?_ ?_
   ·exact sM e104_7 <| sF (fun f => or_add f.1 rfl rfl) <| sA <| steps_nil
   intro o107 a107 w107 d107 z107 hk107 hf107 hE107
   obtain ⟨e107_3, e107_4, e107_5⟩ := kt3 hk107 e104_3 e104_4 e104_5
   have e107_7 := gv (hf107 [2] rfl) rfl
   have hX107 := es_ hX104 hE107
   obtain ⟨b107_g60, b107_g62, b107_g64⟩ := be3 hE107 b104_g60 b104_g62 b104_g64
   exact hn95 _ _ _ hs ⟨o107, d107, z107, e107_3, e107_4, e107_5, e107_7, hX107, b107_g60, b107_g62, b107_g64⟩
  refine fl_exit ?_
  refine hp97 _ _ _ rfl ?_
  replace hs := z95 _ hs
  refine hp95 _ _ _ rfl ?_
  refine hx69 _ _ ?_
  refine hn67 _ _ ?_
  refine rq_seq 23 o98 (bz 1) [dv [] [] 6 (.bool false)] z98 d98 ?_ ?_
  ·exact sO (or_assign rfl) <| steps_nil
  intro o108 a108 w108 d108 z108 hk108 hf108 hE108
  have e108_6 := gv (hf108 [0] rfl) rfl
  have hX108 := es_ hX98 hE108
  refine fl_ret ?_
  obtain rfl := osome hs
  exact hret _ _ _ _ (.inl rfl) d108 (results1_ rfl (RVal.tmp_ e108_6)) ⟨o108, rfl, hX108⟩
end Go.Proofs.Ytoccfdohlefifaa
