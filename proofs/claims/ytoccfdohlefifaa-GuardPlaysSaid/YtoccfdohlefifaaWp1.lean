import Derived.Test.YtoccfdohlefifaaBase
import Derived.Test.YtoccfdohlefifaaTy
import Derived.Test.YtoccfdohlefifaaSp1
namespace Go.Proofs.Ytoccfdohlefifaa
open Go.RowKit
set_option linter.unusedVariables false
set_option maxRecDepth 10000
theorem exact_within_w (w : World) (n1 : Int) (least2 : Int) (greatest3 : Int) (r : Bool) (hs : exact_within n1 least2 greatest3 = some r) :
  Calls Try.prog 52 #[Zi n1, Zi least2, Zi greatest3] w fun e w' => ∃ own' : Own, e = .returned (.bool r) ∧ Evo [] (fun _ => 0) own' w w' := by
 refine fl_enter (n := 15) rfl rfl rfl (Nat.le_of_ble_eq_true rfl) ?_
 intro a0 Q d0 hz0 harg hret
 have ha0 := harg 0 _ rfl
 have ha1 := harg 1 _ rfl
 have ha2 := harg 2 _ rfl
 clear harg
 have hE0 : Evo [] (fun _ => 0) (fun _ => 0) w w := Evo.refl _ _ _
 refine rq_seq 15 (fun _ => 0) (bz 1) [dv [] [] 6 (.bool false)] hz0 d0 ?_ ?_
 ·exact sO (or_assign rfl) <| steps_nil
 intro o14 a14 w14 d14 hz14 hk14 hf14 hE14
 obtain ⟨e14_0, e14_1, e14_2⟩ := kt3 hk14 ha0 ha1 ha2
 have hX14 := es_ hE0 hE14
 obtain ⟨x15, hx15, hs⟩ := obind hs
 refine rq_seq 15 o14 [0, 0, 3, 7, 15, 15, 63, 127, 255] [dv [] [1] 7 (Zi least2), dv [] [0] 8 (Zi n1), dv [0, 1] [] 9 (.bool (decide (least2 ≤ n1))), dv [2] [] 10 (.bool (decide (least2 ≤ n1))), dc [3] [0] (decide (least2 ≤ n1)) 11 (Zi n1), dc [3] [2] (decide (least2 ≤ n1)) 12 (Zi greatest3), dc [3, 4, 5] [] (decide (least2 ≤ n1)) 13 (.bool (decide (n1 ≤ greatest3))), dv [3, 6] [] 14 (.bool x15), dv [7] [] 6 (.bool x15)] hz14 d14 ?_ ?_
 ·exact sM e14_1 <| sM e14_0 <| sF (fun f => or_leq f.1 f.2.1 rfl) <| sV <| cT (fun _ s _ _ => or_move (s.1.trans e14_0)) <| cT (fun _ s _ _ => or_move (s.1.trans e14_2)) <| cT (fun f _ _ hg => or_leq (f.2.1.1 hg) (f.2.2.1.1 hg) rfl) <| sF (fun f => or_and f.1 (fun hx => f.2.1.1 hx) rfl (osome hx15).symm) <| sA <| steps_nil
 intro o16 a16 w16 d16 hz16 hk16 hf16 hE16
 have e16_6 := gv (hf16 [8] rfl) rfl
 have hX16 := es_ hX14 hE16
 refine fl_ret ?_
 obtain rfl := (osome hs).symm
 exact hret _ _ _ _ (.inl rfl) d16 (results1_ rfl (RVal.tmp_ e16_6)) ⟨o16, rfl, hX16⟩
theorem exact_Right_w (w : World) (l1 : List (Int × Int)) (Al1 : Option Addr) (cl1 : Nat) (hl1 : RdO (fun _ => 0) [0] w R25 Al1 cl1 l1) (r : Bool) (hs : exact_Right l1 = some r) :
  Calls Try.prog 32 #[sl Al1 l1 cl1] w fun e w' => ∃ own' : Own, e = .returned (.bool r) ∧ Evo [] (fun _ => 0) own' w w' := by
 refine fl_enter (n := 22) rfl rfl rfl (Nat.le_of_ble_eq_true rfl) ?_
 intro a0 Q d0 hz0 harg hret
 have ha0 := harg 0 _ rfl
 clear harg
 have hE0 : Evo [] (fun _ => 0) (fun _ => 0) w w := Evo.refl _ _ _
 refine rq_seq 22 (fun _ => 0) (bz 1) [dv [] [] 2 (.bool false)] hz0 d0 ?_ ?_
 ·exact sO (or_assign rfl) <| steps_nil
 intro o69 a69 w69 d69 hz69 hk69 hf69 hE69
 have e69_0 := kt hk69 ha0
 have hX69 := es_ hE0 hE69
 refine fl_seq (fun Q70 hn70 hp70 => ?_)
 refine rq_seq 22 o69 [0, 1, 0] [dv [] [0] 5 (sl Al1 l1 cl1), dv [0] [] 6 (Zi (l1.length : Int)), dv [] [] 7 (Zi 0)] hz69 d69 ?_ ?_
 ·exact sM e69_0 <| sF (fun f => or_len tu55 f.1 rfl) <| sO (or_move rfl) <| steps_nil
 intro o71 a71 w71 d71 hz71 hk71 hf71 hE71
 have e71_5 := gv (hf71 [0] rfl) rfl
 have e71_6 := gv (hf71 [1] rfl) rfl
 have e71_7 := gv (hf71 [2] rfl) rfl
 have hX71 := es_ hX69 hE71
 refine fl_block (fun Q72 hn72 hx72 hp72 => ?_)
 refine fl_loop (body := (fun s => exact_Right_b1 l1 s)) (z := r) (show loopO _ _ = _ from hs) (fun (x90 : Int) a wx => ∃ (ox : Own), a.defers = [] ∧ a.tmps.size = 22 ∧ a.eval (.tmp 5) = sl Al1 l1 cl1 ∧ a.eval (.tmp 6) = Zi (l1.length : Int) ∧ a.eval (.tmp 7) = Zi x90 ∧ Evo [] (fun _ => 0) ox w wx) ?_ ?_
 ·exact ⟨o71, d71, hz71, e71_5, e71_6, e71_7, hX71⟩
 ·rintro x90 zz108 a108 w108 ⟨o108, d109, hz109, e109_5, e109_6, e109_7, hE109⟩ hs Q108 hn108 hp108 hz108
  have hs : exact_Right_b1 l1 x90 = some zz108 := hs
  refine rq_seq 22 o108 (bz 1) [dv [] [7, 6] 8 (.bool (decide (x90 < (l1.length : Int))))] hz109 d109 ?_ ?_
  ·exact sS (fun s => or_lss (s.1.trans e109_7) (s.2.1.trans e109_6) rfl) <| steps_nil
  intro o110 a110 w110 d110 hz110 hk110 hf110 hE110
  obtain ⟨e110_5, e110_6, e110_7⟩ := kt3 hk110 e109_5 e109_6 e109_7
  have e110_8 := gv (hf110 [0] rfl) rfl
  have hX110 := es_ hE109 hE110
  refine fl_seq (fun Q111 hn111 hp111 => ?_)
  refine fl_cond e110_8 hs (fun c112 hs => ?_) (fun c112 hs => ?_)
  ·refine fl_skip ?_
   refine hn111 _ _ ?_
   refine fl_seq (fun Q113 hn113 hp113 => ?_)
   refine fl_block (fun Q114 hn114 hx114 hp114 => ?_)
   obtain ⟨x115, hx115, hs⟩ := obind hs
   refine rp_seq 22 o110 [117] [0, 1, 0, 7] [dv [] [5, 7] 9 (.pointer (some ((adr Al1).add ((x90 : Int).toNat * R25.s)))), dv [0] [] 10 (P2 x115), ⟨[], [], [], Fct.blk 117 4 (fun g => pt g 0) 25 #[Zi 0, Zi 0]⟩, ⟨[2, 1], [], [117], Fct.blk 118 4 (fun g => pt g 0) 25 #[Zi x115.1, Zi x115.2]⟩] hz110 d110 ?_ ?_
   ·refine sS (fun s => or_index (R := R25) (l := l1) tl55 (s.1.trans e110_5) (s.2.1.trans e110_7) (RdO.some_ (RdO.evo rfl hX110 hl1) hx115) hx115) <| sFE (fun f hE => or_load (l := E25.f x115) ta25 f.1 (RdO.cells (F := E25) (RdO.evo rfl hE (RdO.evo rfl hX110 hl1)) hx115) rfl) <| sO (nw0) ?_
    refine sc (fun own a wx hf hsl hE => ?_) ?_
    ·obtain ⟨⟨g116, f_4, b_g116⟩, f_10, -⟩ := hf
     exact px (or_store (l := #[Zi x115.1, Zi x115.2]) (lab := 117) (lab2 := 118) ts25 f_4 f_10 b_g116 (by simp) (by kernel_rfl) (mem_of rfl) (by decide) (by kernel_rfl) (fun own' a' w' ha hb => ⟨_, (ha 4).trans f_4, hb⟩))
    exact steps_nil
   intro o119 a119 w119 d119 hz119 hk119 hf119 hE119
   obtain ⟨e119_5, e119_6, e119_7⟩ := kt3 hk119 e110_5 e110_6 e110_7
   obtain ⟨⟨g116, (e119_4 : a119.eval (.tmp 4) = pt g116 0), (b119_g116 : BlkO o119 118 w119 g116 25 #[Zi x115.1, Zi x115.2])⟩, -⟩ := hf119 [3] rfl
   have hX119 := es_ hX110 hE119
   obtain ⟨r120, hr120, hs⟩ := obind hs
   obtain ⟨r121, hr121, hs⟩ := obind hs
   refine rq_seq 22 o119 (bz 10) [dv [] [4] 11 (pt g116 0), dv [0] [] 12 (Zi x115.1), dv [1] [] 13 (.bool r120), dv [2] [] 14 (.bool (!r120)), dv [3] [] 15 (.bool (!r120)), dc [4] [4] (!(!r120)) 16 (pt g116 1), dc [4, 5] [] (!(!r120)) 17 (Zi x115.2), dc [4, 6] [] (!(!r120)) 18 (.bool r121), dc [4, 7] [] (!(!r120)) 19 (.bool (!r121)), dv [4, 8] [] 20 (.bool ((!r120) || (!r121)))] hz119 d119 ?_ ?_
   ·exact sS (fun s => or_field fo25_0 (s.1.trans e119_4) (by rfl)) <| sG to3 b119_g116 <| sF (fun f => or_call cf52 (args3 f.1 rfl rfl) (exact_within_w _ x115.1 (-16777216) 16777216  r120 hr120) post_val) <| sF (fun f => or_not f.1 rfl) <| sV <| cF (fun _ s _ _ => or_field fo25_1 (s.1.trans e119_4) (by rfl)) <| cF (fun f _ hE hg => ld1 to3 (f.2.1.1 hg) (be_ hE b119_g116)) <| cF (fun f _ _ hg => or_call cf52 (args3 (f.2.1.1 hg) rfl rfl) (exact_within_w _ x115.2 (-16777216) 16777216  r121 (gd_t hr121 hg)) post_val) <| cF (fun f _ _ hg => or_not (f.2.1.1 hg) rfl) <| sF (fun f => or_or f.1 rfl (fun hx => f.2.1.1 hx) rfl) <| steps_nil
   intro o122 a122 w122 d122 hz122 hk122 hf122 hE122
   obtain ⟨e122_5, e122_6, e122_7⟩ := kt3 hk122 e119_5 e119_6 e119_7
   have e122_20 := gv (hf122 [9] rfl) rfl
   have hX122 := es_ hX119 hE122
   refine fl_cond e122_20 hs (fun c123 hs => ?_) (fun c123 hs => ?_)
   ·refine rq_seq 22 o122 (bz 1) [dv [] [] 2 (.bool false)] hz122 d122 ?_ ?_
    ·exact sO (or_assign rfl) <| steps_nil
    intro o124 a124 w124 d124 hz124 hk124 hf124 hE124
    have e124_2 := gv (hf124 [0] rfl) rfl
    have hX124 := es_ hX122 hE124
    refine fl_ret ?_
    refine hp114 _ _ _ rfl ?_
    refine hp113 _ _ _ rfl ?_
    replace hs := hz108 _ hs
    refine hp108 _ _ _ rfl ?_
    refine hp72 _ _ _ rfl ?_
    refine hp70 _ _ _ rfl ?_
    obtain rfl := osome hs
    exact hret _ _ _ _ (.inl rfl) d124 (results1_ rfl (RVal.tmp_ e124_2)) ⟨o124, rfl, hX124⟩
   refine fl_skip ?_
   refine hn114 _ _ ?_
   refine hn113 _ _ ?_
   refine rq 22 o122 (bz 2) [dv [] [7] 21 (Zi (ad x90 1)), dv [0] [] 7 (Zi (ad x90 1))] hz122 d122 ?_ ?_
   ·exact sS (fun s => or_add (s.1.trans e122_7) rfl rfl) <| sV <| steps_nil
   intro o125 a125 w125 d125 hz125 hk125 hf125 hE125
   obtain ⟨e125_5, e125_6⟩ := kt2 hk125 e122_5 e122_6
   have e125_7 := gv (hf125 [1] rfl) rfl
   have hX125 := es_ hX122 hE125
   exact hn108 _ _ _ hs ⟨o125, d125, hz125, e125_5, e125_6, e125_7, hX125⟩
  refine fl_exit ?_
  refine hp111 _ _ _ rfl ?_
  replace hs := hz108 _ hs
  refine hp108 _ _ _ rfl ?_
  refine hx72 _ _ ?_
  refine hn70 _ _ ?_
  refine rq_seq 22 o110 (bz 1) [dv [] [] 2 (.bool true)] hz110 d110 ?_ ?_
  ·exact sO (or_assign rfl) <| steps_nil
  intro o126 a126 w126 d126 hz126 hk126 hf126 hE126
  have e126_2 := gv (hf126 [0] rfl) rfl
  have hX126 := es_ hX110 hE126
  refine fl_ret ?_
  obtain rfl := osome hs
  exact hret _ _ _ _ (.inl rfl) d126 (results1_ rfl (RVal.tmp_ e126_2)) ⟨o126, rfl, hX126⟩
theorem rows_Right_w (w : World) (b1 : (Int × Int) × (Int × Int)) (r : Bool) (hs : rows_Right b1 = some r) :
  Calls Try.prog 48 #[.agg #[Zi b1.1.1, Zi b1.1.2, Zi b1.2.1, Zi b1.2.2]] w fun e w' => ∃ own' : Own, e = .returned (.bool r) ∧ Evo [] (fun _ => 0) own' w w' := by
 refine fl_enter (n := 27) rfl rfl rfl (Nat.le_of_ble_eq_true rfl) ?_
 intro a0 Q d0 hz0 harg hret
 have ha0 := harg 0 _ rfl
 clear harg
 have hE0 : Evo [] (fun _ => 0) (fun _ => 0) w w := Evo.refl _ _ _
 refine rq_seq 27 (fun _ => 0) [0, 0] [⟨[], [0], [], Fct.blk 20 1 (fun g => pt g 0) 80 #[Zi b1.1.1, Zi b1.1.2, Zi b1.2.1, Zi b1.2.2]⟩, dv [] [] 2 (.bool false)] hz0 d0 ?_ ?_
 ·exact sS (fun s => nw1 (s.1.trans ha0)) <| sO (or_assign rfl) <| steps_nil
 intro o21 a21 w21 d21 hz21 hk21 hf21 hE21
 obtain ⟨⟨g19, (e21_1 : a21.eval (.tmp 1) = pt g19 0), (b21_g19 : BlkO o21 20 w21 g19 80 #[Zi b1.1.1, Zi b1.1.2, Zi b1.2.1, Zi b1.2.2])⟩, -⟩ := hf21 [0] rfl
 have hX21 := es_ hE0 hE21
 obtain ⟨r24, hr24, hs⟩ := obind hs
 obtain ⟨x25, hx25, hs⟩ := obind hs
 refine rq_seq 27 o21 [0, 1, 0, 4, 15, 31, 63, 127, 255, 511, 127, 1151, 3199, 8191, 16383, 32767, 65535, 131071, 262143, 65535, 589823, 1638399, 4194303, 8388607, 16777215] [dv [] [1] 3 (pt g19 0), dv [0] [] 4 (P2 b1.1), dv [] [1] 5 (pt g19 2), dv [2] [] 6 (P2 b1.2), ⟨[1, 3], [], [], Fct.row 23 [] 7 25 R25 [b1.1, b1.2]⟩, dv [4] [] 8 (.bool r24), dv [5] [] 9 (.bool r24), dc [6] [1] r24 10 (pt g19 0), dc [6, 7] [] r24 11 (pt g19 0), dc [6, 8] [] r24 12 (Zi b1.1.1), dc [6] [1] r24 13 (pt g19 2), dc [6, 10] [] r24 14 (pt g19 2), dc [6, 11] [] r24 15 (Zi b1.2.1), dc [6, 9, 12] [] r24 16 (.bool (decide (b1.1.1 ≤ b1.2.1))), dv [6, 13] [] 17 (.bool (r24 && (decide (b1.1.1 ≤ b1.2.1)))), dv [14] [] 18 (.bool (r24 && (decide (b1.1.1 ≤ b1.2.1)))), dc [15] [1] (r24 && (decide (b1.1.1 ≤ b1.2.1))) 19 (pt g19 0), dc [15, 16] [] (r24 && (decide (b1.1.1 ≤ b1.2.1))) 20 (pt g19 1), dc [15, 17] [] (r24 && (decide (b1.1.1 ≤ b1.2.1))) 21 (Zi b1.1.2), dc [15] [1] (r24 && (decide (b1.1.1 ≤ b1.2.1))) 22 (pt g19 2), dc [15, 19] [] (r24 && (decide (b1.1.1 ≤ b1.2.1))) 23 (pt g19 3), dc [15, 20] [] (r24 && (decide (b1.1.1 ≤ b1.2.1))) 24 (Zi b1.2.2), dc [15, 18, 21] [] (r24 && (decide (b1.1.1 ≤ b1.2.1))) 25 (.bool (decide (b1.1.2 ≤ b1.2.2))), dv [15, 22] [] 26 (.bool x25), dv [23] [] 2 (.bool x25)] hz21 d21 ?_ ?_
 ·refine sS (fun s => or_field fo80_0 (s.1.trans e21_1) (by rfl)) <| sFE (fun f hE => ldS ta25 f.1 (be_ hE b21_g19)) <| sS (fun s => or_field fo80_1 (s.1.trans e21_1) (by rfl)) <| sFE (fun f hE => ldS ta25 f.1 (be_ hE b21_g19)) <| sF (fun f => or_lit (lab := 23) (e := 25) (cs := #[Zi b1.1.1, Zi b1.1.2, Zi b1.2.1, Zi b1.2.2]) (F := E25) (nw2 f.1 f.2.1) rfl rfl (show 2 ≤ maxLen by decide)) ?_
  refine sc (fun own a wx hf hsl hE => ?_) ?_
  ·obtain ⟨⟨⟨A22, cA22⟩, f_7, b_A22⟩, -⟩ := hf
   exact px (or_call cf32 (args1 f_7) (exact_Right_w _ [b1.1, b1.2] A22 cA22 (RdO.zero (RwO.rd b_A22)) r24 hr24) post_val)
  exact sV <| cT (fun _ s _ _ => or_field fo80_0 (s.1.trans e21_1) (by rfl)) <| cT (fun f _ _ hg => or_field fo25_0 (f.2.1.1 hg) (by rfl)) <| cT (fun f _ hE hg => ld1 to3 (f.2.1.1 hg) (be_ hE b21_g19)) <| cT (fun _ s _ _ => or_field fo80_1 (s.1.trans e21_1) (by rfl)) <| cT (fun f _ _ hg => or_field fo25_0 (f.2.1.1 hg) (by rfl)) <| cT (fun f _ hE hg => ld1 to3 (f.2.1.1 hg) (be_ hE b21_g19)) <| cT (fun f _ _ hg => or_leq (f.2.1.1 hg) (f.2.2.1.1 hg) rfl) <| sF (fun f => or_and f.1 (fun hx => f.2.1.1 hx) rfl rfl) <| sV <| cT (fun _ s _ _ => or_field fo80_0 (s.1.trans e21_1) (by rfl)) <| cT (fun f _ _ hg => or_field fo25_1 (f.2.1.1 hg) (by rfl)) <| cT (fun f _ hE hg => ld1 to3 (f.2.1.1 hg) (be_ hE b21_g19)) <| cT (fun _ s _ _ => or_field fo80_1 (s.1.trans e21_1) (by rfl)) <| cT (fun f _ _ hg => or_field fo25_1 (f.2.1.1 hg) (by rfl)) <| cT (fun f _ hE hg => ld1 to3 (f.2.1.1 hg) (be_ hE b21_g19)) <| cT (fun f _ _ hg => or_leq (f.2.1.1 hg) (f.2.2.1.1 hg) rfl) <| sF (fun f => or_and f.1 (fun hx => f.2.1.1 hx) rfl (osome hx25).symm) <| sA <| steps_nil
 intro o26 a26 w26 d26 hz26 hk26 hf26 hE26
 have e26_2 := gv (hf26 [24] rfl) rfl
 have hX26 := es_ hX21 hE26
 refine fl_ret ?_
 obtain rfl := (osome hs).symm
 exact hret _ _ _ _ (.inl rfl) d26 (results1_ rfl (RVal.tmp_ e26_2)) ⟨o26, rfl, hX26⟩
theorem rows_great_w (w : World) (b1 : (Int × Int) × (Int × Int)) (r : Bool) (hs : rows_great b1 = some r) :
  Calls Try.prog 49 #[.agg #[Zi b1.1.1, Zi b1.1.2, Zi b1.2.1, Zi b1.2.2]] w fun e w' => ∃ own' : Own, e = .returned (.bool r) ∧ Evo [] (fun _ => 0) own' w w' := by
 refine fl_enter (n := 25) rfl rfl rfl (Nat.le_of_ble_eq_true rfl) ?_
 intro a0 Q d0 hz0 harg hret
 have ha0 := harg 0 _ rfl
 clear harg
 have hE0 : Evo [] (fun _ => 0) (fun _ => 0) w w := Evo.refl _ _ _
 refine rq_seq 25 (fun _ => 0) [0, 0] [⟨[], [0], [], Fct.blk 21 1 (fun g => pt g 0) 80 #[Zi b1.1.1, Zi b1.1.2, Zi b1.2.1, Zi b1.2.2]⟩, dv [] [] 2 (.bool false)] hz0 d0 ?_ ?_
 ·exact sS (fun s => nw1 (s.1.trans ha0)) <| sO (or_assign rfl) <| steps_nil
 intro o22 a22 w22 d22 hz22 hk22 hf22 hE22
 obtain ⟨⟨g20, (e22_1 : a22.eval (.tmp 1) = pt g20 0), (b22_g20 : BlkO o22 21 w22 g20 80 #[Zi b1.1.1, Zi b1.1.2, Zi b1.2.1, Zi b1.2.2])⟩, -⟩ := hf22 [0] rfl
 have hX22 := es_ hE0 hE22
 obtain ⟨x23, hx23, hs⟩ := obind hs
 obtain ⟨x24, hx24, hs⟩ := obind hs
 obtain ⟨x25, hx25, hs⟩ := obind hs
 obtain ⟨x26, hx26, hs⟩ := obind hs
 obtain ⟨x27, hx27, hs⟩ := obind hs
 refine rq_seq 25 o22 [0, 1, 3, 7, 0, 16, 48, 112, 255, 511, 0, 1024, 3072, 7168, 0, 16384, 49152, 114688, 261120, 523264, 1048575, 2097151, 4194303] [dv [] [1] 3 (pt g20 2), dv [0] [] 4 (pt g20 2), dv [1] [] 5 (Zi b1.2.1), dv [2] [] 6 (Zi x23), dv [] [1] 7 (pt g20 0), dv [4] [] 8 (pt g20 0), dv [5] [] 9 (Zi b1.1.1), dv [6] [] 10 (Zi x24), dv [3, 7] [] 11 (Zi (sb x23 x24)), dv [8] [] 12 (Zi (ad (sb x23 x24) 1)), dv [] [1] 13 (pt g20 2), dv [10] [] 14 (pt g20 3), dv [11] [] 15 (Zi b1.2.2), dv [12] [] 16 (Zi x25), dv [] [1] 17 (pt g20 0), dv [14] [] 18 (pt g20 1), dv [15] [] 19 (Zi b1.1.2), dv [16] [] 20 (Zi x26), dv [13, 17] [] 21 (Zi (sb x25 x26)), dv [18] [] 22 (Zi (ad (sb x25 x26) 1)), dv [9, 19] [] 23 (Zi x27), dv [20] [] 24 (.bool (decide (64 < x27))), dv [21] [] 2 (.bool (decide (64 < x27)))] hz22 d22 ?_ ?_
 ·exact sS (fun s => or_field fo80_1 (s.1.trans e22_1) (by rfl)) <| sF (fun f => or_field fo25_0 f.1 (by rfl)) <| sG to3 b22_g20 <| sF (fun f => or_shr f.1 rfl hx23) <| sS (fun s => or_field fo80_0 (s.1.trans e22_1) (by rfl)) <| sF (fun f => or_field fo25_0 f.1 (by rfl)) <| sG to3 b22_g20 <| sF (fun f => or_shr f.1 rfl hx24) <| sF (fun f => or_sub f.1 f.2.1 rfl) <| sF (fun f => or_add f.1 rfl rfl) <| sS (fun s => or_field fo80_1 (s.1.trans e22_1) (by rfl)) <| sF (fun f => or_field fo25_1 f.1 (by rfl)) <| sG to3 b22_g20 <| sF (fun f => or_shr f.1 rfl hx25) <| sS (fun s => or_field fo80_0 (s.1.trans e22_1) (by rfl)) <| sF (fun f => or_field fo25_1 f.1 (by rfl)) <| sG to3 b22_g20 <| sF (fun f => or_shr f.1 rfl hx26) <| sF (fun f => or_sub f.1 f.2.1 rfl) <| sF (fun f => or_add f.1 rfl rfl) <| sF (fun f => or_mul f.1 f.2.1 (osome hx27).symm) <| sF (fun f => or_gtr f.1 rfl rfl) <| sA <| steps_nil
 intro o28 a28 w28 d28 hz28 hk28 hf28 hE28
 have e28_2 := gv (hf28 [22] rfl) rfl
 have hX28 := es_ hX22 hE28
 refine fl_ret ?_
 obtain rfl := osome hs
 exact hret _ _ _ _ (.inl rfl) d28 (results1_ rfl (RVal.tmp_ e28_2)) ⟨o28, rfl, hX28⟩
theorem rows_fields_w (w : World) (b1 : (Int × Int) × (Int × Int)) (r : Unit) (hs : rows_fields b1 = some r) :
  Calls Try.prog 50 #[.agg #[Zi b1.1.1, Zi b1.1.2, Zi b1.2.1, Zi b1.2.2]] w fun e w' => ∃ (own' : Own) (x : Option Addr × Nat), e = .returned (.func (.func 64) #[] #[.pointer (some ⟨x.2, 0, none⟩)]) ∧ Evo [] (fun _ => 0) own' w w' ∧ BlkO own' 1 w' x.2 80 #[Zi b1.1.1, Zi b1.1.2, Zi b1.2.1, Zi b1.2.2] := by
 refine fl_enter (n := 4) rfl rfl rfl (Nat.le_of_ble_eq_true rfl) ?_
 intro a0 Q d0 hz0 harg hret
 have ha0 := harg 0 _ rfl
 clear harg
 have hE0 : Evo [] (fun _ => 0) (fun _ => 0) w w := Evo.refl _ _ _
 refine rq_seq 4 (fun _ => 0) [0, 0] [⟨[], [0], [], Fct.blk 16 1 (fun g => pt g 0) 80 #[Zi b1.1.1, Zi b1.1.2, Zi b1.2.1, Zi b1.2.2]⟩, dv [] [] 2 (.nilFunc)] hz0 d0 ?_ ?_
 ·exact sS (fun s => nw1 (s.1.trans ha0)) <| sO (or_assign rfl) <| steps_nil
 intro o17 a17 w17 d17 hz17 hk17 hf17 hE17
 obtain ⟨⟨g15, (e17_1 : a17.eval (.tmp 1) = pt g15 0), (b17_g15 : BlkO o17 16 w17 g15 80 #[Zi b1.1.1, Zi b1.1.2, Zi b1.2.1, Zi b1.2.2])⟩, -⟩ := hf17 [0] rfl
 have hX17 := es_ hE0 hE17
 refine rq_seq 4 o17 (bz 2) [dv [] [1] 3 (.func (.func 64) #[] #[pt g15 0]), dv [0] [] 2 (.func (.func 64) #[] #[pt g15 0])] hz17 d17 ?_ ?_
 ·exact sS (fun s => ok1 (s.1.trans e17_1)) <| sA <| steps_nil
 intro o18 a18 w18 d18 hz18 hk18 hf18 hE18
 have e18_2 := gv (hf18 [1] rfl) rfl
 have hX18 := es_ hX17 hE18
 have b18_g15 := be_ hE18 b17_g15
 refine fl_ret ?_
 obtain rfl := osome hs
 exact hret _ _ _ _ (.inl rfl) d18 (results1_ rfl (RVal.tmp_ e18_2)) ⟨(rl [(16, 1)] o18), (none, g15), rfl, (Evo.rl_ hX18 (fun _ => Nat.le_refl 0) rfl), (BlkO.rl_ b18_g15)⟩
theorem rows_fields_1_w (w : World) (own : Own) (Sx : Type) (yy : Sx → ((Int × Int)) → Option (Bool × Sx)) (Jx : Sq Sx) (lx : Nat) (sx0 : Sx) (f1 : (Int × Int) × (Int × Int)) (gf1 : Nat) (tf1 : TypeId) (hown : ∀ b, own b ≤ 1) (hYx : Rounds Try.prog lx (fun (x : (Int × Int)) => #[P2 x]) yy Jx) (hJx : SqO Jx own 1 w sx0) (hgf1 : BlkO own 0 w gf1 tf1 #[Zi f1.1.1, Zi f1.1.2, Zi f1.2.1, Zi f1.2.2]) (r : Sx) (hs : rows_fields_1 Sx yy sx0 f1 = some r) :
  Calls Try.prog 64 #[.func (.yield lx) #[] #[], pt gf1 0] w fun e w' => ∃ (own' : Own), e = .returned (.tuple #[]) ∧ Evo [1] own own' w w' ∧ SqO Jx own' 1 w' r := by
 refine fl_enter (n := 35) rfl rfl rfl (Nat.le_of_ble_eq_true rfl) ?_
 intro a0 Q d0 hz0 harg hret
 have ha0 := harg 0 _ rfl
 have ha1 := harg 1 _ rfl
 clear harg
 have hE0 : Evo [1] own own w w := Evo.refl _ _ _
 obtain ⟨x172, hx172, hs⟩ := obind hs
 refine rq_seq 35 own (bz 5) [dv [] [1] 5 (pt gf1 0), dv [0] [] 6 (pt gf1 0), dv [1] [] 7 (Zi f1.1.1), dv [2] [] 8 (Zi x172), dv [3] [] 3 (Zi x172)] hz0 d0 ?_ ?_
 ·exact sS (fun s => or_field fo80_0 (s.1.trans ha1) (by rfl)) <| sF (fun f => or_field fo25_0 f.1 (by rfl)) <| sG to3 hgf1 <| sF (fun f => or_shr f.1 rfl hx172) <| sA <| steps_nil
 intro o173 a173 w173 d173 hz173 hk173 hf173 hE173
 obtain ⟨e173_0, e173_1⟩ := kt2 hk173 ha0 ha1
 have e173_3 := gv (hf173 [4] rfl) rfl
 have hX173 := Evo.step hE0 hown hE173 rfl
 have b173_Jx := SqO.evo (by decide) hE173 hJx
 refine fl_block (fun Q174 hn174 hx174 hp174 => ?_)
 refine fl_loop (body := (fun s => rows_fields_1_b1 Sx yy f1 s.1 s.2)) (z := r) (show loopO _ _ = _ from hs) (fun (s : Int × Sx) a wx => match s with | (i226, sx227) => ∃ (ox : Own), a.defers = [] ∧ a.tmps.size = 35 ∧ a.eval (.tmp 0) = .func (.yield lx) #[] #[] ∧ a.eval (.tmp 1) = pt gf1 0 ∧ a.eval (.tmp 3) = Zi i226 ∧ Evo [1] own ox w wx ∧ SqO Jx ox 228 wx sx227) ?_ ?_
 ·exact ⟨(rl [(1, 228)] o173), d173, hz173, e173_0, e173_1, e173_3, (Evo.rl_ hX173 hown rfl), (SqO.rl_ b173_Jx rfl (by decide))⟩
 ·rintro ⟨i226, sx227⟩ zz280 a280 w280 ⟨o280, d281, hz281, e281_0, e281_1, e281_3, hE281, b281_Jx⟩ hs Q280 hn280 hp280 hz280
  have hs : rows_fields_1_b1 Sx yy f1 i226 sx227 = some zz280 := hs
  refine fl_seq (fun Q282 hn282 hp282 => ?_)
  obtain ⟨x283, hx283, hs⟩ := obind hs
  refine rq_seq 35 o280 [0, 0, 2, 6, 14, 31] [dv [] [3] 9 (Zi i226), dv [] [1] 10 (pt gf1 2), dv [1] [] 11 (pt gf1 2), dv [2] [] 12 (Zi f1.2.1), dv [3] [] 13 (Zi x283), dv [0, 4] [] 14 (.bool (decide (i226 ≤ x283)))] hz281 d281 ?_ ?_
  ·exact sM e281_3 <| sS (fun s => or_field fo80_1 (s.1.trans e281_1) (by rfl)) <| sF (fun f => or_field fo25_0 f.1 (by rfl)) <| sG to3 (be_ hE281 hgf1) <| sF (fun f => or_shr f.1 rfl hx283) <| sF (fun f => or_leq f.1 f.2.1 rfl) <| steps_nil
  intro o284 a284 w284 d284 hz284 hk284 hf284 hE284
  obtain ⟨e284_0, e284_1, e284_3⟩ := kt3 hk284 e281_0 e281_1 e281_3
  have e284_14 := gv (hf284 [5] rfl) rfl
  have hX284 := Evo.step hE281 hown hE284 rfl
  have b284_Jx := SqO.evo (by decide) hE284 b281_Jx
  refine fl_cond e284_14 hs (fun c285 hs => ?_) (fun c285 hs => ?_)
  ·refine fl_skip ?_
   refine hn282 _ _ ?_
   refine fl_seq (fun Q286 hn286 hp286 => ?_)
   refine fl_block (fun Q287 hn287 hx287 hp287 => ?_)
   obtain ⟨x288, hx288, hs⟩ := obind hs
   refine rq_seq 35 o284 (bz 5) [dv [] [1] 17 (pt gf1 0), dv [0] [] 18 (pt gf1 1), dv [1] [] 19 (Zi f1.1.2), dv [2] [] 20 (Zi x288), dv [3] [] 4 (Zi x288)] hz284 d284 ?_ ?_
   ·exact sS (fun s => or_field fo80_0 (s.1.trans e284_1) (by rfl)) <| sF (fun f => or_field fo25_1 f.1 (by rfl)) <| sG to3 (be_ hX284 hgf1) <| sF (fun f => or_shr f.1 rfl hx288) <| sA <| steps_nil
   intro o289 a289 w289 d289 hz289 hk289 hf289 hE289
   obtain ⟨e289_0, e289_1, e289_3⟩ := kt3 hk289 e284_0 e284_1 e284_3
   have e289_4 := gv (hf289 [4] rfl) rfl
   have hX289 := Evo.step hX284 hown hE289 rfl
   have b289_Jx := SqO.evo (by decide) hE289 b284_Jx
   refine fl_block (fun Q290 hn290 hx290 hp290 => ?_)
   refine fl_loop (body := (fun s => rows_fields_1_b2 Sx yy f1 i226 s.1 s.2)) (z := zz280) (show loopO _ _ = _ from hs) (fun (s : Int × Sx) a wx => match s with | (k303, sx304) => ∃ (ox : Own), a.defers = [] ∧ a.tmps.size = 35 ∧ a.eval (.tmp 0) = .func (.yield lx) #[] #[] ∧ a.eval (.tmp 1) = pt gf1 0 ∧ a.eval (.tmp 3) = Zi i226 ∧ a.eval (.tmp 4) = Zi k303 ∧ Evo [1] own ox w wx ∧ SqO Jx ox 305 wx sx304) ?_ ?_
   ·exact ⟨(rl [(228, 305)] o289), d289, hz289, e289_0, e289_1, e289_3, e289_4, (Evo.rl_ hX289 hown rfl), (SqO.rl_ b289_Jx rfl (by decide))⟩
   ·rintro ⟨k303, sx304⟩ zz318 a318 w318 ⟨o318, d319, hz319, e319_0, e319_1, e319_3, e319_4, hE319, b319_Jx⟩ hs Q318 hn318 hp318 hz318
    have hs : rows_fields_1_b2 Sx yy f1 i226 k303 sx304 = some zz318 := hs
    refine fl_seq (fun Q320 hn320 hp320 => ?_)
    obtain ⟨x321, hx321, hs⟩ := obind hs
    refine rq_seq 35 o318 [0, 0, 2, 6, 14, 31] [dv [] [4] 21 (Zi k303), dv [] [1] 22 (pt gf1 2), dv [1] [] 23 (pt gf1 3), dv [2] [] 24 (Zi f1.2.2), dv [3] [] 25 (Zi x321), dv [0, 4] [] 26 (.bool (decide (k303 ≤ x321)))] hz319 d319 ?_ ?_
    ·exact sM e319_4 <| sS (fun s => or_field fo80_1 (s.1.trans e319_1) (by rfl)) <| sF (fun f => or_field fo25_1 f.1 (by rfl)) <| sG to3 (be_ hE319 hgf1) <| sF (fun f => or_shr f.1 rfl hx321) <| sF (fun f => or_leq f.1 f.2.1 rfl) <| steps_nil
    intro o322 a322 w322 d322 hz322 hk322 hf322 hE322
    obtain ⟨e322_0, e322_1, e322_3, e322_4⟩ := kt4 hk322 e319_0 e319_1 e319_3 e319_4
    have e322_26 := gv (hf322 [5] rfl) rfl
    have hX322 := Evo.step hE319 hown hE322 rfl
    have b322_Jx := SqO.evo (by decide) hE322 b319_Jx
    refine fl_cond e322_26 hs (fun c323 hs => ?_) (fun c323 hs => ?_)
    ·refine fl_skip ?_
     refine hn320 _ _ ?_
     refine fl_seq (fun Q324 hn324 hp324 => ?_)
     refine fl_block (fun Q325 hn325 hx325 hp325 => ?_)
     obtain ⟨z326, hz326, hs⟩ := obind hs
     refine rr_seq 35 [Fct.seqAt Jx 305 sx304] o322 [305] [0, 0, 0, 6, 15, 31] [dv [] [0] 29 (.func (.yield lx) #[] #[]), dv [] [3] 30 (Zi i226), dv [] [4] 31 (Zi k303), dv [1, 2] [] 32 (.agg #[Zi i226, Zi k303]), ⟨[0, 3, 6], [], [305], Fct.seq Jx 327 33 z326.1 z326.2⟩, dv [4] [] 34 (.bool (!z326.1))] hz322 d322 (fm1 b322_Jx) ?_ ?_
     ·refine sM e322_0 <| sM e322_3 <| sM e322_4 <| sF (fun f => ok2 f.1 f.2.1) ?_
      refine sc (fun own a wx hf hsl hE => ?_) ?_
      ·obtain ⟨f_29, f_32, b_Jx, -⟩ := hf
       exact sg_plainF rfl (or_yield (x := (i226, k303)) (lab := 305) (lab2 := 327) f_29 (args1 f_32) hYx b_Jx hz326 (mem_of rfl) (by decide))
      refine sc (fun own a wx hf hsl hE => ?_) ?_
      ·obtain ⟨⟨f_33, b_Jx⟩, -⟩ := hf
       exact px (or_not f_33 rfl)
      exact steps_nil
     intro o328 a328 w328 d328 hz328 hk328 hf328 hE328
     obtain ⟨e328_0, e328_1, e328_3, e328_4⟩ := kt4 hk328 e322_0 e322_1 e322_3 e322_4
     have e328_34 := gv (hf328 [5] rfl) rfl
     obtain ⟨⟨(f_33 : a328.eval (.tmp 33) = .bool z326.1), (b328_Jx : SqO Jx o328 327 w328 z326.2)⟩, -⟩ := hf328 [4] rfl
     have hX328 := Evo.step hX322 hown hE328 rfl
     refine fl_cond e328_34 hs (fun c329 hs => ?_) (fun c329 hs => ?_)
     ·refine fl_ret ?_
      refine hp325 _ _ _ rfl ?_
      refine hp324 _ _ _ rfl ?_
      replace hs := hz318 _ hs
      refine hp318 _ _ _ rfl ?_
      refine hp290 _ _ _ rfl ?_
      refine hp287 _ _ _ rfl ?_
      refine hp286 _ _ _ rfl ?_
      replace hs := hz280 _ hs
      refine hp280 _ _ _ rfl ?_
      refine hp174 _ _ _ rfl ?_
      obtain rfl := osome hs
      exact hret _ _ _ _ (.inl rfl) d328 (results0_ rfl ) ⟨(rl [(327, 1)] o328), rfl, (Evo.rl_ hX328 hown rfl), (SqO.rl_ b328_Jx rfl (by decide))⟩
     refine fl_skip ?_
     refine hn325 _ _ ?_
     refine hn324 _ _ ?_
     refine rq 35 o328 (bz 3) [dv [] [4] 27 (Zi k303), dv [0] [] 28 (Zi (ad k303 1)), dv [1] [] 4 (Zi (ad k303 1))] hz328 d328 ?_ ?_
     ·exact sM e328_4 <| sF (fun f => or_add f.1 rfl rfl) <| sA <| steps_nil
     intro o330 a330 w330 d330 hz330 hk330 hf330 hE330
     obtain ⟨e330_0, e330_1, e330_3⟩ := kt3 hk330 e328_0 e328_1 e328_3
     have e330_4 := gv (hf330 [2] rfl) rfl
     have hX330 := Evo.step hX328 hown hE330 rfl
     have b330_Jx := SqO.evo (by decide) hE330 b328_Jx
     exact hn318 _ _ _ hs ⟨(rl [(327, 305)] o330), d330, hz330, e330_0, e330_1, e330_3, e330_4, (Evo.rl_ hX330 hown rfl), (SqO.rl_ b330_Jx rfl (by decide))⟩
    refine fl_exit ?_
    refine hp320 _ _ _ rfl ?_
    replace hs := hz318 _ hs
    refine hp318 _ _ _ rfl ?_
    refine hx290 _ _ ?_
    refine hn287 _ _ ?_
    refine hn286 _ _ ?_
    refine rq 35 o322 (bz 3) [dv [] [3] 15 (Zi i226), dv [0] [] 16 (Zi (ad i226 1)), dv [1] [] 3 (Zi (ad i226 1))] hz322 d322 ?_ ?_
    ·exact sM e322_3 <| sF (fun f => or_add f.1 rfl rfl) <| sA <| steps_nil
    intro o331 a331 w331 d331 hz331 hk331 hf331 hE331
    obtain ⟨e331_0, e331_1⟩ := kt2 hk331 e322_0 e322_1
    have e331_3 := gv (hf331 [2] rfl) rfl
    have hX331 := Evo.step hX322 hown hE331 rfl
    have b331_Jx := SqO.evo (by decide) hE331 b322_Jx
    exact hn280 _ _ _ hs ⟨(rl [(305, 228)] o331), d331, hz331, e331_0, e331_1, e331_3, (Evo.rl_ hX331 hown rfl), (SqO.rl_ b331_Jx rfl (by decide))⟩
  refine fl_exit ?_
  refine hp282 _ _ _ rfl ?_
  replace hs := hz280 _ hs
  refine hp280 _ _ _ rfl ?_
  refine hx174 _ _ ?_
  obtain rfl := (osome hs).symm
  exact hret _ _ _ _ (.inr rfl) d284 (results0_ rfl ) ⟨(rl [(228, 1)] o284), rfl, (Evo.rl_ hX284 hown rfl), (SqO.rl_ b284_Jx rfl (by decide))⟩
theorem rows_Index_Add_w (w : World) (own : Own) (x1 : (List ((Int × Int) × (Int × Int))) × (List ((Int × Int) × (List Int))) × (List Int)) (gx1 : Nat) (tx1 : TypeId) (Ax1_0 : Option Addr) (cx1_0 : Nat) (mx1_1 : Nat) (Ax1_2 : Option Addr) (cx1_2 : Nat) (l2 : List ((Int × Int) × (Int × Int))) (Al2 : Option Addr) (cl2 : Nat) (hown : ∀ b, own b ≤ 5) (hgx1 : BlkO own 1 w gx1 tx1 #[sl Ax1_0 x1.1 cx1_0, .map (some mx1_1), sl Ax1_2 x1.2.2 cx1_2]) (hAx1_0 : RwO own 2 [] w 80 R80 Ax1_0 cx1_0 x1.1) (hmx1_1 : MpN own 3 4 [] w mx1_1 vv111 3 R3 x1.2.1) (hAx1_2 : RwO own 5 [] w 3 R3 Ax1_2 cx1_2 x1.2.2) (hl2 : RdO own [0] w R80 Al2 cl2 l2) (r : Int × ((List ((Int × Int) × (Int × Int))) × (List ((Int × Int) × (List Int))) × (List Int))) (hs : rows_Index_Add x1 l2 = some r) :
  Calls Try.prog 29 #[pt gx1 0, sl Al2 l2 cl2] w fun e w' => ∃ (own' : Own) (x : (Option Addr × Nat) × (Option Addr × Nat)), e = .returned (Zi r.1) ∧ Evo [1, 2, 3, 4, 5] own own' w w' ∧ RwO own' 2 [] w' 80 R80 x.1.1 x.1.2 r.2.1 ∧ MpN own' 3 4 [] w' mx1_1 vv111 3 R3 r.2.2.1 ∧ RwO own' 5 [] w' 3 R3 x.2.1 x.2.2 r.2.2.2 ∧ BlkO own' 1 w' gx1 tx1 #[.slice x.1.1 r.2.1.length x.1.2, .map (some mx1_1), .slice x.2.1 r.2.2.2.length x.2.2] := by
 refine fl_enterM (n := 69) (kD := 16) (by decide) rfl rfl rfl (Nat.le_of_ble_eq_true rfl) ?_
 intro a0 Q d0 hz0 harg hret
 have ha0 := harg 0 _ rfl
 have ha1 := harg 1 _ rfl
 clear harg
 have hE0 : Evo [1, 2, 3, 4, 5] own own w w := Evo.refl _ _ _
 have hmk0 : MkO own 16 w [] := MkO.nil_
 refine rq_seq 69 own [0, 0] [⟨[], [0], [], Fct.blk 2700 2 (fun g => pt g 0) 70 #[pt gx1 0]⟩, dv [] [] 4 (Zi 0)] hz0 d0 ?_ ?_
 ·exact sS (fun s => nw1 (s.1.trans ha0)) <| sO (or_assign rfl) <| steps_nil
 intro o2701 a2701 w2701 d2701 hz2701 hk2701 hf2701 hE2701
 obtain ⟨e2701_0, e2701_1⟩ := kt2 hk2701 ha0 ha1
 obtain ⟨⟨g2699, (e2701_2 : a2701.eval (.tmp 2) = pt g2699 0), (b2701_g2699 : BlkO o2701 2700 w2701 g2699 70 #[pt gx1 0])⟩, -⟩ := hf2701 [0] rfl
 have hX2701 := Evo.step hE0 hown hE2701 rfl
 have b2701_gx1 := be_ hE2701 hgx1
 have b2701_Ax1_0 := re_ hE2701 hAx1_0
 have b2701_mx1_1 := MpN.evo rfl hE2701 hmx1_1
 have b2701_Ax1_2 := re_ hE2701 hAx1_2
 have b2701_mk := MkO.evo (by decide) hE2701 hmk0
 refine fl_seq (fun Q2702 hn2702 hp2702 => ?_)
 refine rq_seq 69 o2701 (bz 2) [dv [] [2] 9 (pt gx1 0), dv [0] [] 10 (.bool false)] hz2701 d2701 ?_ ?_
 ·exact sL1 to70 e2701_2 b2701_g2699 <| sF (fun f => ok1 f.1) <| steps_nil
 intro o2703 a2703 w2703 d2703 hz2703 hk2703 hf2703 hE2703
 obtain ⟨e2703_0, e2703_1, e2703_2⟩ := kt3 hk2703 e2701_0 e2701_1 e2701_2
 have e2703_10 := gv (hf2703 [1] rfl) rfl
 have hX2703 := Evo.step hX2701 hown hE2703 rfl
 have b2703_gx1 := be_ hE2703 b2701_gx1
 have b2703_Ax1_0 := re_ hE2703 b2701_Ax1_0
 have b2703_mx1_1 := MpN.evo rfl hE2703 b2701_mx1_1
 have b2703_Ax1_2 := re_ hE2703 b2701_Ax1_2
 have b2703_mk := MkO.evo (by decide) hE2703 b2701_mk
 have b2703_g2699 := be_ hE2703 b2701_g2699
 refine fl_f e2703_10 ?_
 refine fl_skip ?_
 refine hn2702 _ _ ?_
 refine fl_seq (fun Q2704 hn2704 hp2704 => ?_)
 refine rq_seq 69 o2703 [0, 1, 0] [dv [] [1] 11 (sl Al2 l2 cl2), dv [0] [] 12 (Zi (l2.length : Int)), dv [] [] 13 (Zi 0)] hz2703 d2703 ?_ ?_
 ·exact sM e2703_1 <| sF (fun f => or_len tu103 f.1 rfl) <| sO (or_move rfl) <| steps_nil
 intro o2705 a2705 w2705 d2705 hz2705 hk2705 hf2705 hE2705
 obtain ⟨e2705_0, e2705_2⟩ := kt2 hk2705 e2703_0 e2703_2
 have e2705_11 := gv (hf2705 [0] rfl) rfl
 have e2705_12 := gv (hf2705 [1] rfl) rfl
 have e2705_13 := gv (hf2705 [2] rfl) rfl
 have hX2705 := Evo.step hX2703 hown hE2705 rfl
 have b2705_gx1 := be_ hE2705 b2703_gx1
 have b2705_Ax1_0 := re_ hE2705 b2703_Ax1_0
 have b2705_mx1_1 := MpN.evo rfl hE2705 b2703_mx1_1
 have b2705_Ax1_2 := re_ hE2705 b2703_Ax1_2
 have b2705_mk := MkO.evo (by decide) hE2705 b2703_mk
 have b2705_g2699 := be_ hE2705 b2703_g2699
 refine fl_block (fun Q2706 hn2706 hx2706 hp2706 => ?_)
 refine fl_loop (body := (fun s => rows_Index_Add_b1 l2 s.1 s.2.1 s.2.2.1 s.2.2.2)) (z := r) (show loopO _ _ = _ from hs) (fun (s : (List ((Int × Int) × (Int × Int))) × (List ((Int × Int) × (List Int))) × (List Int) × Int) a wx => match s with | (x3602, x3604, x3607, x3609) => ∃ (ox : Own) (A3600 : Option Addr) (c3601 : Nat) (A3605 : Option Addr) (c3606 : Nat) (Ds3610 : List Nat), a.defers = mkD Ds3610 ∧ a.tmps.size = 69 ∧ a.eval (.tmp 0) = pt gx1 0 ∧ a.eval (.tmp 2) = pt g2699 0 ∧ a.eval (.tmp 11) = sl Al2 l2 cl2 ∧ a.eval (.tmp 12) = Zi (l2.length : Int) ∧ a.eval (.tmp 13) = Zi x3609 ∧ Evo [1, 2, 3, 4, 5] own ox w wx ∧ BlkO ox 3599 wx gx1 tx1 #[sl A3600 x3602 c3601, .map (some mx1_1), sl A3605 x3607 c3606] ∧ RwO ox 3603 [] wx 80 R80 A3600 c3601 x3602 ∧ MpN ox 3 4 [] wx mx1_1 vv111 3 R3 x3604 ∧ RwO ox 3608 [] wx 3 R3 A3605 c3606 x3607 ∧ BlkO ox 2700 wx g2699 70 #[pt gx1 0] ∧ RdO ox [0] wx R80 Al2 cl2 l2 ∧ MkO ox 16 wx Ds3610) ?_ ?_
 ·exact ⟨(rl [(1, 3599), (2, 3603), (5, 3608)] o2705), Ax1_0, cx1_0, Ax1_2, cx1_2, [], d2705, hz2705, e2705_0, e2705_2, e2705_11, e2705_12, e2705_13, (Evo.rl_ hX2705 hown rfl), (BlkO.rl_ b2705_gx1), (RwO.rl_ b2705_Ax1_0), (MpN.rl_ b2705_mx1_1), (RwO.rl_ b2705_Ax1_2), (BlkO.rl_ b2705_g2699), (RdO.rl_ (RdO.evo rfl hX2705 hl2)), (MkO.rl_ b2705_mk)⟩
 ·rintro ⟨x3602, x3604, x3607, x3609⟩ zz4495 a4495 w4495 ⟨o4495, A3600, c3601, A3605, c3606, Ds3610, d4496, hz4496, e4496_0, e4496_2, e4496_11, e4496_12, e4496_13, hE4496, b4496_gx1, b4496_A3600, b4496_mx1_1, b4496_A3605, b4496_g2699, b4496_Al2, b4496_mk⟩ hs Q4495 hn4495 hp4495 hz4495
  have hs : rows_Index_Add_b1 l2 x3602 x3604 x3607 x3609 = some zz4495 := hs
  refine rq_seq 69 o4495 (bz 1) [dv [] [13, 12] 14 (.bool (decide (x3609 < (l2.length : Int))))] hz4496 d4496 ?_ ?_
  ·exact sS (fun s => or_lss (s.1.trans e4496_13) (s.2.1.trans e4496_12) rfl) <| steps_nil
  intro o4497 a4497 w4497 d4497 hz4497 hk4497 hf4497 hE4497
  obtain ⟨e4497_0, e4497_2, e4497_11, e4497_12, e4497_13⟩ := kt5 hk4497 e4496_0 e4496_2 e4496_11 e4496_12 e4496_13
  have e4497_14 := gv (hf4497 [0] rfl) rfl
  have hX4497 := Evo.step hE4496 hown hE4497 rfl
  obtain ⟨b4497_gx1, b4497_g2699⟩ := be2 hE4497 b4496_gx1 b4496_g2699
  have b4497_A3600 := re_ hE4497 b4496_A3600
  have b4497_mx1_1 := MpN.evo rfl hE4497 b4496_mx1_1
  have b4497_A3605 := re_ hE4497 b4496_A3605
  have b4497_Al2 := RdO.evo rfl hE4497 b4496_Al2
  have b4497_mk := MkO.evo (by decide) hE4497 b4496_mk
  refine fl_seq (fun Q4498 hn4498 hp4498 => ?_)
  refine fl_cond e4497_14 hs (fun c4499 hs => ?_) (fun c4499 hs => ?_)
  ·refine fl_skip ?_
   refine hn4498 _ _ ?_
   refine fl_seq (fun Q4500 hn4500 hp4500 => ?_)
   refine fl_block (fun Q4940 hn4940 hx4940 hp4940 => ?_)
   obtain ⟨x5160, hx5160, hs⟩ := obind hs
   refine rp_seq 69 o4497 [5162] [0, 1, 0, 7] [dv [] [11, 13] 15 (.pointer (some ((adr Al2).add ((x3609 : Int).toNat * R80.s)))), dv [0] [] 16 (.agg #[Zi x5160.1.1, Zi x5160.1.2, Zi x5160.2.1, Zi x5160.2.2]), ⟨[], [], [], Fct.blk 5162 6 (fun g => pt g 0) 80 #[Zi 0, Zi 0, Zi 0, Zi 0]⟩, ⟨[2, 1], [], [5162], Fct.blk 5163 6 (fun g => pt g 0) 80 #[Zi x5160.1.1, Zi x5160.1.2, Zi x5160.2.1, Zi x5160.2.2]⟩] hz4497 d4497 ?_ ?_
   ·refine sS (fun s => or_index (R := R80) (l := l2) tl103 (s.1.trans e4497_11) (s.2.1.trans e4497_13) (RdO.some_ b4497_Al2 hx5160) hx5160) <| sFE (fun f hE => or_load (l := E80.f x5160) ta80 f.1 (RdO.cells (F := E80) (RdO.evo rfl hE b4497_Al2) hx5160) rfl) <| sO (nw0) ?_
    refine sc (fun own a wx hf hsl hE => ?_) ?_
    ·obtain ⟨⟨g5161, f_6, b_g5161⟩, f_16, -⟩ := hf
     exact px (or_store (l := #[Zi x5160.1.1, Zi x5160.1.2, Zi x5160.2.1, Zi x5160.2.2]) (lab := 5162) (lab2 := 5163) ts80 f_6 f_16 b_g5161 (by simp) (by kernel_rfl) (mem_of rfl) (by decide) (by kernel_rfl) (fun own' a' w' ha hb => ⟨_, (ha 6).trans f_6, hb⟩))
    exact steps_nil
   intro o5164 a5164 w5164 d5164 hz5164 hk5164 hf5164 hE5164
   obtain ⟨e5164_0, e5164_2, e5164_11, e5164_12, e5164_13⟩ := kt5 hk5164 e4497_0 e4497_2 e4497_11 e4497_12 e4497_13
   obtain ⟨⟨g5161, (e5164_6 : a5164.eval (.tmp 6) = pt g5161 0), (b5164_g5161 : BlkO o5164 5163 w5164 g5161 80 #[Zi x5160.1.1, Zi x5160.1.2, Zi x5160.2.1, Zi x5160.2.2])⟩, -⟩ := hf5164 [3] rfl
   have hX5164 := Evo.step hX4497 hown hE5164 rfl
   obtain ⟨b5164_gx1, b5164_g2699⟩ := be2 hE5164 b4497_gx1 b4497_g2699
   have b5164_A3600 := re_ hE5164 b4497_A3600
   have b5164_mx1_1 := MpN.evo rfl hE5164 b4497_mx1_1
   have b5164_A3605 := re_ hE5164 b4497_A3605
   have b5164_Al2 := RdO.evo rfl hE5164 b4497_Al2
   have b5164_mk := MkO.evo (by decide) hE5164 b4497_mk
   refine rp_seq 69 o5164 [5166] [0, 1, 3, 7, 15, 0, 63] [dv [] [2] 17 (pt gx1 0), dv [0] [] 18 (pt gx1 0), dv [1] [] 19 (pt gx1 0), dv [2] [] 20 (sl A3600 x3602 c3601), dv [3] [] 21 (Zi (x3602.length : Int)), ⟨[], [], [], Fct.blk 5166 7 (fun g => pt g 0) 3 #[Zi 0]⟩, ⟨[5, 4], [], [5166], Fct.blk 5167 7 (fun g => pt g 0) 3 #[Zi (x3602.length : Int)]⟩] hz5164 d5164 ?_ ?_
   ·refine sL1 to70 e5164_2 b5164_g2699 <| sF (fun f => ok1 f.1) <| sF (fun f => or_field fo106_0 f.1 (by rfl)) <| sG to103 b5164_gx1 <| sF (fun f => or_len tu103 f.1 rfl) <| sO (nw0) ?_
    refine sc (fun own a wx hf hsl hE => ?_) ?_
    ·obtain ⟨⟨g5165, f_7, b_g5165⟩, f_21, -⟩ := hf
     exact px (or_store1 (lab := 5166) (lab2 := 5167) ts3 f_7 f_21 b_g5165 (by simp) rfl (mem_of rfl) (by decide) rfl (fun own' a' w' ha hb => ⟨_, (ha 7).trans f_7, hb⟩))
    exact steps_nil
   intro o5168 a5168 w5168 d5168 hz5168 hk5168 hf5168 hE5168
   obtain ⟨e5168_0, e5168_2, e5168_6, e5168_11, e5168_12, e5168_13⟩ := kt6 hk5168 e5164_0 e5164_2 e5164_6 e5164_11 e5164_12 e5164_13
   obtain ⟨⟨g5165, (e5168_7 : a5168.eval (.tmp 7) = pt g5165 0), (b5168_g5165 : BlkO o5168 5167 w5168 g5165 3 #[Zi (x3602.length : Int)])⟩, -⟩ := hf5168 [6] rfl
   have hX5168 := Evo.step hX5164 hown hE5168 rfl
   obtain ⟨b5168_gx1, b5168_g2699⟩ := be2 hE5168 b5164_gx1 b5164_g2699
   have b5168_A3600 := re_ hE5168 b5164_A3600
   have b5168_mx1_1 := MpN.evo rfl hE5168 b5164_mx1_1
   have b5168_A3605 := re_ hE5168 b5164_A3605
   have b5168_Al2 := RdO.evo rfl hE5168 b5164_Al2
   have b5168_mk := MkO.evo (by decide) hE5168 b5164_mk
   have b5168_g5161 := be_ hE5168 b5164_g5161
   obtain ⟨x5178, hx5178, hs⟩ := obind hs
   refine rd_seq g_mixed 69 [Fct.rowAt 3603 [] 80 R80 A3600 c3601 x3602, Fct.at_ 3599 gx1 tx1 #[sl A3600 x3602 c3601, .map (some mx1_1), sl A3605 x3607 c3606]] o5168 [3603, 3599] [0, 0, 2, 6, 14, 0, 32, 126, 255, 511, 1023] [dv [] [2] 22 (pt gx1 0), dv [] [2] 23 (pt gx1 0), dv [1] [] 24 (pt gx1 0), dv [2] [] 25 (pt gx1 0), dv [3, 12] [] 26 (sl A3600 x3602 c3601), dv [] [6] 27 (.agg #[Zi x5160.1.1, Zi x5160.1.2, Zi x5160.2.1, Zi x5160.2.2]), ⟨[5], [], [], Fct.row 5177 [] 28 80 R80 [x5160]⟩, ⟨[4, 6, 11], [], [3603], Fct.row 5179 [] 29 80 R80 x5178⟩, dv [0] [] 30 (pt gx1 0), dv [8] [] 31 (pt gx1 0), ⟨[9, 7, 12], [], [3599], Fct.by_ [5181] [29] (fun l own w => ∀ (A5180 : Option Addr) (cA5180 : Nat), l.getD 0 undef = sl A5180 x5178 cA5180 → BlkO own 5181 w gx1 tx1 #[sl A5180 x5178 cA5180, .map (some mx1_1), sl A3605 x3607 c3606]) (fun hk he h _ _ h0' => BlkO.evo (not_hit hk (by decide)) he (h _ _ h0'))⟩] hz5168 d5168 (fm2 b5168_A3600 b5168_gx1) ?_ ?_
   ·refine sL1 to70 e5168_2 b5168_g2699 <| sL1 to70 e5168_2 b5168_g2699 <| sF (fun f => ok1 f.1) <| sF (fun f => or_field fo106_0 f.1 (by rfl)) ?_
    refine sc (fun own a wx hf hsl hE => ?_) ?_
    ·obtain ⟨f_25, (b_gx1 : BlkO own 3599 wx gx1 tx1 #[sl A3600 x3602 c3601, .map (some mx1_1), sl A3605 x3607 c3606]), -⟩ := hf
     exact px (ld1 to103 f_25 b_gx1)
    refine sL ta80 e5168_6 b5168_g5161 <| sF (fun f => or_lit (lab := 5177) (e := 80) (cs := #[Zi x5160.1.1, Zi x5160.1.2, Zi x5160.2.1, Zi x5160.2.2]) (F := E80) (nw1 f.1) rfl rfl (show 1 ≤ maxLen by decide)) ?_
    refine sc (fun own a wx hf hsl hE => ?_) ?_
    ·obtain ⟨f_26, ⟨⟨A5176, cA5176⟩, f_28, b_A5176⟩, b_A3600, -⟩ := hf
     exact px (or_append (R := R80) (lab := 3603) (lab2 := 5179) (L := []) (L3 := []) tp103 f_26 b_A3600 (by decide) f_28 (RwO.rd b_A5176) hx5178 (by decide) (by decide) (mem_of rfl) (.inl (Rep.fl_flat _)))
    refine sF (fun f => ok1 f.1) <| sF (fun f => or_field fo106_0 f.1 (by rfl)) ?_
    refine sc (fun own a wx hf hsl hE => ?_) ?_
    ·obtain ⟨f_31, ⟨⟨A5180, cA5180⟩, (f_29 : a.eval (.tmp 29) = sl A5180 x5178 cA5180), b_A5180⟩, b_gx1, -⟩ := hf
     exact px (or_store1 (lab := 3599) (lab2 := 5181) ts103 f_31 f_29 b_gx1 (by simp) rfl (mem_of rfl) (by decide) rfl (fun own' a' w' ha hb => fun _ _ h0' => by cases (f_29.symm.trans ((ha 29).symm.trans h0')); exact hb))
    exact steps_nil
   intro o5182 a5182 w5182 d5182 hz5182 hk5182 hf5182 hE5182
   obtain ⟨e5182_0, e5182_2, e5182_6, e5182_7, e5182_11, e5182_12, e5182_13⟩ := kt7 hk5182 e5168_0 e5168_2 e5168_6 e5168_7 e5168_11 e5168_12 e5168_13
   obtain ⟨⟨⟨A5180, cA5180⟩, (f_29 : a5182.eval (.tmp 29) = sl A5180 x5178 cA5180), (b5182_A5180 : RwO o5182 5179 [] w5182 80 R80 A5180 cA5180 x5178)⟩, (bq_gx1 : ∀ (A5180 : Option Addr) (cA5180 : Nat), a5182.eval (.tmp 29) = sl A5180 x5178 cA5180 → BlkO o5182 5181 w5182 gx1 tx1 #[sl A5180 x5178 cA5180, .map (some mx1_1), sl A3605 x3607 c3606]), -⟩ := hf5182 [7, 10] rfl
   have b5182_gx1 := bq_gx1 _ _ f_29
   have hX5182 := Evo.step hX5168 hown hE5182 rfl
   have b5182_g2699 := be_ hE5182 b5168_g2699
   have b5182_mx1_1 := MpN.evo rfl hE5182 b5168_mx1_1
   have b5182_A3605 := re_ hE5182 b5168_A3605
   have b5182_Al2 := RdO.evo rfl hE5182 b5168_Al2
   have b5182_mk := MkO.evo (by decide) hE5182 b5168_mk
   obtain ⟨b5182_g5161, b5182_g5165⟩ := be2 hE5182 b5168_g5161 b5168_g5165
   refine fl_block (fun Q5183 hn5183 hx5183 hp5183 => ?_)
   have K5284 : ∀ (a5284 : Act) (w5284 : World) (o5284 : Own) (x5278 : List ((Int × Int) × (List Int))) (x5281 : List Int) (A5279 : Option Addr) (c5280 : Nat) (Ds5283 : List Nat), a5284.defers = mkD Ds5283 → a5284.tmps.size = 69 → a5284.eval (.tmp 0) = pt gx1 0 → a5284.eval (.tmp 2) = pt g2699 0 → a5284.eval (.tmp 11) = sl Al2 l2 cl2 → a5284.eval (.tmp 12) = Zi (l2.length : Int) → a5284.eval (.tmp 13) = Zi x3609 → Evo [1, 2, 3, 4, 5] own o5284 w w5284 → BlkO o5284 5277 w5284 gx1 tx1 #[sl A5180 x5178 cA5180, .map (some mx1_1), sl A5279 x5281 c5280] → RwO o5284 5179 [] w5284 80 R80 A5180 cA5180 x5178 → MpN o5284 3 4 [] w5284 mx1_1 vv111 3 R3 x5278 → RwO o5284 5282 [] w5284 3 R3 A5279 c5280 x5281 → BlkO o5284 2700 w5284 g2699 70 #[pt gx1 0] → RdO o5284 [0] w5284 R80 Al2 cl2 l2 → MkO o5284 16 w5284 Ds5283 → rows_Index_Add_k2 x3609 x5178 x5278 x5281 = some zz4495 → (Q5183 .normal a5284 w5284 ∧ Q5183 (.exit 2) a5284 w5284) := by
    intro a5284 w5284 o5284 x5278 x5281 A5279 c5280 Ds5283 d5285 hz5285 e5285_0 e5285_2 e5285_11 e5285_12 e5285_13 hE5285 b5285_gx1 b5285_A5180 b5285_mx1_1 b5285_A5279 b5285_g2699 b5285_Al2 b5285_mk hs
    refine and_both (hn5183 _ _) (hx5183 _ _) ?_
    refine hn4940 _ _ ?_
    refine hn4500 _ _ ?_
    refine rq 69 o5284 (bz 2) [dv [] [13] 63 (Zi (ad x3609 1)), dv [0] [] 13 (Zi (ad x3609 1))] hz5285 d5285 ?_ ?_
    ·exact sS (fun s => or_add (s.1.trans e5285_13) rfl rfl) <| sV <| steps_nil
    intro o5286 a5286 w5286 d5286 hz5286 hk5286 hf5286 hE5286
    obtain ⟨e5286_0, e5286_2, e5286_11, e5286_12⟩ := kt4 hk5286 e5285_0 e5285_2 e5285_11 e5285_12
    have e5286_13 := gv (hf5286 [1] rfl) rfl
    have hX5286 := Evo.step hE5285 hown hE5286 rfl
    obtain ⟨b5286_gx1, b5286_g2699⟩ := be2 hE5286 b5285_gx1 b5285_g2699
    have b5286_A5180 := re_ hE5286 b5285_A5180
    have b5286_mx1_1 := MpN.evo rfl hE5286 b5285_mx1_1
    have b5286_A5279 := re_ hE5286 b5285_A5279
    have b5286_Al2 := RdO.evo rfl hE5286 b5285_Al2
    have b5286_mk := MkO.evo (by decide) hE5286 b5285_mk
    exact hn4495 _ _ _ hs ⟨(rl [(5179, 3603), (5277, 3599), (5282, 3608)] o5286), A5180, cA5180, A5279, c5280, Ds5283, d5286, hz5286, e5286_0, e5286_2, e5286_11, e5286_12, e5286_13, (Evo.rl_ hX5286 hown rfl), (BlkO.rl_ b5286_gx1), (RwO.rl_ b5286_A5180), (MpN.rl_ b5286_mx1_1), (RwO.rl_ b5286_A5279), (BlkO.rl_ b5286_g2699), (RdO.rl_ b5286_Al2), (MkO.rl_ b5286_mk)⟩
   obtain ⟨r5287, hr5287, hs⟩ := obind hs
   refine rq_seq 69 o5182 (bz 4) [dv [] [6] 47 (.agg #[Zi x5160.1.1, Zi x5160.1.2, Zi x5160.2.1, Zi x5160.2.2]), dv [0] [] 48 (.bool r5287), dv [1] [] 49 (.bool (!r5287)), dv [2] [] 46 (.bool (!r5287))] hz5182 d5182 ?_ ?_
   ·exact sL ta80 e5182_6 b5182_g5161 <| sF (fun f => or_call cf48 (args1 f.1) (rows_Right_w _ x5160  r5287 hr5287) post_val) <| sF (fun f => or_not f.1 rfl) <| sA <| steps_nil
   intro o5288 a5288 w5288 d5288 hz5288 hk5288 hf5288 hE5288
   obtain ⟨e5288_0, e5288_2, e5288_6, e5288_7, e5288_11, e5288_12, e5288_13⟩ := kt7 hk5288 e5182_0 e5182_2 e5182_6 e5182_7 e5182_11 e5182_12 e5182_13
   have e5288_46 := gv (hf5288 [3] rfl) rfl
   have hX5288 := Evo.step hX5182 hown hE5288 rfl
   have b5288_g2699 := be_ hE5288 b5182_g2699
   have b5288_mx1_1 := MpN.evo rfl hE5288 b5182_mx1_1
   have b5288_A3605 := re_ hE5288 b5182_A3605
   have b5288_Al2 := RdO.evo rfl hE5288 b5182_Al2
   have b5288_mk := MkO.evo (by decide) hE5288 b5182_mk
   obtain ⟨b5288_g5161, b5288_g5165, b5288_gx1⟩ := be3 hE5288 b5182_g5161 b5182_g5165 b5182_gx1
   have b5288_A5180 := re_ hE5288 b5182_A5180
   refine fl_cond e5288_46 hs (fun c5289 hs => ?_) (fun c5289 hs => ?_)
   ·refine fl_skip ?_
    exact (K5284 _ _ (rl [(3608, 5282), (5181, 5277)] o5288) _ _ A3605 c3606 Ds3610 d5288 hz5288 e5288_0 e5288_2 e5288_11 e5288_12 e5288_13 (Evo.rl_ hX5288 hown rfl) (BlkO.rl_ b5288_gx1) (RwO.rl_ b5288_A5180) (MpN.rl_ b5288_mx1_1) (RwO.rl_ b5288_A3605) (BlkO.rl_ b5288_g2699) (RdO.rl_ b5288_Al2) (MkO.rl_ b5288_mk) hs).1
   obtain ⟨r5290, hr5290, hs⟩ := obind hs
   refine rq_seq 69 o5288 (bz 3) [dv [] [6] 51 (.agg #[Zi x5160.1.1, Zi x5160.1.2, Zi x5160.2.1, Zi x5160.2.2]), dv [0] [] 52 (.bool r5290), dv [1] [] 50 (.bool r5290)] hz5288 d5288 ?_ ?_
   ·exact sL ta80 e5288_6 b5288_g5161 <| sF (fun f => or_call cf49 (args1 f.1) (rows_great_w _ x5160  r5290 hr5290) post_val) <| sA <| steps_nil
   intro o5291 a5291 w5291 d5291 hz5291 hk5291 hf5291 hE5291
   obtain ⟨e5291_0, e5291_2, e5291_6, e5291_7, e5291_11, e5291_12, e5291_13⟩ := kt7 hk5291 e5288_0 e5288_2 e5288_6 e5288_7 e5288_11 e5288_12 e5288_13
   have e5291_50 := gv (hf5291 [2] rfl) rfl
   have hX5291 := Evo.step hX5288 hown hE5291 rfl
   have b5291_g2699 := be_ hE5291 b5288_g2699
   have b5291_mx1_1 := MpN.evo rfl hE5291 b5288_mx1_1
   have b5291_A3605 := re_ hE5291 b5288_A3605
   have b5291_Al2 := RdO.evo rfl hE5291 b5288_Al2
   have b5291_mk := MkO.evo (by decide) hE5291 b5288_mk
   obtain ⟨b5291_g5161, b5291_g5165, b5291_gx1⟩ := be3 hE5291 b5288_g5161 b5288_g5165 b5288_gx1
   have b5291_A5180 := re_ hE5291 b5288_A5180
   refine fl_cond e5291_50 hs (fun c5292 hs => ?_) (fun c5292 hs => ?_)
   ·obtain ⟨x5302, hx5302, hs⟩ := obind hs
    refine rd_ g_mixed 69 [Fct.rowAt 3608 [] 3 R3 A3605 c3606 x3607, Fct.at_ 5181 gx1 tx1 #[sl A5180 x5178 cA5180, .map (some mx1_1), sl A3605 x3607 c3606]] o5291 [3608, 5181] [0, 0, 2, 6, 14, 0, 32, 126, 255, 511, 1023] [dv [] [2] 53 (pt gx1 0), dv [] [2] 54 (pt gx1 0), dv [1] [] 55 (pt gx1 0), dv [2] [] 56 (pt gx1 2), dv [3, 12] [] 57 (sl A3605 x3607 c3606), dv [] [7] 58 (Zi (x3602.length : Int)), ⟨[5], [], [], Fct.row 5301 [] 59 3 R3 [(x3602.length : Int)]⟩, ⟨[4, 6, 11], [], [3608], Fct.row 5303 [] 60 3 R3 x5302⟩, dv [0] [] 61 (pt gx1 0), dv [8] [] 62 (pt gx1 2), ⟨[9, 7, 12], [], [5181], Fct.by_ [5305] [60] (fun l own w => ∀ (A5304 : Option Addr) (cA5304 : Nat), l.getD 0 undef = sl A5304 x5302 cA5304 → BlkO own 5305 w gx1 tx1 #[sl A5180 x5178 cA5180, .map (some mx1_1), sl A5304 x5302 cA5304]) (fun hk he h _ _ h0' => BlkO.evo (not_hit hk (by decide)) he (h _ _ h0'))⟩] hz5291 d5291 (fm2 b5291_A3605 b5291_gx1) ?_ ?_
    ·refine sL1 to70 e5291_2 b5291_g2699 <| sL1 to70 e5291_2 b5291_g2699 <| sF (fun f => ok1 f.1) <| sF (fun f => or_field fo106_2 f.1 (by rfl)) ?_
     refine sc (fun own a wx hf hsl hE => ?_) ?_
     ·obtain ⟨f_56, (b_gx1 : BlkO own 5181 wx gx1 tx1 #[sl A5180 x5178 cA5180, .map (some mx1_1), sl A3605 x3607 c3606]), -⟩ := hf
      exact px (ld1 to22 f_56 b_gx1)
     refine sL1 to3 e5291_7 b5291_g5165 <| sF (fun f => or_lit (lab := 5301) (e := 3) (cs := #[Zi (x3602.length : Int)]) (F := E3) (nw1 f.1) rfl rfl (show 1 ≤ maxLen by decide)) ?_
     refine sc (fun own a wx hf hsl hE => ?_) ?_
     ·obtain ⟨f_57, ⟨⟨A5300, cA5300⟩, f_59, b_A5300⟩, b_A3605, -⟩ := hf
      exact px (or_append (R := R3) (lab := 3608) (lab2 := 5303) (L := []) (L3 := []) tp22 f_57 b_A3605 (by decide) f_59 (RwO.rd b_A5300) hx5302 (by decide) (by decide) (mem_of rfl) (.inl (Rep.fl_flat _)))
     refine sF (fun f => ok1 f.1) <| sF (fun f => or_field fo106_2 f.1 (by rfl)) ?_
     refine sc (fun own a wx hf hsl hE => ?_) ?_
     ·obtain ⟨f_62, ⟨⟨A5304, cA5304⟩, (f_60 : a.eval (.tmp 60) = sl A5304 x5302 cA5304), b_A5304⟩, b_gx1, -⟩ := hf
      exact px (or_store1 (lab := 5181) (lab2 := 5305) ts22 f_62 f_60 b_gx1 (by simp) rfl (mem_of rfl) (by decide) rfl (fun own' a' w' ha hb => fun _ _ h0' => by cases (f_60.symm.trans ((ha 60).symm.trans h0')); exact hb))
     exact steps_nil
    intro o5306 a5306 w5306 d5306 hz5306 hk5306 hf5306 hE5306
    obtain ⟨e5306_0, e5306_2, e5306_11, e5306_12, e5306_13⟩ := kt5 hk5306 e5291_0 e5291_2 e5291_11 e5291_12 e5291_13
    obtain ⟨⟨⟨A5304, cA5304⟩, (f_60 : a5306.eval (.tmp 60) = sl A5304 x5302 cA5304), (b5306_A5304 : RwO o5306 5303 [] w5306 3 R3 A5304 cA5304 x5302)⟩, (bq_gx1 : ∀ (A5304 : Option Addr) (cA5304 : Nat), a5306.eval (.tmp 60) = sl A5304 x5302 cA5304 → BlkO o5306 5305 w5306 gx1 tx1 #[sl A5180 x5178 cA5180, .map (some mx1_1), sl A5304 x5302 cA5304]), -⟩ := hf5306 [7, 10] rfl
    have b5306_gx1 := bq_gx1 _ _ f_60
    have hX5306 := Evo.step hX5291 hown hE5306 rfl
    have b5306_g2699 := be_ hE5306 b5291_g2699
    have b5306_mx1_1 := MpN.evo rfl hE5306 b5291_mx1_1
    have b5306_Al2 := RdO.evo rfl hE5306 b5291_Al2
    have b5306_mk := MkO.evo (by decide) hE5306 b5291_mk
    have b5306_A5180 := re_ hE5306 b5291_A5180
    exact (K5284 _ _ (rl [(5303, 5282), (5305, 5277)] o5306) _ _ A5304 cA5304 Ds3610 d5306 hz5306 e5306_0 e5306_2 e5306_11 e5306_12 e5306_13 (Evo.rl_ hX5306 hown rfl) (BlkO.rl_ b5306_gx1) (RwO.rl_ b5306_A5180) (MpN.rl_ b5306_mx1_1) (RwO.rl_ b5306_A5304) (BlkO.rl_ b5306_g2699) (RdO.rl_ b5306_Al2) (MkO.rl_ b5306_mk) hs).1
   refine rq_seq 69 o5291 (bz 2) [dv [] [6] 32 (.agg #[Zi x5160.1.1, Zi x5160.1.2, Zi x5160.2.1, Zi x5160.2.2]), ⟨[0], [], [], Fct.mems [5308] 33 (fun (x : Option Addr × Nat) => .func (.func 64) #[] #[.pointer (some ⟨x.2, 0, none⟩)]) (fun (x : Option Addr × Nat) own w => BlkO own 5308 w x.2 80 #[Zi x5160.1.1, Zi x5160.1.2, Zi x5160.2.1, Zi x5160.2.2]) (fun hk he h => BlkO.evo (not_hit hk (by decide)) he h)⟩] hz5291 d5291 ?_ ?_
   ·exact sL ta80 e5291_6 b5291_g5161 <| sF (fun f => or_call cf50 (args1 f.1) (rows_fields_w _ x5160  () rfl) (post_mems (m := (fun _ => 0)) (m' := (look0 [(1, 5308)])) (fun _ _ => .inl rfl) (fun own' w' a' x h1 h => ⟨x, h1, BlkO.back_ h (by decide)⟩))) <| steps_nil
   intro o5309 a5309 w5309 d5309 hz5309 hk5309 hf5309 hE5309
   obtain ⟨e5309_0, e5309_2, e5309_7, e5309_11, e5309_12, e5309_13⟩ := kt6 hk5309 e5291_0 e5291_2 e5291_7 e5291_11 e5291_12 e5291_13
   obtain ⟨⟨⟨A5307, cA5307⟩, (e5309_33 : a5309.eval (.tmp 33) = .func (.func 64) #[] #[pt cA5307 0]), (b5309_cA5307 : BlkO o5309 5308 w5309 cA5307 80 #[Zi x5160.1.1, Zi x5160.1.2, Zi x5160.2.1, Zi x5160.2.2])⟩, -⟩ := hf5309 [1] rfl
   have hX5309 := Evo.step hX5291 hown hE5309 rfl
   have b5309_g2699 := be_ hE5309 b5291_g2699
   have b5309_mx1_1 := MpN.evo rfl hE5309 b5291_mx1_1
   have b5309_A3605 := re_ hE5309 b5291_A3605
   have b5309_Al2 := RdO.evo rfl hE5309 b5291_Al2
   have b5309_mk := MkO.evo (by decide) hE5309 b5291_mk
   obtain ⟨b5309_g5165, b5309_gx1⟩ := be2 hE5309 b5291_g5165 b5291_gx1
   have b5309_A5180 := re_ hE5309 b5291_A5180
   refine fl_block (fun Q5310 hn5310 hx5310 hp5310 => ?_)
   obtain ⟨zz5354, hzz5354, hs⟩ := rngO_some hs
   refine fl_range (S := List ((Int × Int) × (List Int))) (D := Empty) (X := (Int × Int)) (encs := (fun (x : (Int × Int)) => #[P2 x])) (n := 69) [3, 4, 5361, 5372, 5374, 5377] 5355 16 rfl
     (fun (x5332 : List ((Int × Int) × (List Int))) (ox : Own) (wx : World) => Evo [1, 2, 3, 4, 5] own ox w wx ∧ BlkO ox 5181 wx gx1 tx1 #[sl A5180 x5178 cA5180, .map (some mx1_1), sl A3605 x3607 c3606] ∧ RwO ox 5179 [] wx 80 R80 A5180 cA5180 x5178 ∧ MpN ox 3 4 [] wx mx1_1 vv111 3 R3 x5332 ∧ RwO ox 3608 [] wx 3 R3 A3605 c3606 x3607 ∧ BlkO ox 2700 wx g2699 70 #[pt gx1 0] ∧ BlkO ox 5167 wx g5165 3 #[Zi (x3602.length : Int)] ∧ RdO ox [0] wx R80 Al2 cl2 l2 ∧ BlkO ox 5308 wx cA5307 80 #[Zi x5160.1.1, Zi x5160.1.2, Zi x5160.2.1, Zi x5160.2.2])
     (fun (e : Empty) (_ : Own) (_ : World) => nomatch e)
     (fun (e : Empty) => nomatch e) (fun (sr : List ((Int × Int) × (List Int))) (xr : (Int × Int)) => rows_Index_Add_b3 x3602 sr xr) hz5309 rfl e5309_33 cf64 (cargs := fun l => #[.func (.yield l) #[] #[], pt cA5307 0]) (fun _ => by simp) (fun _ => rfl) d5309 b5309_mk ?_ ?_ x3604 zz5354 ⟨hX5309, b5309_gx1, b5309_A5180, b5309_mx1_1, b5309_A3605, b5309_g2699, b5309_g5165, b5309_Al2, b5309_cA5307⟩ ?_ ?_ ?_ ?_
   ·rintro x5332 ox ox1 wx wx1 hEs ⟨h5354_0, h5354_1, h5354_2, h5354_3, h5354_4, h5354_5, h5354_6, h5354_7, h5354_8⟩
    exact ⟨(Evo.step h5354_0 hown hEs rfl), (be_ hEs h5354_1), (re_ hEs h5354_2), (MpN.evo rfl hEs h5354_3), (re_ hEs h5354_4), (be_ hEs h5354_5), (be_ hEs h5354_6), (RdO.evo rfl hEs h5354_7), (be_ hEs h5354_8)⟩
   ·intro e; exact nomatch e
   ·intro l5354 o1 w1 J5354 hE1 hJ1 hR1
    exact (rows_fields_1_w w1 (forth o1 (look0 (kj 5355 [3, 4, 5361, 5372, 5374, 5377]))) ((List ((Int × Int) × (List Int))) ⊕ Empty) (yb (fun (sr : List ((Int × Int) × (List Int))) (xr : (Int × Int)) => rows_Index_Add_b3 x3602 sr xr)) J5354 l5354 (Sum.inl x3604) x5160 cA5307 80 (look0_le rfl) hR1 hJ1 (BlkO.forth_ (be_ hE1 b5309_cA5307)) zz5354 hzz5354).mono fun e wz ⟨oz, he, _, hJz⟩ => ⟨_, oz, he, hJz⟩
   ·rintro l5358 x5332 x5357 zz2 o5358 a5358 w5358 Ds5358 ⟨hE5359, b5359_gx1, b5359_A5180, b5359_mx1_1, b5359_A3605, b5359_g2699, b5359_g5165, b5359_Al2, b5359_cA5307⟩ - hrc5358 hs ⟨d5358, hz5358, hkp5358, hpar5358⟩ Q5358 hn5358
    have hs : rows_Index_Add_b3 x3602 x5332 x5357 = some zz2 := hs
    replace hz5358 := hz5358.trans hz5309
    have e5358_0 : a5358.eval (.tmp 0) = pt gx1 0 := (hkp5358 0 rfl).trans e5309_0
    have e5358_2 : a5358.eval (.tmp 2) = pt g2699 0 := (hkp5358 2 rfl).trans e5309_2
    have e5358_7 : a5358.eval (.tmp 7) = pt g5165 0 := (hkp5358 7 rfl).trans e5309_7
    have e5358_11 : a5358.eval (.tmp 11) = sl Al2 l2 cl2 := (hkp5358 11 rfl).trans e5309_11
    have e5358_12 : a5358.eval (.tmp 12) = Zi (l2.length : Int) := (hkp5358 12 rfl).trans e5309_12
    have e5358_13 : a5358.eval (.tmp 13) = Zi x3609 := (hkp5358 13 rfl).trans e5309_13
    have e5358_33 : a5358.eval (.tmp 33) = .func (.func 64) #[] #[pt cA5307 0] := (hkp5358 33 rfl).trans e5309_33
    have e5358_34 : a5358.eval (.tmp 34) = P2 x5357 := hpar5358 0 34 _ rfl rfl
    have hE5358 := Evo.refl [3, 4, 5361, 5372, 5374, 5377] o5358 w5358
    have hrc0_5358 := hrc5358
    refine rp 69 o5358 [5361] (bz 2) [⟨[], [], [], Fct.blk 5361 8 (fun g => pt g 0) 111 #[Zi 0, Zi 0]⟩, ⟨[0], [34], [5361], Fct.blk 5362 8 (fun g => pt g 0) 111 #[Zi x5357.1, Zi x5357.2]⟩] hz5358 d5358 ?_ ?_
    ·refine sO (nw0) ?_
     refine sc (fun own a wx hf hsl hE => ?_) ?_
     ·obtain ⟨⟨g5360, f_8, b_g5360⟩, -⟩ := hf
      obtain ⟨s_34, -⟩ := hsl
      exact px (or_store (l := #[Zi x5357.1, Zi x5357.2]) (lab := 5361) (lab2 := 5362) ts111 f_8 (s_34.trans e5358_34) b_g5360 (by simp) (by kernel_rfl) (mem_of rfl) (by decide) (by kernel_rfl) (fun own' a' w' ha hb => ⟨_, (ha 8).trans f_8, hb⟩))
     exact steps_nil
    intro o5363 a5363 w5363 d5363 hz5363 hk5363 hf5363 hE5363
    obtain ⟨e5363_0, e5363_2, e5363_7, e5363_11, e5363_12, e5363_13, e5363_33⟩ := kt7 hk5363 e5358_0 e5358_2 e5358_7 e5358_11 e5358_12 e5358_13 e5358_33
    obtain ⟨⟨g5360, (e5363_8 : a5363.eval (.tmp 8) = pt g5360 0), (b5363_g5360 : BlkO o5363 5362 w5363 g5360 111 #[Zi x5357.1, Zi x5357.2])⟩, -⟩ := hf5363 [1] rfl
    have hX5363 := Evo.stepK hE5358 hE5363 rfl
    obtain ⟨b5363_gx1, b5363_g2699, b5363_g5165, b5363_cA5307⟩ := be4 hE5363 b5359_gx1 b5359_g2699 b5359_g5165 b5359_cA5307
    have b5363_A5180 := re_ hE5363 b5359_A5180
    have b5363_mx1_1 := MpN.evo rfl hE5363 b5359_mx1_1
    have b5363_A3605 := re_ hE5363 b5359_A3605
    have b5363_Al2 := RdO.evo rfl hE5363 b5359_Al2
    refine hn5358 _ _ _ hX5363 (fun w5364 o5364 hE5364 hrc5364 => ?_)
    obtain ⟨b5364_gx1, b5364_g2699, b5364_g5165, b5364_cA5307, b5364_g5360⟩ := be5 hE5364 b5363_gx1 b5363_g2699 b5363_g5165 b5363_cA5307 b5363_g5360
    have b5364_A5180 := re_ hE5364 b5363_A5180
    have b5364_mx1_1 := MpN.evo rfl hE5364 b5363_mx1_1
    have b5364_A3605 := re_ hE5364 b5363_A3605
    have b5364_Al2 := RdO.evo rfl hE5364 b5363_Al2
    have hU5364 := Evo.step (Evo.step hE5359 hown hX5363 rfl) hown hE5364 rfl
    have hX5364 := Evo.refl [3, 4, 5361, 5372, 5374, 5377] o5364 w5364
    have hmk5364 : MkO o5364 16 w5364 [] := MkO.nil_
    refine fl_block (fun Q5365 hn5365 hx5365 hp5365 => ?_)
    obtain ⟨x5373, hx5373, hs⟩ := obind hs
    obtain ⟨D5376, hD5376, hs⟩ := obind hs
    obtain ⟨ys5368, Dv5368, hM5368, hK5368, hL5368⟩ := b5364_mx1_1
    refine rd_ g_mixed 69 [Fct.mapAt 3 mx1_1 vv111 (fun v : Value => v) Dv5368, Fct.elsAt 4 [] 3 R3 x5332 ys5368 Dv5368] o5364 [3, 4, 5372] [0, 1, 3, 7, 0, 0, 32, 127, 255, 511, 255, 2047] [dv [] [2] 35 (pt gx1 0), dv [0] [] 36 (pt gx1 0), dv [1] [] 37 (pt gx1 1), dv [2] [] 38 (.map (some mx1_1)), dv [] [8] 39 (P2 x5357), dv [] [7] 41 (Zi (x3602.length : Int)), ⟨[5], [], [], Fct.row 5370 [] 42 3 R3 [(x3602.length : Int)]⟩, ⟨[3, 4, 12, 13], [], [3], Fct.ment 5372 43 mx1_1 vv111 Dv5368 x5357 ys5368 ((lkM x5332 x5357).getD [])⟩, ⟨[7], [], [], Fct.rel [40, 43] (fun l => ∀ (A5371 : Option Addr) (cA5371 : Nat) (bA5371 : Nat), l.getD 1 undef = .tuple #[.slice A5371 ((lkM x5332 x5357).getD []).length cA5371, Zi (bA5371 : Int)] → l.getD 0 undef = .slice A5371 ((lkM x5332 x5357).getD []).length cA5371)⟩, ⟨[8, 7, 6, 13], [], [4], Fct.mhole 5374 [] 44 3 R3 x5332 Dv5368 x5357 x5373⟩, ⟨[7], [], [], Fct.rel [45, 43] (fun l => ∀ (A5371 : Option Addr) (cA5371 : Nat) (bA5371 : Nat), l.getD 1 undef = .tuple #[.slice A5371 ((lkM x5332 x5357).getD []).length cA5371, Zi (bA5371 : Int)] → l.getD 0 undef = Zi (bA5371 : Int))⟩, ⟨[3, 10, 7, 9], [], [5372], Fct.mapnAt 5377 5374 [] mx1_1 vv111 3 R3 D5376⟩] hz5363 d5363 (fm2 hM5368 hL5368) ?_ ?_
    ·refine sL1 to70 e5363_2 b5364_g2699 <| sF (fun f => ok1 f.1) <| sF (fun f => or_field fo106_1 f.1 (by rfl)) <| sG to104 b5364_gx1 <| sL ta111 e5363_8 b5364_g5360 <| sL1 to3 e5363_7 b5364_g5165 <| sF (fun f => or_lit (lab := 5370) (e := 3) (cs := #[Zi (x3602.length : Int)]) (F := E3) (nw1 f.1) rfl rfl (show 1 ≤ maxLen by decide)) ?_
     refine sc (fun own a wx hf hsl hE => ?_) ?_
     ·obtain ⟨f_38, f_39, b_mvmx1_1, b_elmx1_1, -⟩ := hf
      exact px (or_mborrow (lab := 3) (lab2 := 5372) (k := x5357) ko111 tm104 tzv104 f_38 f_39 b_mvmx1_1 hK5368 b_elmx1_1 rfl (mem_of rfl) (by decide))
     refine sc (fun own a wx hf hsl hE => ?_) ?_
     ·obtain ⟨⟨⟨⟨A5371, cA5371⟩, bA5371⟩, (f_43 : a.eval (.tmp 43) = .tuple #[.slice A5371 ((lkM x5332 x5357).getD []).length cA5371, Zi (bA5371 : Int)]), b_A5371⟩, -⟩ := hf
      exact px (or_mono (f := Fct.val 40 (.slice A5371 ((lkM x5332 x5357).getD []).length cA5371)) (ok1 f_43) (fun own' a' w' v' hp h => fun _ _ _ h0' => by cases (f_43.symm.trans ((hp.2 43 (by decide)).symm.trans h0')); exact h))
     refine sc (fun own a wx hf hsl hE => ?_) ?_
     ·obtain ⟨(q_40 : ∀ (A5371 : Option Addr) (cA5371 : Nat) (bA5371 : Nat), a.eval (.tmp 43) = .tuple #[.slice A5371 ((lkM x5332 x5357).getD []).length cA5371, Zi (bA5371 : Int)] → a.eval (.tmp 40) = .slice A5371 ((lkM x5332 x5357).getD []).length cA5371), ⟨⟨⟨A5371, cA5371⟩, bA5371⟩, f_43, b_A5371⟩, ⟨⟨A5369, cA5369⟩, f_42, b_A5369⟩, b_elmx1_1, -⟩ := hf
      have f_40 := q_40 _ _ _ f_43
      exact px (or_mgrow (R := R3) (lab := 5372) (labE := 4) (lab2 := 5374) (L := []) (L3 := []) (y := ((A5371, cA5371), bA5371)) tp22 f_40 b_A5371 hK5368 b_elmx1_1 rfl f_42 (RwO.rd b_A5369) hx5373 (by decide) (by decide) (by decide) (mem_of rfl) rfl rfl (by decide) (.inl (Rep.fl_flat _)))
     refine sc (fun own a wx hf hsl hE => ?_) ?_
     ·obtain ⟨⟨⟨⟨A5371, cA5371⟩, bA5371⟩, (f_43 : a.eval (.tmp 43) = .tuple #[.slice A5371 ((lkM x5332 x5357).getD []).length cA5371, Zi (bA5371 : Int)]), b_A5371⟩, -⟩ := hf
      exact px (or_mono (f := Fct.val 45 (Zi (bA5371 : Int))) (ok1 f_43) (fun own' a' w' v' hp h => fun _ _ _ h0' => by cases (f_43.symm.trans ((hp.2 43 (by decide)).symm.trans h0')); exact h))
     refine sc (fun own a wx hf hsl hE => ?_) ?_
     ·obtain ⟨f_38, (q_45 : ∀ (A5371 : Option Addr) (cA5371 : Nat) (bA5371 : Nat), a.eval (.tmp 43) = .tuple #[.slice A5371 ((lkM x5332 x5357).getD []).length cA5371, Zi (bA5371 : Int)] → a.eval (.tmp 45) = Zi (bA5371 : Int)), ⟨⟨⟨A5371, cA5371⟩, bA5371⟩, f_43, b_A5371⟩, ⟨⟨⟨A5375, cA5375⟩, zs5375⟩, f_44, b_A5375⟩, -⟩ := hf
      have f_45 := q_45 _ _ _ f_43
      exact px (or_mput (R := R3) (lab := 5372) (lab2 := 5377) (labE := 5374) (L := []) (k := x5357) (y := ((A5371, cA5371), bA5371)) (z := (A5375, cA5375)) f_38 f_45 f_44 hK5368 b_A5371 b_A5375 (osome hD5376).symm (mem_of rfl) (by decide) rfl (fun own' a' w' hb => hb))
     exact steps_nil
    intro o5378 a5378 w5378 d5378 hz5378 hk5378 hf5378 hE5378
    obtain ⟨e5378_0, e5378_2, e5378_7, e5378_11, e5378_12, e5378_13, e5378_33⟩ := kt7 hk5378 e5363_0 e5363_2 e5363_7 e5363_11 e5363_12 e5363_13 e5363_33
    obtain ⟨(b5378_mx1_1 : MpN o5378 5377 5374 [] w5378 mx1_1 vv111 3 R3 D5376), -⟩ := hf5378 [11] rfl
    have hX5378 := Evo.stepK hX5364 hE5378 rfl
    obtain ⟨b5378_gx1, b5378_g2699, b5378_g5165, b5378_cA5307⟩ := be4 hE5378 b5364_gx1 b5364_g2699 b5364_g5165 b5364_cA5307
    have b5378_A5180 := re_ hE5378 b5364_A5180
    have b5378_A3605 := re_ hE5378 b5364_A3605
    have b5378_Al2 := RdO.evo rfl hE5378 b5364_Al2
    have b5378_rc := RcO.evo (by decide) hE5378 hrc5364
    have b5378_mk := MkO.evo (by decide) hE5378 hmk5364
    refine hn5365 _ _ ?_
    exact ⟨_, (rl [(5374, 4), (5377, 3)] o5378), osome hs, (Evo.rlK hX5378 rfl), (Evo.step hU5364 hown (Evo.rlK hX5378 rfl) rfl), (BlkO.rl_ b5378_gx1), (RwO.rl_ b5378_A5180), (MpN.rl_ b5378_mx1_1), (RwO.rl_ b5378_A3605), (BlkO.rl_ b5378_g2699), (BlkO.rl_ b5378_g5165), (RdO.rl_ b5378_Al2), (BlkO.rl_ b5378_cA5307)⟩
   ·rintro x5332 a5379 o5379 w5379 Ds5379 hzz5379 d5379 hz5379 hkp5379 hmk5379 ⟨hE5379, b5379_gx1, b5379_A5180, b5379_mx1_1, b5379_A3605, b5379_g2699, b5379_g5165, b5379_Al2, b5379_cA5307⟩
    subst hzz5379
    have hs : rows_Index_Add_b4 x3607 x3609 x5178 x5332 = some zz4495 := hs
    have e5379_0 : a5379.eval (.tmp 0) = pt gx1 0 := (hkp5379 0).trans e5309_0
    have e5379_2 : a5379.eval (.tmp 2) = pt g2699 0 := (hkp5379 2).trans e5309_2
    have e5379_7 : a5379.eval (.tmp 7) = pt g5165 0 := (hkp5379 7).trans e5309_7
    have e5379_11 : a5379.eval (.tmp 11) = sl Al2 l2 cl2 := (hkp5379 11).trans e5309_11
    have e5379_12 : a5379.eval (.tmp 12) = Zi (l2.length : Int) := (hkp5379 12).trans e5309_12
    have e5379_13 : a5379.eval (.tmp 13) = Zi x3609 := (hkp5379 13).trans e5309_13
    have e5379_33 : a5379.eval (.tmp 33) = .func (.func 64) #[] #[pt cA5307 0] := (hkp5379 33).trans e5309_33
    refine hn5310 _ _ ?_
    exact (K5284 _ _ (rl [(3608, 5282), (5181, 5277)] o5379) _ _ A3605 c3606 Ds5379 d5379 hz5379 e5379_0 e5379_2 e5379_11 e5379_12 e5379_13 (Evo.rl_ hE5379 hown rfl) (BlkO.rl_ b5379_gx1) (RwO.rl_ b5379_A5180) (MpN.rl_ b5379_mx1_1) (RwO.rl_ b5379_A3605) (BlkO.rl_ b5379_g2699) (RdO.rl_ b5379_Al2) (MkO.rl_ hmk5379) hs).1
   ·intro e; exact nomatch e
  refine fl_exit ?_
  refine hp4498 _ _ _ rfl ?_
  replace hs := hz4495 _ hs
  refine hp4495 _ _ _ rfl ?_
  refine hx2706 _ _ ?_
  refine hn2704 _ _ ?_
  refine rq_seq 69 o4497 (bz 6) [dv [] [2] 64 (pt gx1 0), dv [0] [] 65 (pt gx1 0), dv [1] [] 66 (pt gx1 0), dv [2] [] 67 (sl A3600 x3602 c3601), dv [3] [] 68 (Zi (x3602.length : Int)), dv [4] [] 4 (Zi (x3602.length : Int))] hz4497 d4497 ?_ ?_
  ·exact sL1 to70 e4497_2 b4497_g2699 <| sF (fun f => ok1 f.1) <| sF (fun f => or_field fo106_0 f.1 (by rfl)) <| sG to103 b4497_gx1 <| sF (fun f => or_len tu103 f.1 rfl) <| sA <| steps_nil
  intro o5380 a5380 w5380 d5380 hz5380 hk5380 hf5380 hE5380
  have e5380_0 := kt hk5380 e4497_0
  have e5380_4 := gv (hf5380 [5] rfl) rfl
  have hX5380 := Evo.step hX4497 hown hE5380 rfl
  have b5380_gx1 := be_ hE5380 b4497_gx1
  have b5380_A3600 := re_ hE5380 b4497_A3600
  have b5380_mx1_1 := MpN.evo rfl hE5380 b4497_mx1_1
  have b5380_A3605 := re_ hE5380 b4497_A3605
  have b5380_mk := MkO.evo (by decide) hE5380 b4497_mk
  refine fl_ret ?_
  refine hret _ _ _ _ _ (.inl rfl) d5380 b5380_mk (fun o5381 w5381 hE5381 => ?_)
  have hX5382 := Evo.step hX5380 hown hE5381 rfl
  have b5382_gx1 := be_ hE5381 b5380_gx1
  have b5382_A3600 := re_ hE5381 b5380_A3600
  have b5382_mx1_1 := MpN.evo rfl hE5381 b5380_mx1_1
  have b5382_A3605 := re_ hE5381 b5380_A3605
  obtain rfl := osome hs
  exact ⟨_, results1_ rfl (RVal.tmp_ e5380_4), ⟨(rl [(3599, 1), (3603, 2), (3608, 5)] o5381), ((A3600, c3601), (A3605, c3606)), rfl, (Evo.rl_ hX5382 hown rfl), (RwO.rl_ b5382_A3600), (MpN.rl_ b5382_mx1_1), (RwO.rl_ b5382_A3605), (BlkO.rl_ b5382_gx1)⟩⟩
theorem rows_New_w (w : World) (l1 : List ((Int × Int) × (Int × Int))) (Al1 : Option Addr) (cl1 : Nat) (hl1 : RdO (fun _ => 0) [0] w R80 Al1 cl1 l1) (r : (List ((Int × Int) × (Int × Int))) × (List ((Int × Int) × (List Int))) × (List Int)) (hs : rows_New l1 = some r) :
  Calls Try.prog 28 #[sl Al1 l1 cl1] w fun e w' => ∃ (own' : Own) (x : (Option Addr × Nat) × (Option Addr × Nat) × (Option Addr × Nat) × (Option Addr × Nat)), e = .returned (.pointer (some ⟨x.1.2, 0, none⟩)) ∧ Evo [] (fun _ => 0) own' w w' ∧ RwO own' 2 [] w' 80 R80 x.2.1.1 x.2.1.2 r.1 ∧ MpN own' 3 4 [] w' x.2.2.1.2 vv111 3 R3 r.2.1 ∧ RwO own' 5 [] w' 3 R3 x.2.2.2.1 x.2.2.2.2 r.2.2 ∧ BlkO own' 1 w' x.1.2 106 #[.slice x.2.1.1 r.1.length x.2.1.2, .map (some x.2.2.1.2), .slice x.2.2.2.1 r.2.2.length x.2.2.2.2] := by
 refine fl_enter (n := 11) rfl rfl rfl (Nat.le_of_ble_eq_true rfl) ?_
 intro a0 Q d0 hz0 harg hret
 have ha0 := harg 0 _ rfl
 clear harg
 have hE0 : Evo [] (fun _ => 0) (fun _ => 0) w w := Evo.refl _ _ _
 refine rq_seq 11 (fun _ => 0) (bz 1) [dv [] [] 2 (.pointer none)] hz0 d0 ?_ ?_
 ·exact sO (or_assign rfl) <| steps_nil
 intro o28 a28 w28 d28 hz28 hk28 hf28 hE28
 have e28_0 := kt hk28 ha0
 have hX28 := es_ hE0 hE28
 refine rq_seq 11 o28 (bz 4) [⟨[], [], [], Fct.mapn_ 30 31 [] 4 vv111 3 R3 ([] : List ((Int × Int) × (List Int)))⟩, ⟨[0], [], [], Fct.rel [5, 4] (fun l => ∀ (g29 : Nat), l.getD 1 undef = .map (some g29) → l.getD 0 undef = .agg #[.slice none 0 0, .map (some g29), .slice none 0 0])⟩, ⟨[1, 0], [], [], Fct.by_ [33] [6, 4] (fun l own w => ∃ g32 : Nat, l.getD 0 undef = pt g32 0 ∧ (∀ (g29 : Nat), l.getD 1 undef = .map (some g29) → BlkO own 33 w g32 106 #[.slice none 0 0, .map (some g29), .slice none 0 0])) (fun hk he h => by obtain ⟨g, e, h⟩ := h; exact ⟨g, e, fun _ h0' => BlkO.evo (not_hit hk (by decide)) he (h _ h0')⟩)⟩, ⟨[2, 0], [], [], Fct.rel [3, 6] (fun l => ∀ (g32 : Nat), l.getD 1 undef = pt g32 0 → l.getD 0 undef = pt g32 0)⟩] hz28 d28 ?_ ?_
 ·refine sO (or_makeMapN) ?_
  refine sc (fun own a wx hf hsl hE => ?_) ?_
  ·obtain ⟨⟨g29, (f_4 : a.eval (.tmp 4) = .map (some g29)), b_g29⟩, -⟩ := hf
   exact px (or_mono (f := Fct.val 5 (.agg #[.slice none 0 0, .map (some g29), .slice none 0 0])) (ok1 f_4) (fun own' a' w' v' hp h => fun _ h0' => by cases (f_4.symm.trans ((hp.2 4 (by decide)).symm.trans h0')); exact h))
  refine sc (fun own a wx hf hsl hE => ?_) ?_
  ·obtain ⟨(q_5 : ∀ (g29 : Nat), a.eval (.tmp 4) = .map (some g29) → a.eval (.tmp 5) = .agg #[.slice none 0 0, .map (some g29), .slice none 0 0]), ⟨g29, (f_4 : a.eval (.tmp 4) = .map (some g29)), b_g29⟩, -⟩ := hf
   have f_5 := q_5 _ f_4
   exact px (or_mono (f := Fct.blk 33 6 (fun g => pt g 0) 106 #[.slice none 0 0, .map (some g29), .slice none 0 0]) (nw1 f_5) (fun own' a' w' v' hp h => by obtain ⟨g, e, h⟩ := h; exact ⟨g, e, fun _ h0' => by cases (f_4.symm.trans ((hp.2 4 (by decide)).symm.trans h0')); exact h⟩))
  refine sc (fun own a wx hf hsl hE => ?_) ?_
  ·obtain ⟨⟨g32, (f_6 : a.eval (.tmp 6) = pt g32 0), (bq_g32 : ∀ (g29 : Nat), a.eval (.tmp 4) = .map (some g29) → BlkO own 33 wx g32 106 #[.slice none 0 0, .map (some g29), .slice none 0 0])⟩, ⟨g29, f_4, b_g29⟩, -⟩ := hf
   have b_g32 := bq_g32 _ f_4
   exact px (or_mono (f := Fct.val 3 (pt g32 0)) (or_assign f_6) (fun own' a' w' v' hp h => fun _ h0' => by cases (f_6.symm.trans ((hp.2 6 (by decide)).symm.trans h0')); exact h))
  exact steps_nil
 intro o34 a34 w34 d34 hz34 hk34 hf34 hE34
 have e34_0 := kt hk34 e28_0
 obtain ⟨⟨g29, (f_4 : a34.eval (.tmp 4) = .map (some g29)), (b34_g29 : MpN o34 30 31 [] w34 g29 vv111 3 R3 ([] : List ((Int × Int) × (List Int))))⟩, ⟨g32, (f_6 : a34.eval (.tmp 6) = pt g32 0), (bq_g32 : ∀ (g29 : Nat), a34.eval (.tmp 4) = .map (some g29) → BlkO o34 33 w34 g32 106 #[.slice none 0 0, .map (some g29), .slice none 0 0])⟩, (q_3 : ∀ (g32 : Nat), a34.eval (.tmp 6) = pt g32 0 → a34.eval (.tmp 3) = pt g32 0), -⟩ := hf34 [0, 2, 3] rfl
 have b34_g32 := bq_g32 _ f_4
 have e34_3 := q_3 _ f_6
 have hX34 := es_ hX28 hE34
 obtain ⟨r35, hr35, hs⟩ := obind hs
 refine rr_seq 11 [Fct.at_ 33 g32 106 #[.slice none 0 0, .map (some g29), .slice none 0 0], Fct.mapnAt 30 31 [] g29 vv111 3 R3 ([] : List ((Int × Int) × (List Int)))] o34 [33, 30, 31] [0, 0, 3] [dv [] [3] 7 (pt g32 0), dv [] [0] 8 (sl Al1 l1 cl1), ⟨[0, 1, 3, 4], [], [33, 30, 31], Fct.mems [38, 39, 40, 41, 42] 9 (fun (x : (Option Addr × Nat) × (Option Addr × Nat)) => Zi r35.1) (fun (x : (Option Addr × Nat) × (Option Addr × Nat)) own w => RwO own 38 [] w 80 R80 x.1.1 x.1.2 r35.2.1 ∧ MpN own 39 40 [] w g29 vv111 3 R3 r35.2.2.1 ∧ RwO own 41 [] w 3 R3 x.2.1 x.2.2 r35.2.2.2 ∧ BlkO own 42 w g32 106 #[.slice x.1.1 r35.2.1.length x.1.2, .map (some g29), .slice x.2.1 r35.2.2.2.length x.2.2]) (fun hk he h => ⟨RwO.evo (hits_sub hk (by decide)) he h.1, MpN.evo (hits_sub hk (by decide)) he h.2.1, RwO.evo (hits_sub hk (by decide)) he h.2.2.1, BlkO.evo (not_hit hk (by decide)) he h.2.2.2⟩)⟩] hz34 d34 (fm2 b34_g32 b34_g29) ?_ ?_
 ·refine sM e34_3 <| sM e34_0 ?_
  refine sc (fun own a wx hf hsl hE => ?_) ?_
  ·obtain ⟨f_7, f_8, b_g32, b_g29, -⟩ := hf
   exact px (or_call cf29 (args2 f_7 f_8) (rows_Index_Add_w _ (forth own (look0 [(30, 3), (31, 4), (33, 1)])) (([] : List ((Int × Int) × (Int × Int))), ([] : List ((Int × Int) × (List Int))), ([] : List Int)) g32 106 none 0 g29 none 0 l1 Al1 cl1 (look0_le rfl) (BlkO.forth_ (m := (look0 [(30, 3), (31, 4), (33, 1)])) b_g32) RwO.nil_ (MpN.forth_ (m := (look0 [(30, 3), (31, 4), (33, 1)])) b_g29) RwO.nil_ (RdO.forth_ (m := (look0 [(30, 3), (31, 4), (33, 1)])) (RdO.evo rfl hE (RdO.evo rfl hX34 hl1))) r35 hr35) (post_mems (m := (look0 [(30, 3), (31, 4), (33, 1)])) (m' := (look0 [(1, 42), (2, 38), (3, 39), (4, 40), (5, 41)])) (hm_of rfl) (fun own' w' a' x h1 h => ⟨x, h1, ⟨RwO.back_ h.1 (by decide) (.inl (Rep.fl_flat _)), MpN.back_ h.2.1 (by decide) (by decide) (.inl (Rep.fl_flat _)), RwO.back_ h.2.2.1 (by decide) (.inl (Rep.fl_flat _)), BlkO.back_ h.2.2.2 (by decide)⟩⟩)))
  exact steps_nil
 intro o43 a43 w43 d43 hz43 hk43 hf43 hE43
 have e43_3 := kt hk43 e34_3
 obtain ⟨⟨⟨⟨A36, cA36⟩, ⟨A37, cA37⟩⟩, (f_9 : a43.eval (.tmp 9) = Zi r35.1), (b43_A36 : RwO o43 38 [] w43 80 R80 A36 cA36 r35.2.1), (b43_g29 : MpN o43 39 40 [] w43 g29 vv111 3 R3 r35.2.2.1), (b43_A37 : RwO o43 41 [] w43 3 R3 A37 cA37 r35.2.2.2), (b43_g32 : BlkO o43 42 w43 g32 106 #[sl A36 r35.2.1 cA36, .map (some g29), sl A37 r35.2.2.2 cA37])⟩, -⟩ := hf43 [2] rfl
 have hX43 := es_ hX34 hE43
 refine rq_seq 11 o43 (bz 2) [dv [] [3] 10 (pt g32 0), dv [0] [] 2 (pt g32 0)] hz43 d43 ?_ ?_
 ·exact sM e43_3 <| sA <| steps_nil
 intro o44 a44 w44 d44 hz44 hk44 hf44 hE44
 have e44_2 := gv (hf44 [1] rfl) rfl
 have hX44 := es_ hX43 hE44
 have b44_g32 := be_ hE44 b43_g32
 have b44_g29 := MpN.evo rfl hE44 b43_g29
 have b44_A36 := re_ hE44 b43_A36
 have b44_A37 := re_ hE44 b43_A37
 refine fl_ret ?_
 obtain rfl := osome hs
 exact hret _ _ _ _ (.inl rfl) d44 (results1_ rfl (RVal.tmp_ e44_2)) ⟨(rl [(38, 2), (39, 3), (40, 4), (41, 5), (42, 1)] o44), ((none, g32), (A36, cA36), (none, g29), (A37, cA37)), rfl, (Evo.rl_ hX44 (fun _ => Nat.le_refl 0) rfl), (RwO.rl_ b44_A36), (MpN.rl_ b44_g29), (RwO.rl_ b44_A37), (BlkO.rl_ b44_g32)⟩
theorem exact_Less_w (w : World) (x1 : Int × Int) (b2 : Int × Int) (r : Bool) (hs : exact_Less x1 b2 = some r) :
  Calls Try.prog 51 #[P2 x1, P2 b2] w fun e w' => ∃ own' : Own, e = .returned (.bool r) ∧ Evo [] (fun _ => 0) own' w w' := by
 refine fl_enter (n := 24) rfl rfl rfl (Nat.le_of_ble_eq_true rfl) ?_
 intro a0 Q d0 hz0 harg hret
 have ha0 := harg 0 _ rfl
 have ha1 := harg 1 _ rfl
 clear harg
 have hE0 : Evo [] (fun _ => 0) (fun _ => 0) w w := Evo.refl _ _ _
 refine rq_seq 24 (fun _ => 0) [0, 0, 0] [⟨[], [0], [], Fct.blk 19 2 (fun g => pt g 0) 25 #[Zi x1.1, Zi x1.2]⟩, ⟨[], [1], [], Fct.blk 21 3 (fun g => pt g 0) 25 #[Zi b2.1, Zi b2.2]⟩, dv [] [] 4 (.bool false)] hz0 d0 ?_ ?_
 ·exact sS (fun s => nw1 (s.1.trans ha0)) <| sS (fun s => nw1 (s.1.trans ha1)) <| sO (or_assign rfl) <| steps_nil
 intro o22 a22 w22 d22 hz22 hk22 hf22 hE22
 obtain ⟨⟨g18, (e22_2 : a22.eval (.tmp 2) = pt g18 0), (b22_g18 : BlkO o22 19 w22 g18 25 #[Zi x1.1, Zi x1.2])⟩, ⟨g20, (e22_3 : a22.eval (.tmp 3) = pt g20 0), (b22_g20 : BlkO o22 21 w22 g20 25 #[Zi b2.1, Zi b2.2])⟩, -⟩ := hf22 [0, 1] rfl
 have hX22 := es_ hE0 hE22
 obtain ⟨x23, hx23, hs⟩ := obind hs
 refine rq_seq 24 o22 [0, 1, 0, 4, 15, 31, 63, 127, 63, 319, 1023, 2047, 4095, 8191, 4095, 20479, 65535, 131071, 262143, 524287] [dv [] [2] 5 (pt g18 0), dv [0] [] 6 (Zi x1.1), dv [] [3] 7 (pt g20 0), dv [2] [] 8 (Zi b2.1), dv [1, 3] [] 9 (.bool (decide (x1.1 < b2.1))), dv [4] [] 10 (.bool (decide (x1.1 < b2.1))), dc [5] [2] (!(decide (x1.1 < b2.1))) 11 (pt g18 0), dc [5, 6] [] (!(decide (x1.1 < b2.1))) 12 (Zi x1.1), dc [5] [3] (!(decide (x1.1 < b2.1))) 13 (pt g20 0), dc [5, 8] [] (!(decide (x1.1 < b2.1))) 14 (Zi b2.1), dc [5, 7, 9] [] (!(decide (x1.1 < b2.1))) 15 (.bool (decide (x1.1 = b2.1))), dc [5, 10] [] (!(decide (x1.1 < b2.1))) 16 (.bool (decide (x1.1 = b2.1))), dc [11] [2] ((!(decide (x1.1 < b2.1))) && (decide (x1.1 = b2.1))) 17 (pt g18 1), dc [11, 12] [] ((!(decide (x1.1 < b2.1))) && (decide (x1.1 = b2.1))) 18 (Zi x1.2), dc [11] [3] ((!(decide (x1.1 < b2.1))) && (decide (x1.1 = b2.1))) 19 (pt g20 1), dc [11, 14] [] ((!(decide (x1.1 < b2.1))) && (decide (x1.1 = b2.1))) 20 (Zi b2.2), dc [11, 13, 15] [] ((!(decide (x1.1 < b2.1))) && (decide (x1.1 = b2.1))) 21 (.bool (decide (x1.2 < b2.2))), dc [5, 11, 16] [] (!(decide (x1.1 < b2.1))) 22 (.bool x23), dv [5, 17] [] 23 (.bool ((decide (x1.1 < b2.1)) || x23)), dv [18] [] 4 (.bool ((decide (x1.1 < b2.1)) || x23))] hz22 d22 ?_ ?_
 ·exact sS (fun s => or_field fo25_0 (s.1.trans e22_2) (by rfl)) <| sG to3 b22_g18 <| sS (fun s => or_field fo25_0 (s.1.trans e22_3) (by rfl)) <| sG to3 b22_g20 <| sF (fun f => or_lss f.1 f.2.1 rfl) <| sV <| cF (fun _ s _ _ => or_field fo25_0 (s.1.trans e22_2) (by rfl)) <| cF (fun f _ hE hg => ld1 to3 (f.2.1.1 hg) (be_ hE b22_g18)) <| cF (fun _ s _ _ => or_field fo25_0 (s.1.trans e22_3) (by rfl)) <| cF (fun f _ hE hg => ld1 to3 (f.2.1.1 hg) (be_ hE b22_g20)) <| cF (fun f _ _ hg => or_eql (f.2.1.1 hg) (f.2.2.1.1 hg) rfl) <| cF (fun f _ _ hg => or_move (f.2.1.1 hg)) <| cTc (fun _ s _ _ => or_field fo25_1 (s.1.trans e22_2) (by rfl)) <| cTc (fun f _ hE hg => ld1 to3 (f.2.1.1 hg) (be_ hE b22_g18)) <| cTc (fun _ s _ _ => or_field fo25_1 (s.1.trans e22_3) (by rfl)) <| cTc (fun f _ hE hg => ld1 to3 (f.2.1.1 hg) (be_ hE b22_g20)) <| cTc (fun f _ _ hg => or_lss (f.2.1.1 hg) (f.2.2.1.1 hg) rfl) <| cF (fun f _ _ hg => or_and (f.2.1.1 hg) (fun hx => f.2.2.1.1 (gI hg hx)) rfl (osome hx23).symm) <| sF (fun f => or_or f.1 rfl (fun hx => f.2.1.1 hx) rfl) <| sA <| steps_nil
 intro o24 a24 w24 d24 hz24 hk24 hf24 hE24
 have e24_4 := gv (hf24 [19] rfl) rfl
 have hX24 := es_ hX22 hE24
 refine fl_ret ?_
 obtain rfl := osome hs
 exact hret _ _ _ _ (.inl rfl) d24 (results1_ rfl (RVal.tmp_ e24_4)) ⟨o24, rfl, hX24⟩
theorem guard_between_w (w : World) (x1 : Int × Int) (b2 : Int × Int) (r : (Int × Int) × (Int × Int)) (hs : guard_between x1 b2 = some r) :
  Calls Try.prog 30 #[P2 x1, P2 b2] w fun e w' => ∃ own' : Own, e = .returned (.agg #[Zi r.1.1, Zi r.1.2, Zi r.2.1, Zi r.2.2]) ∧ Evo [] (fun _ => 0) own' w w' := by
 refine fl_enter (n := 14) rfl rfl rfl (Nat.le_of_ble_eq_true rfl) ?_
 intro a0 Q d0 hz0 harg hret
 have ha0 := harg 0 _ rfl
 have ha1 := harg 1 _ rfl
 clear harg
 have hE0 : Evo [] (fun _ => 0) (fun _ => 0) w w := Evo.refl _ _ _
 refine rq_seq 14 (fun _ => 0) [0, 0, 0] [⟨[], [0], [], Fct.blk 27 2 (fun g => pt g 0) 25 #[Zi x1.1, Zi x1.2]⟩, ⟨[], [1], [], Fct.blk 29 3 (fun g => pt g 0) 25 #[Zi b2.1, Zi b2.2]⟩, ⟨[], [], [], Fct.blk 31 4 (fun g => pt g 0) 81 #[Zi 0, Zi 0, Zi 0, Zi 0]⟩] hz0 d0 ?_ ?_
 ·exact sS (fun s => nw1 (s.1.trans ha0)) <| sS (fun s => nw1 (s.1.trans ha1)) <| sO (nw0) <| steps_nil
 intro o32 a32 w32 d32 hz32 hk32 hf32 hE32
 obtain ⟨⟨g26, (e32_2 : a32.eval (.tmp 2) = pt g26 0), (b32_g26 : BlkO o32 27 w32 g26 25 #[Zi x1.1, Zi x1.2])⟩, ⟨g28, (e32_3 : a32.eval (.tmp 3) = pt g28 0), (b32_g28 : BlkO o32 29 w32 g28 25 #[Zi b2.1, Zi b2.2])⟩, ⟨g30, (e32_4 : a32.eval (.tmp 4) = pt g30 0), (b32_g30 : BlkO o32 31 w32 g30 81 #[Zi 0, Zi 0, Zi 0, Zi 0])⟩, -⟩ := hf32 [0, 1, 2] rfl
 have hX32 := es_ hE0 hE32
 refine fl_seq (fun Q33 hn33 hp33 => ?_)
 obtain ⟨r34, hr34, hs⟩ := obind hs
 refine rq_seq 14 o32 [0, 0, 3] [dv [] [3] 5 (P2 b2), dv [] [2] 6 (P2 x1), dv [0, 1] [] 7 (.bool r34)] hz32 d32 ?_ ?_
 ·exact sL ta25 e32_3 b32_g28 <| sL ta25 e32_2 b32_g26 <| sF (fun f => or_call cf51 (args2 f.1 f.2.1) (exact_Less_w _ b2 x1  r34 hr34) post_val) <| steps_nil
 intro o35 a35 w35 d35 hz35 hk35 hf35 hE35
 obtain ⟨e35_2, e35_3, e35_4⟩ := kt3 hk35 e32_2 e32_3 e32_4
 have e35_7 := gv (hf35 [2] rfl) rfl
 have hX35 := es_ hX32 hE35
 obtain ⟨b35_g26, b35_g28, b35_g30⟩ := be3 hE35 b32_g26 b32_g28 b32_g30
 refine fl_cond e35_7 hs (fun c36 hs => ?_) (fun c36 hs => ?_)
 ·refine rr_seq 14 [Fct.at_ 31 g30 81 #[Zi 0, Zi 0, Zi 0, Zi 0]] o35 [31] [0, 0, 3, 7] [dv [] [3] 8 (P2 b2), dv [] [2] 9 (P2 x1), dv [0, 1] [] 10 (.agg #[Zi b2.1, Zi b2.2, Zi x1.1, Zi x1.2]), ⟨[2, 4], [4], [31], Fct.at_ 37 g30 81 #[Zi b2.1, Zi b2.2, Zi x1.1, Zi x1.2]⟩] hz35 d35 (fm1 b35_g30) ?_ ?_
  ·refine sL ta25 e35_3 b35_g28 <| sL ta25 e35_2 b35_g26 <| sF (fun f => ok2 f.1 f.2.1) ?_
   refine sc (fun own a wx hf hsl hE => ?_) ?_
   ·obtain ⟨f_10, b_g30, -⟩ := hf
    obtain ⟨s_4, -⟩ := hsl
    exact px (or_store (l := #[Zi b2.1, Zi b2.2, Zi x1.1, Zi x1.2]) (lab := 31) (lab2 := 37) ts81 (s_4.trans e35_4) f_10 b_g30 (by simp) (by kernel_rfl) (mem_of rfl) (by decide) (by kernel_rfl) (fun own' a' w' ha hb => hb))
   exact steps_nil
  intro o38 a38 w38 d38 hz38 hk38 hf38 hE38
  have e38_4 := kt hk38 e35_4
  obtain ⟨(b38_g30 : BlkO o38 37 w38 g30 81 #[Zi b2.1, Zi b2.2, Zi x1.1, Zi x1.2]), -⟩ := hf38 [3] rfl
  have hX38 := es_ hX35 hE38
  refine fl_ret ?_
  refine hp33 _ _ _ rfl ?_
  obtain rfl := osome hs
  exact hret _ _ _ _ (.inl rfl) d38 (results1_ rfl (RVal.cell_ e38_4 (run_loadVarAgg (l := [Zi b2.1, Zi b2.2, Zi x1.1, Zi x1.2]) ta81 (Blk.cellsFrom b38_g30.2 0 rfl) rfl))) ⟨o38, rfl, hX38⟩
 refine fl_skip ?_
 refine hn33 _ _ ?_
 refine rr_seq 14 [Fct.at_ 31 g30 81 #[Zi 0, Zi 0, Zi 0, Zi 0]] o35 [31] [0, 0, 3, 7] [dv [] [2] 11 (P2 x1), dv [] [3] 12 (P2 b2), dv [0, 1] [] 13 (.agg #[Zi x1.1, Zi x1.2, Zi b2.1, Zi b2.2]), ⟨[2, 4], [4], [31], Fct.at_ 39 g30 81 #[Zi x1.1, Zi x1.2, Zi b2.1, Zi b2.2]⟩] hz35 d35 (fm1 b35_g30) ?_ ?_
 ·refine sL ta25 e35_2 b35_g26 <| sL ta25 e35_3 b35_g28 <| sF (fun f => ok2 f.1 f.2.1) ?_
  refine sc (fun own a wx hf hsl hE => ?_) ?_
  ·obtain ⟨f_13, b_g30, -⟩ := hf
   obtain ⟨s_4, -⟩ := hsl
   exact px (or_store (l := #[Zi x1.1, Zi x1.2, Zi b2.1, Zi b2.2]) (lab := 31) (lab2 := 39) ts81 (s_4.trans e35_4) f_13 b_g30 (by simp) (by kernel_rfl) (mem_of rfl) (by decide) (by kernel_rfl) (fun own' a' w' ha hb => hb))
  exact steps_nil
 intro o40 a40 w40 d40 hz40 hk40 hf40 hE40
 have e40_4 := kt hk40 e35_4
 obtain ⟨(b40_g30 : BlkO o40 39 w40 g30 81 #[Zi x1.1, Zi x1.2, Zi b2.1, Zi b2.2]), -⟩ := hf40 [3] rfl
 have hX40 := es_ hX35 hE40
 refine fl_ret ?_
 obtain rfl := osome hs
 exact hret _ _ _ _ (.inl rfl) d40 (results1_ rfl (RVal.cell_ e40_4 (run_loadVarAgg (l := [Zi x1.1, Zi x1.2, Zi b2.1, Zi b2.2]) ta81 (Blk.cellsFrom b40_g30.2 0 rfl) rfl))) ⟨o40, rfl, hX40⟩
set_option maxHeartbeats 2000000 in
theorem guard_New_w (w : World) (lines1 : List Int) (Alines1 : Option Addr) (clines1 : Nat) (l2 : List ((List (Int × Int)) × Int × Int)) (Al2 : Option Addr) (cl2 : Nat) (hlines1 : RdO (fun _ => 0) [0] w R3 Alines1 clines1 lines1) (hl2 : RdO (fun _ => 0) [0] w R63 Al2 cl2 l2) (r : (((List ((Int × Int) × (Int × Int))) × (List ((Int × Int) × (List Int))) × (List Int))) × (List Int) × (List (Int × Int)) × (List ((Int × Int) × Bool)) × (List (((Int × Int) × (Int × Int)) × Bool))) (hs : guard_New lines1 l2 = some r) :
  Calls Try.prog 7 #[sl Alines1 lines1 clines1, sl Al2 l2 cl2] w fun e w' => ∃ (own' : Own) (x : (Option Addr × Nat) × (Option Addr × Nat) × (Option Addr × Nat) × (Option Addr × Nat) × (Option Addr × Nat) × (Option Addr × Nat) × (Option Addr × Nat) × (Option Addr × Nat) × (Option Addr × Nat)), e = .returned (.pointer (some ⟨x.1.2, 0, none⟩)) ∧ Evo [] (fun _ => 0) own' w w' ∧ RwO own' 3 [] w' 80 R80 x.2.2.1.1 x.2.2.1.2 r.1.1 ∧ MpN own' 4 5 [] w' x.2.2.2.1.2 vv111 3 R3 r.1.2.1 ∧ RwO own' 6 [] w' 3 R3 x.2.2.2.2.1.1 x.2.2.2.2.1.2 r.1.2.2 ∧ BlkO own' 2 w' x.2.1.2 106 #[.slice x.2.2.1.1 r.1.1.length x.2.2.1.2, .map (some x.2.2.2.1.2), .slice x.2.2.2.2.1.1 r.1.2.2.length x.2.2.2.2.1.2] ∧ RwO own' 7 [] w' 3 R3 x.2.2.2.2.2.1.1 x.2.2.2.2.2.1.2 r.2.1 ∧ RwO own' 8 [] w' 25 R25 x.2.2.2.2.2.2.1.1 x.2.2.2.2.2.2.1.2 r.2.2.1 ∧ MpO own' 9 w' x.2.2.2.2.2.2.2.1.2 vv25 vv4 r.2.2.2.1 ∧ MpO own' 10 w' x.2.2.2.2.2.2.2.2.2 vv81 vv4 r.2.2.2.2 ∧ BlkO own' 1 w' x.1.2 77 #[.pointer (some ⟨x.2.1.2, 0, none⟩), .slice x.2.2.2.2.2.1.1 r.2.1.length x.2.2.2.2.2.1.2, .slice x.2.2.2.2.2.2.1.1 r.2.2.1.length x.2.2.2.2.2.2.1.2, .map (some x.2.2.2.2.2.2.2.1.2), .map (some x.2.2.2.2.2.2.2.2.2)] := by
 refine fl_enter (n := 91) rfl rfl rfl (Nat.le_of_ble_eq_true rfl) ?_
 intro a0 Q d0 hz0 harg hret
 have ha0 := harg 0 _ rfl
 have ha1 := harg 1 _ rfl
 clear harg
 have hE0 : Evo [] (fun _ => 0) (fun _ => 0) w w := Evo.refl _ _ _
 refine rq_seq 91 (fun _ => 0) (bz 1) [dv [] [] 4 (.pointer none)] hz0 d0 ?_ ?_
 ·exact sO (or_assign rfl) <| steps_nil
 intro o4604 a4604 w4604 d4604 hz4604 hk4604 hf4604 hE4604
 obtain ⟨e4604_0, e4604_1⟩ := kt2 hk4604 ha0 ha1
 have hX4604 := es_ hE0 hE4604
 obtain ⟨r4605, hr4605, hs⟩ := obind hs
 obtain ⟨x4616, hx4616, hs⟩ := obind hs
 refine rp_seq 91 o4604 [4615] [0, 1, 0, 5, 0, 0, 63, 127, 255] [⟨[], [], [], Fct.mems [4610, 4611, 4612, 4613, 4614] 10 (fun (x : (Option Addr × Nat) × (Option Addr × Nat) × (Option Addr × Nat) × (Option Addr × Nat)) => .pointer (some ⟨x.1.2, 0, none⟩)) (fun (x : (Option Addr × Nat) × (Option Addr × Nat) × (Option Addr × Nat) × (Option Addr × Nat)) own w => RwO own 4610 [] w 80 R80 x.2.1.1 x.2.1.2 r4605.1 ∧ MpN own 4611 4612 [] w x.2.2.1.2 vv111 3 R3 r4605.2.1 ∧ RwO own 4613 [] w 3 R3 x.2.2.2.1 x.2.2.2.2 r4605.2.2 ∧ BlkO own 4614 w x.1.2 106 #[.slice x.2.1.1 r4605.1.length x.2.1.2, .map (some x.2.2.1.2), .slice x.2.2.2.1 r4605.2.2.length x.2.2.2.2]) (fun hk he h => ⟨RwO.evo (hits_sub hk (by decide)) he h.1, MpN.evo (hits_sub hk (by decide)) he h.2.1, RwO.evo (hits_sub hk (by decide)) he h.2.2.1, BlkO.evo (not_hit hk (by decide)) he h.2.2.2⟩)⟩, ⟨[0], [], [], Fct.rel [11, 10] (fun l => ∀ (cA4606 : Nat), l.getD 1 undef = pt cA4606 0 → l.getD 0 undef = .agg #[pt cA4606 0])⟩, dv [] [0] 12 (sl Alines1 lines1 clines1), ⟨[2], [], [4615], Fct.row 4617 [] 13 3 R3 x4616⟩, ⟨[], [], [], Fct.map_ 4620 14 vv25 vv4 ([] : List ((Int × Int) × Bool))⟩, ⟨[], [], [], Fct.map_ 4622 15 vv81 vv4 ([] : List (((Int × Int) × (Int × Int)) × Bool))⟩, ⟨[1, 0, 3, 4, 5], [], [], Fct.rel [16, 10, 13, 14, 15] (fun l => ∀ (cA4606 : Nat) (A4618 : Option Addr) (cA4618 : Nat) (g4619 : Nat) (g4621 : Nat), l.getD 1 undef = pt cA4606 0 → l.getD 2 undef = sl A4618 x4616 cA4618 → l.getD 3 undef = .map (some g4619) → l.getD 4 undef = .map (some g4621) → l.getD 0 undef = .agg #[pt cA4606 0, sl A4618 x4616 cA4618, .slice none 0 0, .map (some g4619), .map (some g4621)])⟩, ⟨[6, 0, 3, 4, 5], [], [], Fct.by_ [4624] [17, 10, 13, 14, 15] (fun l own w => ∃ g4623 : Nat, l.getD 0 undef = pt g4623 0 ∧ (∀ (cA4606 : Nat) (A4618 : Option Addr) (cA4618 : Nat) (g4619 : Nat) (g4621 : Nat), l.getD 1 undef = pt cA4606 0 → l.getD 2 undef = sl A4618 x4616 cA4618 → l.getD 3 undef = .map (some g4619) → l.getD 4 undef = .map (some g4621) → BlkO own 4624 w g4623 77 #[pt cA4606 0, sl A4618 x4616 cA4618, .slice none 0 0, .map (some g4619), .map (some g4621)])) (fun hk he h => by obtain ⟨g, e, h⟩ := h; exact ⟨g, e, fun _ _ _ _ _ h0' h1' h2' h3' => BlkO.evo (not_hit hk (by decide)) he (h _ _ _ _ _ h0' h1' h2' h3')⟩)⟩, ⟨[7, 0, 3, 4, 5], [], [], Fct.rel [5, 17] (fun l => ∀ (g4623 : Nat), l.getD 1 undef = pt g4623 0 → l.getD 0 undef = pt g4623 0)⟩] hz4604 d4604 ?_ ?_
 ·refine sO (or_call cf28 (args1 rfl) (rows_New_w _ ([] : List ((Int × Int) × (Int × Int))) none 0 RdO.nil_ r4605 hr4605) (post_mems (m := (fun _ => 0)) (m' := (look0 [(1, 4614), (2, 4610), (3, 4611), (4, 4612), (5, 4613)])) (fun _ _ => .inl rfl) (fun own' w' a' x h1 h => ⟨x, h1, ⟨RwO.back_ h.1 (by decide) (.inl (Rep.fl_flat _)), MpN.back_ h.2.1 (by decide) (by decide) (.inl (Rep.fl_flat _)), RwO.back_ h.2.2.1 (by decide) (.inl (Rep.fl_flat _)), BlkO.back_ h.2.2.2 (by decide)⟩⟩))) ?_
  refine sc (fun own a wx hf hsl hE => ?_) ?_
  ·obtain ⟨⟨⟨⟨A4606, cA4606⟩, ⟨A4607, cA4607⟩, ⟨A4608, cA4608⟩, ⟨A4609, cA4609⟩⟩, (f_10 : a.eval (.tmp 10) = pt cA4606 0), b_A4607, b_cA4608, b_A4609, b_cA4606⟩, -⟩ := hf
   exact px (or_mono (f := Fct.val 11 (.agg #[pt cA4606 0])) (ok1 f_10) (fun own' a' w' v' hp h => fun _ h0' => by cases (f_10.symm.trans ((hp.2 10 (by decide)).symm.trans h0')); exact h))
  refine sM e4604_0 <| sFE (fun f hE => or_append (R := R3) (lab := 4615) (lab2 := 4617) (L := []) (L3 := []) tp22 rfl RwO.nil_ (by decide) f.1 (RdO.evo rfl hE (RdO.evo rfl hX4604 hlines1)) hx4616 (by decide) (by decide) (mem_of rfl) (.inl (Rep.fl_flat _))) <| sO (or_makeMap) <| sO (or_makeMap) ?_
  refine sc (fun own a wx hf hsl hE => ?_) ?_
  ·obtain ⟨(q_11 : ∀ (cA4606 : Nat), a.eval (.tmp 10) = pt cA4606 0 → a.eval (.tmp 11) = .agg #[pt cA4606 0]), ⟨⟨⟨A4606, cA4606⟩, ⟨A4607, cA4607⟩, ⟨A4608, cA4608⟩, ⟨A4609, cA4609⟩⟩, (f_10 : a.eval (.tmp 10) = pt cA4606 0), b_A4607, b_cA4608, b_A4609, b_cA4606⟩, ⟨⟨A4618, cA4618⟩, (f_13 : a.eval (.tmp 13) = sl A4618 x4616 cA4618), b_A4618⟩, ⟨g4619, (f_14 : a.eval (.tmp 14) = .map (some g4619)), b_g4619⟩, ⟨g4621, (f_15 : a.eval (.tmp 15) = .map (some g4621)), b_g4621⟩, -⟩ := hf
   have f_11 := q_11 _ f_10
   exact px (or_mono (f := Fct.val 16 (.agg #[pt cA4606 0, sl A4618 x4616 cA4618, .slice none 0 0, .map (some g4619), .map (some g4621)])) (ok4 f_11 f_13 f_14 f_15) (fun own' a' w' v' hp h => fun _ _ _ _ _ h0' h1' h2' h3' => by cases (f_10.symm.trans ((hp.2 10 (by decide)).symm.trans h0')); cases (f_13.symm.trans ((hp.2 13 (by decide)).symm.trans h1')); cases (f_14.symm.trans ((hp.2 14 (by decide)).symm.trans h2')); cases (f_15.symm.trans ((hp.2 15 (by decide)).symm.trans h3')); exact h))
  refine sc (fun own a wx hf hsl hE => ?_) ?_
  ·obtain ⟨(q_16 : ∀ (cA4606 : Nat) (A4618 : Option Addr) (cA4618 : Nat) (g4619 : Nat) (g4621 : Nat), a.eval (.tmp 10) = pt cA4606 0 → a.eval (.tmp 13) = sl A4618 x4616 cA4618 → a.eval (.tmp 14) = .map (some g4619) → a.eval (.tmp 15) = .map (some g4621) → a.eval (.tmp 16) = .agg #[pt cA4606 0, sl A4618 x4616 cA4618, .slice none 0 0, .map (some g4619), .map (some g4621)]), ⟨⟨⟨A4606, cA4606⟩, ⟨A4607, cA4607⟩, ⟨A4608, cA4608⟩, ⟨A4609, cA4609⟩⟩, (f_10 : a.eval (.tmp 10) = pt cA4606 0), b_A4607, b_cA4608, b_A4609, b_cA4606⟩, ⟨⟨A4618, cA4618⟩, (f_13 : a.eval (.tmp 13) = sl A4618 x4616 cA4618), b_A4618⟩, ⟨g4619, (f_14 : a.eval (.tmp 14) = .map (some g4619)), b_g4619⟩, ⟨g4621, (f_15 : a.eval (.tmp 15) = .map (some g4621)), b_g4621⟩, -⟩ := hf
   have f_16 := q_16 _ _ _ _ _ f_10 f_13 f_14 f_15
   exact px (or_mono (f := Fct.blk 4624 17 (fun g => pt g 0) 77 #[pt cA4606 0, sl A4618 x4616 cA4618, .slice none 0 0, .map (some g4619), .map (some g4621)]) (nw1 f_16) (fun own' a' w' v' hp h => by obtain ⟨g, e, h⟩ := h; exact ⟨g, e, fun _ _ _ _ _ h0' h1' h2' h3' => by cases (f_10.symm.trans ((hp.2 10 (by decide)).symm.trans h0')); cases (f_13.symm.trans ((hp.2 13 (by decide)).symm.trans h1')); cases (f_14.symm.trans ((hp.2 14 (by decide)).symm.trans h2')); cases (f_15.symm.trans ((hp.2 15 (by decide)).symm.trans h3')); exact h⟩))
  refine sc (fun own a wx hf hsl hE => ?_) ?_
  ·obtain ⟨⟨g4623, (f_17 : a.eval (.tmp 17) = pt g4623 0), (bq_g4623 : ∀ (cA4606 : Nat) (A4618 : Option Addr) (cA4618 : Nat) (g4619 : Nat) (g4621 : Nat), a.eval (.tmp 10) = pt cA4606 0 → a.eval (.tmp 13) = sl A4618 x4616 cA4618 → a.eval (.tmp 14) = .map (some g4619) → a.eval (.tmp 15) = .map (some g4621) → BlkO own 4624 wx g4623 77 #[pt cA4606 0, sl A4618 x4616 cA4618, .slice none 0 0, .map (some g4619), .map (some g4621)])⟩, ⟨⟨⟨A4606, cA4606⟩, ⟨A4607, cA4607⟩, ⟨A4608, cA4608⟩, ⟨A4609, cA4609⟩⟩, f_10, b_A4607, b_cA4608, b_A4609, b_cA4606⟩, ⟨⟨A4618, cA4618⟩, f_13, b_A4618⟩, ⟨g4619, f_14, b_g4619⟩, ⟨g4621, f_15, b_g4621⟩, -⟩ := hf
   have b_g4623 := bq_g4623 _ _ _ _ _ f_10 f_13 f_14 f_15
   exact px (or_mono (f := Fct.val 5 (pt g4623 0)) (or_assign f_17) (fun own' a' w' v' hp h => fun _ h0' => by cases (f_17.symm.trans ((hp.2 17 (by decide)).symm.trans h0')); exact h))
  exact steps_nil
 intro o4625 a4625 w4625 d4625 hz4625 hk4625 hf4625 hE4625
 have e4625_1 := kt hk4625 e4604_1
 obtain ⟨⟨⟨⟨A4606, cA4606⟩, ⟨A4607, cA4607⟩, ⟨A4608, cA4608⟩, ⟨A4609, cA4609⟩⟩, (f_10 : a4625.eval (.tmp 10) = pt cA4606 0), (b4625_A4607 : RwO o4625 4610 [] w4625 80 R80 A4607 cA4607 r4605.1), (b4625_cA4608 : MpN o4625 4611 4612 [] w4625 cA4608 vv111 3 R3 r4605.2.1), (b4625_A4609 : RwO o4625 4613 [] w4625 3 R3 A4609 cA4609 r4605.2.2), (b4625_cA4606 : BlkO o4625 4614 w4625 cA4606 106 #[sl A4607 r4605.1 cA4607, .map (some cA4608), sl A4609 r4605.2.2 cA4609])⟩, ⟨⟨A4618, cA4618⟩, (f_13 : a4625.eval (.tmp 13) = sl A4618 x4616 cA4618), (b4625_A4618 : RwO o4625 4617 [] w4625 3 R3 A4618 cA4618 x4616)⟩, ⟨g4619, (f_14 : a4625.eval (.tmp 14) = .map (some g4619)), (b4625_g4619 : MpO o4625 4620 w4625 g4619 vv25 vv4 ([] : List ((Int × Int) × Bool)))⟩, ⟨g4621, (f_15 : a4625.eval (.tmp 15) = .map (some g4621)), (b4625_g4621 : MpO o4625 4622 w4625 g4621 vv81 vv4 ([] : List (((Int × Int) × (Int × Int)) × Bool)))⟩, ⟨g4623, (f_17 : a4625.eval (.tmp 17) = pt g4623 0), (bq_g4623 : ∀ (cA4606 : Nat) (A4618 : Option Addr) (cA4618 : Nat) (g4619 : Nat) (g4621 : Nat), a4625.eval (.tmp 10) = pt cA4606 0 → a4625.eval (.tmp 13) = sl A4618 x4616 cA4618 → a4625.eval (.tmp 14) = .map (some g4619) → a4625.eval (.tmp 15) = .map (some g4621) → BlkO o4625 4624 w4625 g4623 77 #[pt cA4606 0, sl A4618 x4616 cA4618, .slice none 0 0, .map (some g4619), .map (some g4621)])⟩, (q_5 : ∀ (g4623 : Nat), a4625.eval (.tmp 17) = pt g4623 0 → a4625.eval (.tmp 5) = pt g4623 0), -⟩ := hf4625 [0, 3, 4, 5, 7, 8] rfl
 have b4625_g4623 := bq_g4623 _ _ _ _ _ f_10 f_13 f_14 f_15
 have e4625_5 := q_5 _ f_17
 have hX4625 := es_ hX4604 hE4625
 refine fl_seq (fun Q4626 hn4626 hp4626 => ?_)
 refine rq_seq 91 o4625 [0, 1, 0] [dv [] [1] 18 (sl Al2 l2 cl2), dv [0] [] 19 (Zi (l2.length : Int)), dv [] [] 20 (Zi 0)] hz4625 d4625 ?_ ?_
 ·exact sM e4625_1 <| sF (fun f => or_len tu23 f.1 rfl) <| sO (or_move rfl) <| steps_nil
 intro o4627 a4627 w4627 d4627 hz4627 hk4627 hf4627 hE4627
 have e4627_5 := kt hk4627 e4625_5
 have e4627_18 := gv (hf4627 [0] rfl) rfl
 have e4627_19 := gv (hf4627 [1] rfl) rfl
 have e4627_20 := gv (hf4627 [2] rfl) rfl
 have hX4627 := es_ hX4625 hE4627
 obtain ⟨b4627_cA4606, b4627_g4623⟩ := be2 hE4627 b4625_cA4606 b4625_g4623
 have b4627_A4607 := re_ hE4627 b4625_A4607
 have b4627_cA4608 := MpN.evo rfl hE4627 b4625_cA4608
 have b4627_A4609 := re_ hE4627 b4625_A4609
 have b4627_A4618 := re_ hE4627 b4625_A4618
 have b4627_g4619 := MpO.evo (by decide) hE4627 b4625_g4619
 have b4627_g4621 := MpO.evo (by decide) hE4627 b4625_g4621
 refine fl_block (fun Q4628 hn4628 hx4628 hp4628 => ?_)
 refine fl_loop (body := (fun s => guard_New_b1 l2 x4616 s.1 s.2.1 s.2.2.1 s.2.2.2.1 s.2.2.2.2.1 s.2.2.2.2.2.1 s.2.2.2.2.2.2)) (z := r) (show loopO _ _ = _ from hs) (fun (s : (List ((Int × Int) × (Int × Int))) × (List ((Int × Int) × (List Int))) × (List Int) × (List (Int × Int)) × (List ((Int × Int) × Bool)) × (List (((Int × Int) × (Int × Int)) × Bool)) × Int) a wx => match s with | (g6153, g6156, g6160, g6164, g6167, g6169, x6170) => ∃ (ox : Own) (A6151 : Option Addr) (c6152 : Nat) (A6158 : Option Addr) (c6159 : Nat) (A6162 : Option Addr) (c6163 : Nat), a.defers = [] ∧ a.tmps.size = 91 ∧ a.eval (.tmp 5) = pt g4623 0 ∧ a.eval (.tmp 18) = sl Al2 l2 cl2 ∧ a.eval (.tmp 19) = Zi (l2.length : Int) ∧ a.eval (.tmp 20) = Zi x6170 ∧ Evo [] (fun _ => 0) ox w wx ∧ BlkO ox 6149 wx g4623 77 #[pt cA4606 0, sl A4618 x4616 cA4618, sl A6162 g6164 c6163, .map (some g4619), .map (some g4621)] ∧ BlkO ox 6150 wx cA4606 106 #[sl A6151 g6153 c6152, .map (some cA4608), sl A6158 g6160 c6159] ∧ RwO ox 6154 [] wx 80 R80 A6151 c6152 g6153 ∧ MpN ox 6155 6157 [] wx cA4608 vv111 3 R3 g6156 ∧ RwO ox 6161 [] wx 3 R3 A6158 c6159 g6160 ∧ RwO ox 4617 [] wx 3 R3 A4618 cA4618 x4616 ∧ RwO ox 6165 [] wx 25 R25 A6162 c6163 g6164 ∧ MpO ox 6166 wx g4619 vv25 vv4 g6167 ∧ MpO ox 6168 wx g4621 vv81 vv4 g6169) ?_ ?_
 ·exact ⟨(rl [(4610, 6154), (4611, 6155), (4612, 6157), (4613, 6161), (4614, 6150), (4620, 6166), (4622, 6168), (4624, 6149)] o4627), A4607, cA4607, A4609, cA4609, none, 0, d4627, hz4627, e4627_5, e4627_18, e4627_19, e4627_20, (Evo.rl_ hX4627 (fun _ => Nat.le_refl 0) rfl), (BlkO.rl_ b4627_g4623), (BlkO.rl_ b4627_cA4606), (RwO.rl_ b4627_A4607), (MpN.rl_ b4627_cA4608), (RwO.rl_ b4627_A4609), (RwO.rl_ b4627_A4618), RwO.nil_, (MpO.rl_ b4627_g4619), (MpO.rl_ b4627_g4621)⟩
 ·rintro ⟨g6153, g6156, g6160, g6164, g6167, g6169, x6170⟩ zz7683 a7683 w7683 ⟨o7683, A6151, c6152, A6158, c6159, A6162, c6163, d7684, hz7684, e7684_5, e7684_18, e7684_19, e7684_20, hE7684, b7684_g4623, b7684_cA4606, b7684_A6151, b7684_cA4608, b7684_A6158, b7684_A4618, b7684_A6162, b7684_g4619, b7684_g4621⟩ hs Q7683 hn7683 hp7683 hz7683
  have hs : guard_New_b1 l2 x4616 g6153 g6156 g6160 g6164 g6167 g6169 x6170 = some zz7683 := hs
  refine rq_seq 91 o7683 (bz 1) [dv [] [20, 19] 21 (.bool (decide (x6170 < (l2.length : Int))))] hz7684 d7684 ?_ ?_
  ·exact sS (fun s => or_lss (s.1.trans e7684_20) (s.2.1.trans e7684_19) rfl) <| steps_nil
  intro o7685 a7685 w7685 d7685 hz7685 hk7685 hf7685 hE7685
  obtain ⟨e7685_5, e7685_18, e7685_19, e7685_20⟩ := kt4 hk7685 e7684_5 e7684_18 e7684_19 e7684_20
  have e7685_21 := gv (hf7685 [0] rfl) rfl
  have hX7685 := es_ hE7684 hE7685
  obtain ⟨b7685_g4623, b7685_cA4606⟩ := be2 hE7685 b7684_g4623 b7684_cA4606
  have b7685_A6151 := re_ hE7685 b7684_A6151
  have b7685_cA4608 := MpN.evo rfl hE7685 b7684_cA4608
  have b7685_A6158 := re_ hE7685 b7684_A6158
  have b7685_A4618 := re_ hE7685 b7684_A4618
  have b7685_A6162 := re_ hE7685 b7684_A6162
  have b7685_g4619 := MpO.evo (by decide) hE7685 b7684_g4619
  have b7685_g4621 := MpO.evo (by decide) hE7685 b7684_g4621
  refine fl_seq (fun Q7686 hn7686 hp7686 => ?_)
  refine fl_cond e7685_21 hs (fun c7687 hs => ?_) (fun c7687 hs => ?_)
  ·refine fl_skip ?_
   refine hn7686 _ _ ?_
   refine fl_seq (fun Q7688 hn7688 hp7688 => ?_)
   refine fl_block (fun Q7689 hn7689 hx7689 hp7689 => ?_)
   obtain ⟨x7690, hx7690, hs⟩ := obind hs
   refine rp_seq 91 o7685 [7693] [0, 1, 0, 7] [dv [] [18, 20] 22 (.pointer (some ((adr Al2).add ((x6170 : Int).toNat * R63.s)))), ⟨[0], [], [], Fct.nest X63 [0] 23 (fun (y : ((Option Addr × Nat) × Unit × Unit)) => .agg #[.slice y.1.1 x7690.1.length y.1.2, Zi x7690.2.1, Zi x7690.2.2]) x7690⟩, ⟨[], [], [], Fct.blk 7693 7 (fun g => pt g 0) 63 #[.slice none 0 0, Zi 0, Zi 0]⟩, ⟨[2, 1], [], [7693], Fct.by_ [7694] [7, 23] (fun l own w => ∃ g7692 : Nat, l.getD 0 undef = pt g7692 0 ∧ (∀ (A7691 : Option Addr) (cA7691 : Nat), l.getD 1 undef = .agg #[sl A7691 x7690.1 cA7691, Zi x7690.2.1, Zi x7690.2.2] → BlkO own 7694 w g7692 63 #[sl A7691 x7690.1 cA7691, Zi x7690.2.1, Zi x7690.2.2])) (fun hk he h => by obtain ⟨g, e, h⟩ := h; exact ⟨g, e, fun _ _ h0' => BlkO.evo (not_hit hk (by decide)) he (h _ _ h0')⟩)⟩] hz7685 d7685 ?_ ?_
   ·refine sS (fun s => or_index (R := R63) (l := l2) tl23 (s.1.trans e7685_18) (s.2.1.trans e7685_20) (RdO.some_ (RdO.evo rfl hX7685 hl2) hx7690) hx7690) <| sFE (fun f hE => or_loadN X63 0 3 ta63 f.1 (Addr.add_zero' _).symm (RdO.evo rfl hE (RdO.evo rfl hX7685 hl2)) hx7690 (fun _ => rfl) (fun _ => rfl)) <| sO (nw0) ?_
    refine sc (fun own a wx hf hsl hE => ?_) ?_
    ·obtain ⟨⟨g7692, f_7, b_g7692⟩, ⟨⟨⟨A7691, cA7691⟩, _, _⟩, (f_23 : a.eval (.tmp 23) = .agg #[sl A7691 x7690.1 cA7691, Zi x7690.2.1, Zi x7690.2.2]), ⟨b_A7691, -, -⟩⟩, -⟩ := hf
     exact px (or_store (l := #[sl A7691 x7690.1 cA7691, Zi x7690.2.1, Zi x7690.2.2]) (lab := 7693) (lab2 := 7694) ts63 f_7 f_23 b_g7692 (by simp) (by kernel_rfl) (mem_of rfl) (by decide) (by kernel_rfl) (fun own' a' w' ha hb => ⟨_, (ha 7).trans f_7, fun _ _ h0' => by cases (f_23.symm.trans ((ha 23).symm.trans h0')); exact hb⟩))
    exact steps_nil
   intro o7695 a7695 w7695 d7695 hz7695 hk7695 hf7695 hE7695
   obtain ⟨e7695_5, e7695_18, e7695_19, e7695_20⟩ := kt4 hk7695 e7685_5 e7685_18 e7685_19 e7685_20
   obtain ⟨⟨⟨⟨A7691, cA7691⟩, _, _⟩, (f_23 : a7695.eval (.tmp 23) = .agg #[sl A7691 x7690.1 cA7691, Zi x7690.2.1, Zi x7690.2.2]), ⟨(b7695_A7691 : RdO o7695 [0] w7695 R25 A7691 cA7691 x7690.1), -, -⟩⟩, ⟨g7692, (e7695_7 : a7695.eval (.tmp 7) = pt g7692 0), (bq_g7692 : ∀ (A7691 : Option Addr) (cA7691 : Nat), a7695.eval (.tmp 23) = .agg #[sl A7691 x7690.1 cA7691, Zi x7690.2.1, Zi x7690.2.2] → BlkO o7695 7694 w7695 g7692 63 #[sl A7691 x7690.1 cA7691, Zi x7690.2.1, Zi x7690.2.2])⟩, -⟩ := hf7695 [1, 3] rfl
   have b7695_g7692 := bq_g7692 _ _ f_23
   have hX7695 := es_ hX7685 hE7695
   obtain ⟨b7695_g4623, b7695_cA4606⟩ := be2 hE7695 b7685_g4623 b7685_cA4606
   have b7695_A6151 := re_ hE7695 b7685_A6151
   have b7695_cA4608 := MpN.evo rfl hE7695 b7685_cA4608
   have b7695_A6158 := re_ hE7695 b7685_A6158
   have b7695_A4618 := re_ hE7695 b7685_A4618
   have b7695_A6162 := re_ hE7695 b7685_A6162
   have b7695_g4619 := MpO.evo (by decide) hE7695 b7685_g4619
   have b7695_g4621 := MpO.evo (by decide) hE7695 b7685_g4621
   refine rq_seq 91 o7695 [0, 1, 3, 0] [dv [] [7] 24 (pt g7692 0), dv [0] [] 25 (sl A7691 x7690.1 cA7691), dv [1] [] 26 (Zi (x7690.1.length : Int)), dv [] [] 27 (Zi 0)] hz7695 d7695 ?_ ?_
   ·exact sS (fun s => or_field fo63_0 (s.1.trans e7695_7) (by rfl)) <| sG to55 b7695_g7692 <| sF (fun f => or_len tu55 f.1 rfl) <| sO (or_move rfl) <| steps_nil
   intro o7696 a7696 w7696 d7696 hz7696 hk7696 hf7696 hE7696
   obtain ⟨e7696_5, e7696_7, e7696_18, e7696_19, e7696_20⟩ := kt5 hk7696 e7695_5 e7695_7 e7695_18 e7695_19 e7695_20
   have e7696_25 := gv (hf7696 [1] rfl) rfl
   have e7696_26 := gv (hf7696 [2] rfl) rfl
   have e7696_27 := gv (hf7696 [3] rfl) rfl
   have hX7696 := es_ hX7695 hE7696
   obtain ⟨b7696_g4623, b7696_cA4606, b7696_g7692⟩ := be3 hE7696 b7695_g4623 b7695_cA4606 b7695_g7692
   have b7696_A6151 := re_ hE7696 b7695_A6151
   have b7696_cA4608 := MpN.evo rfl hE7696 b7695_cA4608
   have b7696_A6158 := re_ hE7696 b7695_A6158
   have b7696_A4618 := re_ hE7696 b7695_A4618
   have b7696_A6162 := re_ hE7696 b7695_A6162
   have b7696_g4619 := MpO.evo (by decide) hE7696 b7695_g4619
   have b7696_g4621 := MpO.evo (by decide) hE7696 b7695_g4621
   have b7696_A7691 := RdO.evo rfl hE7696 b7695_A7691
   refine fl_block (fun Q7697 hn7697 hx7697 hp7697 => ?_)
   refine fl_loop (body := (fun s => guard_New_b2 x6170 x7690 s.1 s.2.1 s.2.2.1 s.2.2.2.1 s.2.2.2.2.1 s.2.2.2.2.2.1 s.2.2.2.2.2.2)) (z := zz7683) (show loopO _ _ = _ from hs) (fun (s : (List ((Int × Int) × (Int × Int))) × (List ((Int × Int) × (List Int))) × (List Int) × (List (Int × Int)) × (List ((Int × Int) × Bool)) × (List (((Int × Int) × (Int × Int)) × Bool)) × Int) a wx => match s with | (g8188, g8191, g8195, g8199, g8202, g8204, x8205) => ∃ (ox : Own) (A8186 : Option Addr) (c8187 : Nat) (A8193 : Option Addr) (c8194 : Nat) (A8197 : Option Addr) (c8198 : Nat), a.defers = [] ∧ a.tmps.size = 91 ∧ a.eval (.tmp 5) = pt g4623 0 ∧ a.eval (.tmp 7) = pt g7692 0 ∧ a.eval (.tmp 18) = sl Al2 l2 cl2 ∧ a.eval (.tmp 19) = Zi (l2.length : Int) ∧ a.eval (.tmp 20) = Zi x6170 ∧ a.eval (.tmp 25) = sl A7691 x7690.1 cA7691 ∧ a.eval (.tmp 26) = Zi (x7690.1.length : Int) ∧ a.eval (.tmp 27) = Zi x8205 ∧ Evo [] (fun _ => 0) ox w wx ∧ BlkO ox 8184 wx g4623 77 #[pt cA4606 0, sl A4618 x4616 cA4618, sl A8197 g8199 c8198, .map (some g4619), .map (some g4621)] ∧ BlkO ox 8185 wx cA4606 106 #[sl A8186 g8188 c8187, .map (some cA4608), sl A8193 g8195 c8194] ∧ RwO ox 8189 [] wx 80 R80 A8186 c8187 g8188 ∧ MpN ox 8190 8192 [] wx cA4608 vv111 3 R3 g8191 ∧ RwO ox 8196 [] wx 3 R3 A8193 c8194 g8195 ∧ RwO ox 4617 [] wx 3 R3 A4618 cA4618 x4616 ∧ RwO ox 8200 [] wx 25 R25 A8197 c8198 g8199 ∧ MpO ox 8201 wx g4619 vv25 vv4 g8202 ∧ MpO ox 8203 wx g4621 vv81 vv4 g8204 ∧ BlkO ox 7694 wx g7692 63 #[sl A7691 x7690.1 cA7691, Zi x7690.2.1, Zi x7690.2.2] ∧ RdO ox [0] wx R25 A7691 cA7691 x7690.1) ?_ ?_
   ·exact ⟨(rl [(6149, 8184), (6150, 8185), (6154, 8189), (6155, 8190), (6157, 8192), (6161, 8196), (6165, 8200), (6166, 8201), (6168, 8203)] o7696), A6151, c6152, A6158, c6159, A6162, c6163, d7696, hz7696, e7696_5, e7696_7, e7696_18, e7696_19, e7696_20, e7696_25, e7696_26, e7696_27, (Evo.rl_ hX7696 (fun _ => Nat.le_refl 0) rfl), (BlkO.rl_ b7696_g4623), (BlkO.rl_ b7696_cA4606), (RwO.rl_ b7696_A6151), (MpN.rl_ b7696_cA4608), (RwO.rl_ b7696_A6158), (RwO.rl_ b7696_A4618), (RwO.rl_ b7696_A6162), (MpO.rl_ b7696_g4619), (MpO.rl_ b7696_g4621), (BlkO.rl_ b7696_g7692), (RdO.rl_ b7696_A7691)⟩
   ·rintro ⟨g8188, g8191, g8195, g8199, g8202, g8204, x8205⟩ zz8700 a8700 w8700 ⟨o8700, A8186, c8187, A8193, c8194, A8197, c8198, d8701, hz8701, e8701_5, e8701_7, e8701_18, e8701_19, e8701_20, e8701_25, e8701_26, e8701_27, hE8701, b8701_g4623, b8701_cA4606, b8701_A8186, b8701_cA4608, b8701_A8193, b8701_A4618, b8701_A8197, b8701_g4619, b8701_g4621, b8701_g7692, b8701_A7691⟩ hs Q8700 hn8700 hp8700 hz8700
    have hs : guard_New_b2 x6170 x7690 g8188 g8191 g8195 g8199 g8202 g8204 x8205 = some zz8700 := hs
    refine rq_seq 91 o8700 (bz 1) [dv [] [27, 26] 28 (.bool (decide (x8205 < (x7690.1.length : Int))))] hz8701 d8701 ?_ ?_
    ·exact sS (fun s => or_lss (s.1.trans e8701_27) (s.2.1.trans e8701_26) rfl) <| steps_nil
    intro o8702 a8702 w8702 d8702 hz8702 hk8702 hf8702 hE8702
    obtain ⟨e8702_5, e8702_7, e8702_18, e8702_19, e8702_20, e8702_25, e8702_26, e8702_27⟩ := kt8 hk8702 e8701_5 e8701_7 e8701_18 e8701_19 e8701_20 e8701_25 e8701_26 e8701_27
    have e8702_28 := gv (hf8702 [0] rfl) rfl
    have hX8702 := es_ hE8701 hE8702
    obtain ⟨b8702_g4623, b8702_cA4606, b8702_g7692⟩ := be3 hE8702 b8701_g4623 b8701_cA4606 b8701_g7692
    have b8702_A8186 := re_ hE8702 b8701_A8186
    have b8702_cA4608 := MpN.evo rfl hE8702 b8701_cA4608
    have b8702_A8193 := re_ hE8702 b8701_A8193
    have b8702_A4618 := re_ hE8702 b8701_A4618
    have b8702_A8197 := re_ hE8702 b8701_A8197
    have b8702_g4619 := MpO.evo (by decide) hE8702 b8701_g4619
    have b8702_g4621 := MpO.evo (by decide) hE8702 b8701_g4621
    have b8702_A7691 := RdO.evo rfl hE8702 b8701_A7691
    refine fl_seq (fun Q8703 hn8703 hp8703 => ?_)
    refine fl_cond e8702_28 hs (fun c8704 hs => ?_) (fun c8704 hs => ?_)
    ·refine fl_skip ?_
     refine hn8703 _ _ ?_
     refine fl_seq (fun Q8705 hn8705 hp8705 => ?_)
     refine fl_block (fun Q8950 hn8950 hx8950 hp8950 => ?_)
     have K9078 : ∀ (a9078 : Act) (w9078 : World) (o9078 : Own) (g9067 : List ((Int × Int) × (Int × Int))) (g9068 : List ((Int × Int) × (List Int))) (g9071 : List Int) (g9074 : List (Int × Int)) (g9075 : List ((Int × Int) × Bool)) (g9077 : List (((Int × Int) × (Int × Int)) × Bool)) (A9065 : Option Addr) (c9066 : Nat) (A9069 : Option Addr) (c9070 : Nat) (A9072 : Option Addr) (c9073 : Nat), a9078.defers = [] → a9078.tmps.size = 91 → a9078.eval (.tmp 5) = pt g4623 0 → a9078.eval (.tmp 7) = pt g7692 0 → a9078.eval (.tmp 18) = sl Al2 l2 cl2 → a9078.eval (.tmp 19) = Zi (l2.length : Int) → a9078.eval (.tmp 20) = Zi x6170 → a9078.eval (.tmp 25) = sl A7691 x7690.1 cA7691 → a9078.eval (.tmp 26) = Zi (x7690.1.length : Int) → a9078.eval (.tmp 27) = Zi x8205 → Evo [] (fun _ => 0) o9078 w w9078 → BlkO o9078 8995 w9078 g4623 77 #[pt cA4606 0, sl A4618 x4616 cA4618, sl A9072 g9074 c9073, .map (some g4619), .map (some g4621)] → BlkO o9078 8996 w9078 cA4606 106 #[sl A9065 g9067 c9066, .map (some cA4608), sl A9069 g9071 c9070] → RwO o9078 9000 [] w9078 80 R80 A9065 c9066 g9067 → MpN o9078 9001 9003 [] w9078 cA4608 vv111 3 R3 g9068 → RwO o9078 9007 [] w9078 3 R3 A9069 c9070 g9071 → RwO o9078 4617 [] w9078 3 R3 A4618 cA4618 x4616 → RwO o9078 9011 [] w9078 25 R25 A9072 c9073 g9074 → MpO o9078 9012 w9078 g4619 vv25 vv4 g9075 → MpO o9078 9076 w9078 g4621 vv81 vv4 g9077 → BlkO o9078 7694 w9078 g7692 63 #[sl A7691 x7690.1 cA7691, Zi x7690.2.1, Zi x7690.2.2] → RdO o9078 [0] w9078 R25 A7691 cA7691 x7690.1 → guard_New_k3 x8205 g9067 g9068 g9071 g9074 g9075 g9077 = some zz8700 → (Q8950 .normal a9078 w9078 ∧ Q8950 (.exit 3) a9078 w9078) := by
      intro a9078 w9078 o9078 g9067 g9068 g9071 g9074 g9075 g9077 A9065 c9066 A9069 c9070 A9072 c9073 d9079 hz9079 e9079_5 e9079_7 e9079_18 e9079_19 e9079_20 e9079_25 e9079_26 e9079_27 hE9079 b9079_g4623 b9079_cA4606 b9079_A9065 b9079_cA4608 b9079_A9069 b9079_A4618 b9079_A9072 b9079_g4619 b9079_g4621 b9079_g7692 b9079_A7691 hs
      refine and_both (hn8950 _ _) (hx8950 _ _) ?_
      refine hn8705 _ _ ?_
      refine rq 91 o9078 (bz 2) [dv [] [27] 88 (Zi (ad x8205 1)), dv [0] [] 27 (Zi (ad x8205 1))] hz9079 d9079 ?_ ?_
      ·exact sS (fun s => or_add (s.1.trans e9079_27) rfl rfl) <| sV <| steps_nil
      intro o9080 a9080 w9080 d9080 hz9080 hk9080 hf9080 hE9080
      obtain ⟨e9080_5, e9080_7, e9080_18, e9080_19, e9080_20, e9080_25, e9080_26⟩ := kt7 hk9080 e9079_5 e9079_7 e9079_18 e9079_19 e9079_20 e9079_25 e9079_26
      have e9080_27 := gv (hf9080 [1] rfl) rfl
      have hX9080 := es_ hE9079 hE9080
      obtain ⟨b9080_g4623, b9080_cA4606, b9080_g7692⟩ := be3 hE9080 b9079_g4623 b9079_cA4606 b9079_g7692
      have b9080_A9065 := re_ hE9080 b9079_A9065
      have b9080_cA4608 := MpN.evo rfl hE9080 b9079_cA4608
      have b9080_A9069 := re_ hE9080 b9079_A9069
      have b9080_A4618 := re_ hE9080 b9079_A4618
      have b9080_A9072 := re_ hE9080 b9079_A9072
      have b9080_g4619 := MpO.evo (by decide) hE9080 b9079_g4619
      have b9080_g4621 := MpO.evo (by decide) hE9080 b9079_g4621
      have b9080_A7691 := RdO.evo rfl hE9080 b9079_A7691
      exact hn8700 _ _ _ hs ⟨(rl [(8995, 8184), (8996, 8185), (9000, 8189), (9001, 8190), (9003, 8192), (9007, 8196), (9011, 8200), (9012, 8201), (9076, 8203)] o9080), A9065, c9066, A9069, c9070, A9072, c9073, d9080, hz9080, e9080_5, e9080_7, e9080_18, e9080_19, e9080_20, e9080_25, e9080_26, e9080_27, (Evo.rl_ hX9080 (fun _ => Nat.le_refl 0) rfl), (BlkO.rl_ b9080_g4623), (BlkO.rl_ b9080_cA4606), (RwO.rl_ b9080_A9065), (MpN.rl_ b9080_cA4608), (RwO.rl_ b9080_A9069), (RwO.rl_ b9080_A4618), (RwO.rl_ b9080_A9072), (MpO.rl_ b9080_g4619), (MpO.rl_ b9080_g4621), (BlkO.rl_ b9080_g7692), (RdO.rl_ b9080_A7691)⟩
     obtain ⟨x9081, hx9081, hs⟩ := obind hs
     refine rp_seq 91 o8702 [9083] [0, 0, 2, 0, 15, 31] [dv [] [27] 29 (Zi x8205), dv [] [25, 27] 30 (.pointer (some ((adr A7691).add ((x8205 : Int).toNat * R25.s)))), dv [1] [] 31 (P2 x9081), ⟨[], [], [], Fct.blk 9083 9 (fun g => pt g 0) 25 #[Zi 0, Zi 0]⟩, dv [0] [] 8 (Zi x8205), ⟨[3, 2], [], [9083], Fct.blk 9084 9 (fun g => pt g 0) 25 #[Zi x9081.1, Zi x9081.2]⟩] hz8702 d8702 ?_ ?_
     ·refine sM e8702_27 <| sS (fun s => or_index (R := R25) (l := x7690.1) tl55 (s.1.trans e8702_25) (s.2.1.trans e8702_27) (RdO.some_ b8702_A7691 hx9081) hx9081) <| sFE (fun f hE => or_load (l := E25.f x9081) ta25 f.1 (RdO.cells (F := E25) (RdO.evo rfl hE b8702_A7691) hx9081) rfl) <| sO (nw0) <| sA ?_
      refine sc (fun own a wx hf hsl hE => ?_) ?_
      ·obtain ⟨⟨g9082, f_9, b_g9082⟩, f_31, -⟩ := hf
       exact px (or_store (l := #[Zi x9081.1, Zi x9081.2]) (lab := 9083) (lab2 := 9084) ts25 f_9 f_31 b_g9082 (by simp) (by kernel_rfl) (mem_of rfl) (by decide) (by kernel_rfl) (fun own' a' w' ha hb => ⟨_, (ha 9).trans f_9, hb⟩))
      exact steps_nil
     intro o9085 a9085 w9085 d9085 hz9085 hk9085 hf9085 hE9085
     obtain ⟨e9085_5, e9085_7, e9085_18, e9085_19, e9085_20, e9085_25, e9085_26, e9085_27⟩ := kt8 hk9085 e8702_5 e8702_7 e8702_18 e8702_19 e8702_20 e8702_25 e8702_26 e8702_27
     have e9085_8 := gv (hf9085 [4] rfl) rfl
     obtain ⟨⟨g9082, (e9085_9 : a9085.eval (.tmp 9) = pt g9082 0), (b9085_g9082 : BlkO o9085 9084 w9085 g9082 25 #[Zi x9081.1, Zi x9081.2])⟩, -⟩ := hf9085 [5] rfl
     have hX9085 := es_ hX8702 hE9085
     obtain ⟨b9085_g4623, b9085_cA4606, b9085_g7692⟩ := be3 hE9085 b8702_g4623 b8702_cA4606 b8702_g7692
     have b9085_A8186 := re_ hE9085 b8702_A8186
     have b9085_cA4608 := MpN.evo rfl hE9085 b8702_cA4608
     have b9085_A8193 := re_ hE9085 b8702_A8193
     have b9085_A4618 := re_ hE9085 b8702_A4618
     have b9085_A8197 := re_ hE9085 b8702_A8197
     have b9085_g4619 := MpO.evo (by decide) hE9085 b8702_g4619
     have b9085_g4621 := MpO.evo (by decide) hE9085 b8702_g4621
     have b9085_A7691 := RdO.evo rfl hE9085 b8702_A7691
     refine fl_seq (fun Q9086 hn9086 hp9086 => ?_)
     have K9144 : ∀ (a9144 : Act) (w9144 : World) (o9144 : Own) (g9129 : List ((Int × Int) × (Int × Int))) (g9132 : List ((Int × Int) × (List Int))) (g9136 : List Int) (g9140 : List (Int × Int)) (g9143 : List ((Int × Int) × Bool)) (A9127 : Option Addr) (c9128 : Nat) (A9134 : Option Addr) (c9135 : Nat) (A9138 : Option Addr) (c9139 : Nat), a9144.defers = [] → a9144.tmps.size = 91 → a9144.eval (.tmp 5) = pt g4623 0 → a9144.eval (.tmp 7) = pt g7692 0 → a9144.eval (.tmp 8) = Zi x8205 → a9144.eval (.tmp 9) = pt g9082 0 → a9144.eval (.tmp 18) = sl Al2 l2 cl2 → a9144.eval (.tmp 19) = Zi (l2.length : Int) → a9144.eval (.tmp 20) = Zi x6170 → a9144.eval (.tmp 25) = sl A7691 x7690.1 cA7691 → a9144.eval (.tmp 26) = Zi (x7690.1.length : Int) → a9144.eval (.tmp 27) = Zi x8205 → Evo [] (fun _ => 0) o9144 w w9144 → BlkO o9144 9125 w9144 g4623 77 #[pt cA4606 0, sl A4618 x4616 cA4618, sl A9138 g9140 c9139, .map (some g4619), .map (some g4621)] → BlkO o9144 9126 w9144 cA4606 106 #[sl A9127 g9129 c9128, .map (some cA4608), sl A9134 g9136 c9135] → RwO o9144 9130 [] w9144 80 R80 A9127 c9128 g9129 → MpN o9144 9131 9133 [] w9144 cA4608 vv111 3 R3 g9132 → RwO o9144 9137 [] w9144 3 R3 A9134 c9135 g9136 → RwO o9144 4617 [] w9144 3 R3 A4618 cA4618 x4616 → RwO o9144 9141 [] w9144 25 R25 A9138 c9139 g9140 → MpO o9144 9142 w9144 g4619 vv25 vv4 g9143 → MpO o9144 8203 w9144 g4621 vv81 vv4 g8204 → BlkO o9144 7694 w9144 g7692 63 #[sl A7691 x7690.1 cA7691, Zi x7690.2.1, Zi x7690.2.2] → RdO o9144 [0] w9144 R25 A7691 cA7691 x7690.1 → BlkO o9144 9084 w9144 g9082 25 #[Zi x9081.1, Zi x9081.2] → guard_New_k4 x7690 g8204 x8205 x9081 g9129 g9132 g9136 g9140 g9143 = some zz8700 → Q9086 .normal a9144 w9144 := by
      intro a9144 w9144 o9144 g9129 g9132 g9136 g9140 g9143 A9127 c9128 A9134 c9135 A9138 c9139 d9145 hz9145 e9145_5 e9145_7 e9145_8 e9145_9 e9145_18 e9145_19 e9145_20 e9145_25 e9145_26 e9145_27 hE9145 b9145_g4623 b9145_cA4606 b9145_A9127 b9145_cA4608 b9145_A9134 b9145_A4618 b9145_A9138 b9145_g4619 b9145_g4621 b9145_g7692 b9145_A7691 b9145_g9082 hs
      refine hn9086 _ _ ?_
      obtain ⟨x9146, hx9146, hs⟩ := obind hs
      obtain ⟨x9147, hx9147, hs⟩ := obind hs
      refine rd_seq g_mixed 91 [] o9144 [] [0, 1, 3, 7, 15, 7, 39, 127, 255, 7, 1023, 2047] [dv [] [8] 64 (Zi x8205), dv [0] [] 65 (.bool (decide (0 < x8205))), dv [1] [] 66 (.bool (decide (0 < x8205))), dc [2] [7] (decide (0 < x8205)) 67 (pt g7692 0), dc [2, 3] [] (decide (0 < x8205)) 68 (sl A7691 x7690.1 cA7691), dc [2] [8] (decide (0 < x8205)) 69 (Zi x8205), dc [2, 5] [] (decide (0 < x8205)) 70 (Zi (sb x8205 1)), dc [2, 4, 6] [] (decide (0 < x8205)) 71 (.pointer (some ((adr A7691).add ((sb x8205 1 : Int).toNat * R25.s)))), dc [2, 7] [] (decide (0 < x8205)) 72 (P2 x9146), dc [2] [9] (decide (0 < x8205)) 73 (P2 x9081), dc [2, 8, 9] [] (decide (0 < x8205)) 74 (.bool (!decide (x9146 = x9081))), dv [2, 10] [] 75 (.bool x9147)] hz9145 d9145 nm_ ?_ ?_
      ·exact sM e9145_8 <| sF (fun f => or_gtr f.1 rfl rfl) <| sV <| cT (fun _ s _ _ => or_field fo63_0 (s.1.trans e9145_7) (by rfl)) <| cT (fun f _ hE hg => ld1 to55 (f.2.1.1 hg) (be_ hE b9145_g7692)) <| cT (fun _ s _ _ => or_move (s.1.trans e9145_8)) <| cT (fun f _ _ hg => or_sub (f.2.1.1 hg) rfl rfl) <| cT (fun f _ _ hg => or_index (R := R25) (l := x7690.1) tl55 (f.2.1.1 hg) (f.2.2.1.1 hg) (RdO.some_ b9145_A7691 (gd_t hx9146 hg)) (gd_t hx9146 hg)) <| cT (fun f _ hE hg => or_load (l := E25.f x9146) ta25 (f.2.1.1 hg) (RdO.cells (F := E25) (RdO.evo rfl hE b9145_A7691) (gd_t hx9146 hg)) rfl) <| cTL ta25 e9145_9 b9145_g9082 <| cT (fun f _ _ hg => or_neqA sg25 (f.2.1.1 hg) (f.2.2.1.1 hg) (sn25 x9146.1 x9146.2 x9081.1 x9081.2 _) rfl) <| sF (fun f => or_and f.1 (fun hx => f.2.1.1 hx) rfl (osome hx9147).symm) <| steps_nil
      intro o9148 a9148 w9148 d9148 hz9148 hk9148 hf9148 hE9148
      obtain ⟨e9148_5, e9148_7, e9148_8, e9148_9, e9148_18, e9148_19, e9148_20, e9148_25⟩ := kt8 hk9148 e9145_5 e9145_7 e9145_8 e9145_9 e9145_18 e9145_19 e9145_20 e9145_25
      obtain ⟨e9148_26, e9148_27⟩ := kt2 hk9148 e9145_26 e9145_27
      have e9148_75 := gv (hf9148 [11] rfl) rfl
      have hX9148 := es_ hE9145 hE9148
      obtain ⟨b9148_g4623, b9148_cA4606, b9148_g7692, b9148_g9082⟩ := be4 hE9148 b9145_g4623 b9145_cA4606 b9145_g7692 b9145_g9082
      have b9148_A9127 := re_ hE9148 b9145_A9127
      have b9148_cA4608 := MpN.evo rfl hE9148 b9145_cA4608
      have b9148_A9134 := re_ hE9148 b9145_A9134
      have b9148_A4618 := re_ hE9148 b9145_A4618
      have b9148_A9138 := re_ hE9148 b9145_A9138
      have b9148_g4619 := MpO.evo (by decide) hE9148 b9145_g4619
      have b9148_g4621 := MpO.evo (by decide) hE9148 b9145_g4621
      have b9148_A7691 := RdO.evo rfl hE9148 b9145_A7691
      refine fl_cond e9148_75 hs (fun c9149 hs => ?_) (fun c9149 hs => ?_)
      ·obtain ⟨x9152, hx9152, hs⟩ := obind hs
       obtain ⟨r9153, hr9153, hs⟩ := obind hs
       obtain ⟨D9154, hD9154, hs⟩ := obind hs
       refine rd_ g_mixed 91 [Fct.mapAt 8203 g4621 vv81 vv4 g8204] o9148 [8203] [0, 1, 3, 7, 0, 16, 0, 64, 240, 496, 0, 2032, 4095] [dv [] [5] 76 (pt g4623 0), dv [0] [] 77 (pt g4623 0), dv [1] [] 78 (pt g4623 4), dv [2] [] 79 (.map (some g4621)), dv [] [7] 80 (pt g7692 0), dv [4] [] 81 (sl A7691 x7690.1 cA7691), dv [] [8] 82 (Zi x8205), dv [6] [] 83 (Zi (sb x8205 1)), dv [5, 7] [] 84 (.pointer (some ((adr A7691).add ((sb x8205 1 : Int).toNat * R25.s)))), dv [8] [] 85 (P2 x9152), dv [] [9] 86 (P2 x9081), dv [9, 10] [] 87 (.agg #[Zi r9153.1.1, Zi r9153.1.2, Zi r9153.2.1, Zi r9153.2.2]), ⟨[3, 11, 13], [], [8203], Fct.mapAt 9155 g4621 vv81 vv4 D9154⟩] hz9148 d9148 (fm1 b9148_g4621) ?_ ?_
       ·refine sM e9148_5 <| sF (fun f => ok1 f.1) <| sF (fun f => or_field fo77_4 f.1 (by rfl)) <| sG to75 b9148_g4623 <| sS (fun s => or_field fo63_0 (s.1.trans e9148_7) (by rfl)) <| sG to55 b9148_g7692 <| sM e9148_8 <| sF (fun f => or_sub f.1 rfl rfl) <| sF (fun f => or_index (R := R25) (l := x7690.1) tl55 f.1 f.2.1 (RdO.some_ b9148_A7691 hx9152) hx9152) <| sFE (fun f hE => or_load (l := E25.f x9152) ta25 f.1 (RdO.cells (F := E25) (RdO.evo rfl hE b9148_A7691) hx9152) rfl) <| sL ta25 e9148_9 b9148_g9082 <| sF (fun f => or_call cf30 (args2 f.1 f.2.1) (guard_between_w _ x9152 x9081  r9153 hr9153) post_val) ?_
        refine sc (fun own a wx hf hsl hE => ?_) ?_
        ·obtain ⟨f_79, f_87, b_g4621, -⟩ := hf
         exact px (or_mapUpdate (kf := vv81) (vf := vv4) (k := r9153) (v := true) (lab := 8203) (lab2 := 9155) ko81 tm75 f_79 f_87 rfl b_g4621 (osome hD9154).symm (mem_of rfl) (by decide) (fun own' a' w' hb => hb))
        exact steps_nil
       intro o9156 a9156 w9156 d9156 hz9156 hk9156 hf9156 hE9156
       obtain ⟨e9156_5, e9156_7, e9156_18, e9156_19, e9156_20, e9156_25, e9156_26, e9156_27⟩ := kt8 hk9156 e9148_5 e9148_7 e9148_18 e9148_19 e9148_20 e9148_25 e9148_26 e9148_27
       obtain ⟨(b9156_g4621 : MpO o9156 9155 w9156 g4621 vv81 vv4 D9154), -⟩ := hf9156 [12] rfl
       have hX9156 := es_ hX9148 hE9156
       obtain ⟨b9156_g4623, b9156_cA4606, b9156_g7692⟩ := be3 hE9156 b9148_g4623 b9148_cA4606 b9148_g7692
       have b9156_A9127 := re_ hE9156 b9148_A9127
       have b9156_cA4608 := MpN.evo rfl hE9156 b9148_cA4608
       have b9156_A9134 := re_ hE9156 b9148_A9134
       have b9156_A4618 := re_ hE9156 b9148_A4618
       have b9156_A9138 := re_ hE9156 b9148_A9138
       have b9156_g4619 := MpO.evo (by decide) hE9156 b9148_g4619
       have b9156_A7691 := RdO.evo rfl hE9156 b9148_A7691
       exact (K9078 _ _ (rl [(9125, 8995), (9126, 8996), (9130, 9000), (9131, 9001), (9133, 9003), (9137, 9007), (9141, 9011), (9142, 9012), (9155, 9076)] o9156) _ _ _ _ _ _ A9127 c9128 A9134 c9135 A9138 c9139 d9156 hz9156 e9156_5 e9156_7 e9156_18 e9156_19 e9156_20 e9156_25 e9156_26 e9156_27 (Evo.rl_ hX9156 (fun _ => Nat.le_refl 0) rfl) (BlkO.rl_ b9156_g4623) (BlkO.rl_ b9156_cA4606) (RwO.rl_ b9156_A9127) (MpN.rl_ b9156_cA4608) (RwO.rl_ b9156_A9134) (RwO.rl_ b9156_A4618) (RwO.rl_ b9156_A9138) (MpO.rl_ b9156_g4619) (MpO.rl_ b9156_g4621) (BlkO.rl_ b9156_g7692) (RdO.rl_ b9156_A7691) hs).1
      refine fl_skip ?_
      exact (K9078 _ _ (rl [(8203, 9076), (9125, 8995), (9126, 8996), (9130, 9000), (9131, 9001), (9133, 9003), (9137, 9007), (9141, 9011), (9142, 9012)] o9148) _ _ _ _ _ _ A9127 c9128 A9134 c9135 A9138 c9139 d9148 hz9148 e9148_5 e9148_7 e9148_18 e9148_19 e9148_20 e9148_25 e9148_26 e9148_27 (Evo.rl_ hX9148 (fun _ => Nat.le_refl 0) rfl) (BlkO.rl_ b9148_g4623) (BlkO.rl_ b9148_cA4606) (RwO.rl_ b9148_A9127) (MpN.rl_ b9148_cA4608) (RwO.rl_ b9148_A9134) (RwO.rl_ b9148_A4618) (RwO.rl_ b9148_A9138) (MpO.rl_ b9148_g4619) (MpO.rl_ b9148_g4621) (BlkO.rl_ b9148_g7692) (RdO.rl_ b9148_A7691) hs).1
     refine rd_seq g_mixed 91 [] o9085 [] [0, 1, 3, 7, 0, 31, 63] [dv [] [5] 32 (pt g4623 0), dv [0] [] 33 (pt g4623 0), dv [1] [] 34 (pt g4623 3), dv [2] [] 35 (.map (some g4619)), dv [] [9] 36 (P2 x9081), dv [3, 4] [] 37 (.bool ((lkM g8202 x9081).getD false)), dv [5] [] 38 (.bool (!((lkM g8202 x9081).getD false)))] hz9085 d9085 nm_ ?_ ?_
     ·exact sM e9085_5 <| sF (fun f => ok1 f.1) <| sF (fun f => or_field fo77_3 f.1 (by rfl)) <| sG to74 b9085_g4623 <| sL ta25 e9085_9 b9085_g9082 <| sFE (fun f hE => or_lookupE (kf := vv25) (vf := vv4) (k := x9081) (dv := false) ko25 tm74 tzv74 f.1 f.2.1 (MpO.evo (by decide) hE b9085_g4619) rfl) <| sF (fun f => or_not f.1 rfl) <| steps_nil
     intro o9157 a9157 w9157 d9157 hz9157 hk9157 hf9157 hE9157
     obtain ⟨e9157_5, e9157_7, e9157_8, e9157_9, e9157_18, e9157_19, e9157_20, e9157_25⟩ := kt8 hk9157 e9085_5 e9085_7 e9085_8 e9085_9 e9085_18 e9085_19 e9085_20 e9085_25
     obtain ⟨e9157_26, e9157_27⟩ := kt2 hk9157 e9085_26 e9085_27
     have e9157_38 := gv (hf9157 [6] rfl) rfl
     have hX9157 := es_ hX9085 hE9157
     obtain ⟨b9157_g4623, b9157_cA4606, b9157_g7692, b9157_g9082⟩ := be4 hE9157 b9085_g4623 b9085_cA4606 b9085_g7692 b9085_g9082
     have b9157_A8186 := re_ hE9157 b9085_A8186
     have b9157_cA4608 := MpN.evo rfl hE9157 b9085_cA4608
     have b9157_A8193 := re_ hE9157 b9085_A8193
     have b9157_A4618 := re_ hE9157 b9085_A4618
     have b9157_A8197 := re_ hE9157 b9085_A8197
     have b9157_g4619 := MpO.evo (by decide) hE9157 b9085_g4619
     have b9157_g4621 := MpO.evo (by decide) hE9157 b9085_g4621
     have b9157_A7691 := RdO.evo rfl hE9157 b9085_A7691
     refine fl_cond e9157_38 hs (fun c9158 hs => ?_) (fun c9158 hs => ?_)
     ·obtain ⟨D9159, hD9159, hs⟩ := obind hs
      refine rd_seq g_mixed 91 [Fct.mapAt 8201 g4619 vv25 vv4 g8202] o9157 [8201] [0, 1, 3, 7, 0, 31] [dv [] [5] 39 (pt g4623 0), dv [0] [] 40 (pt g4623 0), dv [1] [] 41 (pt g4623 3), dv [2] [] 42 (.map (some g4619)), dv [] [9] 43 (P2 x9081), ⟨[3, 4, 6], [], [8201], Fct.mapAt 9160 g4619 vv25 vv4 D9159⟩] hz9157 d9157 (fm1 b9157_g4619) ?_ ?_
      ·refine sM e9157_5 <| sF (fun f => ok1 f.1) <| sF (fun f => or_field fo77_3 f.1 (by rfl)) <| sG to74 b9157_g4623 <| sL ta25 e9157_9 b9157_g9082 ?_
       refine sc (fun own a wx hf hsl hE => ?_) ?_
       ·obtain ⟨f_42, f_43, b_g4619, -⟩ := hf
        exact px (or_mapUpdate (kf := vv25) (vf := vv4) (k := x9081) (v := true) (lab := 8201) (lab2 := 9160) ko25 tm74 f_42 f_43 rfl b_g4619 (osome hD9159).symm (mem_of rfl) (by decide) (fun own' a' w' hb => hb))
       exact steps_nil
      intro o9161 a9161 w9161 d9161 hz9161 hk9161 hf9161 hE9161
      obtain ⟨e9161_5, e9161_7, e9161_8, e9161_9, e9161_18, e9161_19, e9161_20, e9161_25⟩ := kt8 hk9161 e9157_5 e9157_7 e9157_8 e9157_9 e9157_18 e9157_19 e9157_20 e9157_25
      obtain ⟨e9161_26, e9161_27⟩ := kt2 hk9161 e9157_26 e9157_27
      obtain ⟨(b9161_g4619 : MpO o9161 9160 w9161 g4619 vv25 vv4 D9159), -⟩ := hf9161 [5] rfl
      have hX9161 := es_ hX9157 hE9161
      obtain ⟨b9161_g4623, b9161_cA4606, b9161_g7692, b9161_g9082⟩ := be4 hE9161 b9157_g4623 b9157_cA4606 b9157_g7692 b9157_g9082
      have b9161_A8186 := re_ hE9161 b9157_A8186
      have b9161_cA4608 := MpN.evo rfl hE9161 b9157_cA4608
      have b9161_A8193 := re_ hE9161 b9157_A8193
      have b9161_A4618 := re_ hE9161 b9157_A4618
      have b9161_A8197 := re_ hE9161 b9157_A8197
      have b9161_g4621 := MpO.evo (by decide) hE9161 b9157_g4621
      have b9161_A7691 := RdO.evo rfl hE9161 b9157_A7691
      obtain ⟨x9171, hx9171, hs⟩ := obind hs
      refine rd_seq g_mixed 91 [Fct.rowAt 8200 [] 25 R25 A8197 c8198 g8199, Fct.at_ 8184 g4623 77 #[pt cA4606 0, sl A4618 x4616 cA4618, sl A8197 g8199 c8198, .map (some g4619), .map (some g4621)]] o9161 [8200, 8184] [0, 0, 2, 6, 14, 0, 32, 126, 255, 511, 1023] [dv [] [5] 44 (pt g4623 0), dv [] [5] 45 (pt g4623 0), dv [1] [] 46 (pt g4623 0), dv [2] [] 47 (pt g4623 2), dv [3, 12] [] 48 (sl A8197 g8199 c8198), dv [] [9] 49 (P2 x9081), ⟨[5], [], [], Fct.row 9170 [] 50 25 R25 [x9081]⟩, ⟨[4, 6, 11], [], [8200], Fct.row 9172 [] 51 25 R25 x9171⟩, dv [0] [] 52 (pt g4623 0), dv [8] [] 53 (pt g4623 2), ⟨[9, 7, 12], [], [8184], Fct.by_ [9174] [51] (fun l own w => ∀ (A9173 : Option Addr) (cA9173 : Nat), l.getD 0 undef = sl A9173 x9171 cA9173 → BlkO own 9174 w g4623 77 #[pt cA4606 0, sl A4618 x4616 cA4618, sl A9173 x9171 cA9173, .map (some g4619), .map (some g4621)]) (fun hk he h _ _ h0' => BlkO.evo (not_hit hk (by decide)) he (h _ _ h0'))⟩] hz9161 d9161 (fm2 b9161_A8197 b9161_g4623) ?_ ?_
      ·refine sM e9161_5 <| sM e9161_5 <| sF (fun f => ok1 f.1) <| sF (fun f => or_field fo77_2 f.1 (by rfl)) ?_
       refine sc (fun own a wx hf hsl hE => ?_) ?_
       ·obtain ⟨f_47, (b_g4623 : BlkO own 8184 wx g4623 77 #[pt cA4606 0, sl A4618 x4616 cA4618, sl A8197 g8199 c8198, .map (some g4619), .map (some g4621)]), -⟩ := hf
        exact px (ld1 to55 f_47 b_g4623)
       refine sL ta25 e9161_9 b9161_g9082 <| sF (fun f => or_lit (lab := 9170) (e := 25) (cs := #[Zi x9081.1, Zi x9081.2]) (F := E25) (nw1 f.1) rfl rfl (show 1 ≤ maxLen by decide)) ?_
       refine sc (fun own a wx hf hsl hE => ?_) ?_
       ·obtain ⟨f_48, ⟨⟨A9169, cA9169⟩, f_50, b_A9169⟩, b_A8197, -⟩ := hf
        exact px (or_append (R := R25) (lab := 8200) (lab2 := 9172) (L := []) (L3 := []) tp55 f_48 b_A8197 (by decide) f_50 (RwO.rd b_A9169) hx9171 (by decide) (by decide) (mem_of rfl) (.inl (Rep.fl_flat _)))
       refine sF (fun f => ok1 f.1) <| sF (fun f => or_field fo77_2 f.1 (by rfl)) ?_
       refine sc (fun own a wx hf hsl hE => ?_) ?_
       ·obtain ⟨f_53, ⟨⟨A9173, cA9173⟩, (f_51 : a.eval (.tmp 51) = sl A9173 x9171 cA9173), b_A9173⟩, b_g4623, -⟩ := hf
        exact px (or_store1 (lab := 8184) (lab2 := 9174) ts55 f_53 f_51 b_g4623 (by simp) rfl (mem_of rfl) (by decide) rfl (fun own' a' w' ha hb => fun _ _ h0' => by cases (f_51.symm.trans ((ha 51).symm.trans h0')); exact hb))
       exact steps_nil
      intro o9175 a9175 w9175 d9175 hz9175 hk9175 hf9175 hE9175
      obtain ⟨e9175_5, e9175_7, e9175_8, e9175_9, e9175_18, e9175_19, e9175_20, e9175_25⟩ := kt8 hk9175 e9161_5 e9161_7 e9161_8 e9161_9 e9161_18 e9161_19 e9161_20 e9161_25
      obtain ⟨e9175_26, e9175_27⟩ := kt2 hk9175 e9161_26 e9161_27
      obtain ⟨⟨⟨A9173, cA9173⟩, (f_51 : a9175.eval (.tmp 51) = sl A9173 x9171 cA9173), (b9175_A9173 : RwO o9175 9172 [] w9175 25 R25 A9173 cA9173 x9171)⟩, (bq_g4623 : ∀ (A9173 : Option Addr) (cA9173 : Nat), a9175.eval (.tmp 51) = sl A9173 x9171 cA9173 → BlkO o9175 9174 w9175 g4623 77 #[pt cA4606 0, sl A4618 x4616 cA4618, sl A9173 x9171 cA9173, .map (some g4619), .map (some g4621)]), -⟩ := hf9175 [7, 10] rfl
      have b9175_g4623 := bq_g4623 _ _ f_51
      have hX9175 := es_ hX9161 hE9175
      obtain ⟨b9175_cA4606, b9175_g7692, b9175_g9082⟩ := be3 hE9175 b9161_cA4606 b9161_g7692 b9161_g9082
      have b9175_A8186 := re_ hE9175 b9161_A8186
      have b9175_cA4608 := MpN.evo rfl hE9175 b9161_cA4608
      have b9175_A8193 := re_ hE9175 b9161_A8193
      have b9175_A4618 := re_ hE9175 b9161_A4618
      have b9175_g4621 := MpO.evo (by decide) hE9175 b9161_g4621
      have b9175_A7691 := RdO.evo rfl hE9175 b9161_A7691
      have b9175_g4619 := MpO.evo (by decide) hE9175 b9161_g4619
      obtain ⟨r9186, hr9186, hs⟩ := obind hs
      refine rd_ g_mixed 91 [Fct.at_ 8185 cA4606 106 #[sl A8186 g8188 c8187, .map (some cA4608), sl A8193 g8195 c8194], Fct.rowAt 8189 [] 80 R80 A8186 c8187 g8188, Fct.mapnAt 8190 8192 [] cA4608 vv111 3 R3 g8191, Fct.rowAt 8196 [] 3 R3 A8193 c8194 g8195] o9175 [8185, 8189, 8190, 8192, 8196] [0, 1, 3, 7, 15, 0, 0, 96, 224, 511] [dv [] [5] 54 (pt g4623 0), dv [0] [] 55 (pt g4623 0), dv [1] [] 56 (pt g4623 0), dv [2] [] 57 (pt g4623 0), dv [3] [] 58 (pt cA4606 0), dv [] [9] 59 (P2 x9081), dv [] [9] 60 (P2 x9081), dv [5, 6] [] 61 (.agg #[Zi x9081.1, Zi x9081.2, Zi x9081.1, Zi x9081.2]), ⟨[7], [], [], Fct.row 9185 [] 62 80 R80 [(x9081, x9081)]⟩, ⟨[4, 8, 10, 11, 12, 13], [], [8185, 8189, 8190, 8192, 8196], Fct.mems [9189, 9190, 9191, 9192, 9193] 63 (fun (x : (Option Addr × Nat) × (Option Addr × Nat)) => Zi r9186.1) (fun (x : (Option Addr × Nat) × (Option Addr × Nat)) own w => RwO own 9189 [] w 80 R80 x.1.1 x.1.2 r9186.2.1 ∧ MpN own 9190 9191 [] w cA4608 vv111 3 R3 r9186.2.2.1 ∧ RwO own 9192 [] w 3 R3 x.2.1 x.2.2 r9186.2.2.2 ∧ BlkO own 9193 w cA4606 106 #[.slice x.1.1 r9186.2.1.length x.1.2, .map (some cA4608), .slice x.2.1 r9186.2.2.2.length x.2.2]) (fun hk he h => ⟨RwO.evo (hits_sub hk (by decide)) he h.1, MpN.evo (hits_sub hk (by decide)) he h.2.1, RwO.evo (hits_sub hk (by decide)) he h.2.2.1, BlkO.evo (not_hit hk (by decide)) he h.2.2.2⟩)⟩] hz9175 d9175 (fm4 b9175_cA4606 b9175_A8186 b9175_cA4608 b9175_A8193) ?_ ?_
      ·refine sM e9175_5 <| sF (fun f => ok1 f.1) <| sF (fun f => or_field fo77_0 f.1 (by rfl)) <| sF (fun f => or_field fo73_0 f.1 (by rfl)) <| sG to70 b9175_g4623 <| sL ta25 e9175_9 b9175_g9082 <| sL ta25 e9175_9 b9175_g9082 <| sF (fun f => ok2 f.1 f.2.1) <| sF (fun f => or_lit (lab := 9185) (e := 80) (cs := #[Zi x9081.1, Zi x9081.2, Zi x9081.1, Zi x9081.2]) (F := E80) (nw1 f.1) rfl rfl (show 1 ≤ maxLen by decide)) ?_
       refine sc (fun own a wx hf hsl hE => ?_) ?_
       ·obtain ⟨f_58, ⟨⟨A9184, cA9184⟩, f_62, b_A9184⟩, b_cA4606, b_A8186, b_cA4608, b_A8193, -⟩ := hf
        exact px (or_call cf29 (args2 f_58 f_62) (rows_Index_Add_w _ (forth own (look0 [(8185, 1), (8189, 2), (8190, 3), (8192, 4), (8196, 5)])) (g8188, g8191, g8195) cA4606 106 A8186 c8187 cA4608 A8193 c8194 [(x9081, x9081)] A9184 cA9184 (look0_le rfl) (BlkO.forth_ (m := (look0 [(8185, 1), (8189, 2), (8190, 3), (8192, 4), (8196, 5)])) b_cA4606) (RwO.forth_ (m := (look0 [(8185, 1), (8189, 2), (8190, 3), (8192, 4), (8196, 5)])) b_A8186) (MpN.forth_ (m := (look0 [(8185, 1), (8189, 2), (8190, 3), (8192, 4), (8196, 5)])) b_cA4608) (RwO.forth_ (m := (look0 [(8185, 1), (8189, 2), (8190, 3), (8192, 4), (8196, 5)])) b_A8193) (RdO.forth_ (m := (look0 [(8185, 1), (8189, 2), (8190, 3), (8192, 4), (8196, 5)])) (RwO.rd b_A9184)) r9186 hr9186) (post_mems (m := (look0 [(8185, 1), (8189, 2), (8190, 3), (8192, 4), (8196, 5)])) (m' := (look0 [(1, 9193), (2, 9189), (3, 9190), (4, 9191), (5, 9192)])) (hm_of rfl) (fun own' w' a' x h1 h => ⟨x, h1, ⟨RwO.back_ h.1 (by decide) (.inl (Rep.fl_flat _)), MpN.back_ h.2.1 (by decide) (by decide) (.inl (Rep.fl_flat _)), RwO.back_ h.2.2.1 (by decide) (.inl (Rep.fl_flat _)), BlkO.back_ h.2.2.2 (by decide)⟩⟩)))
       exact steps_nil
      intro o9194 a9194 w9194 d9194 hz9194 hk9194 hf9194 hE9194
      obtain ⟨e9194_5, e9194_7, e9194_8, e9194_9, e9194_18, e9194_19, e9194_20, e9194_25⟩ := kt8 hk9194 e9175_5 e9175_7 e9175_8 e9175_9 e9175_18 e9175_19 e9175_20 e9175_25
      obtain ⟨e9194_26, e9194_27⟩ := kt2 hk9194 e9175_26 e9175_27
      obtain ⟨⟨⟨⟨A9187, cA9187⟩, ⟨A9188, cA9188⟩⟩, (f_63 : a9194.eval (.tmp 63) = Zi r9186.1), (b9194_A9187 : RwO o9194 9189 [] w9194 80 R80 A9187 cA9187 r9186.2.1), (b9194_cA4608 : MpN o9194 9190 9191 [] w9194 cA4608 vv111 3 R3 r9186.2.2.1), (b9194_A9188 : RwO o9194 9192 [] w9194 3 R3 A9188 cA9188 r9186.2.2.2), (b9194_cA4606 : BlkO o9194 9193 w9194 cA4606 106 #[sl A9187 r9186.2.1 cA9187, .map (some cA4608), sl A9188 r9186.2.2.2 cA9188])⟩, -⟩ := hf9194 [9] rfl
      have hX9194 := es_ hX9175 hE9194
      obtain ⟨b9194_g7692, b9194_g9082, b9194_g4623⟩ := be3 hE9194 b9175_g7692 b9175_g9082 b9175_g4623
      have b9194_A4618 := re_ hE9194 b9175_A4618
      have b9194_g4621 := MpO.evo (by decide) hE9194 b9175_g4621
      have b9194_A7691 := RdO.evo rfl hE9194 b9175_A7691
      have b9194_g4619 := MpO.evo (by decide) hE9194 b9175_g4619
      have b9194_A9173 := re_ hE9194 b9175_A9173
      exact (K9144 _ _ (rl [(9160, 9142), (9172, 9141), (9174, 9125), (9189, 9130), (9190, 9131), (9191, 9133), (9192, 9137), (9193, 9126)] o9194) _ _ _ _ _ A9187 cA9187 A9188 cA9188 A9173 cA9173 d9194 hz9194 e9194_5 e9194_7 e9194_8 e9194_9 e9194_18 e9194_19 e9194_20 e9194_25 e9194_26 e9194_27 (Evo.rl_ hX9194 (fun _ => Nat.le_refl 0) rfl) (BlkO.rl_ b9194_g4623) (BlkO.rl_ b9194_cA4606) (RwO.rl_ b9194_A9187) (MpN.rl_ b9194_cA4608) (RwO.rl_ b9194_A9188) (RwO.rl_ b9194_A4618) (RwO.rl_ b9194_A9173) (MpO.rl_ b9194_g4619) (MpO.rl_ b9194_g4621) (BlkO.rl_ b9194_g7692) (RdO.rl_ b9194_A7691) (BlkO.rl_ b9194_g9082) hs)
     refine fl_skip ?_
     exact (K9144 _ _ (rl [(8184, 9125), (8185, 9126), (8189, 9130), (8190, 9131), (8192, 9133), (8196, 9137), (8200, 9141), (8201, 9142)] o9157) _ _ _ _ _ A8186 c8187 A8193 c8194 A8197 c8198 d9157 hz9157 e9157_5 e9157_7 e9157_8 e9157_9 e9157_18 e9157_19 e9157_20 e9157_25 e9157_26 e9157_27 (Evo.rl_ hX9157 (fun _ => Nat.le_refl 0) rfl) (BlkO.rl_ b9157_g4623) (BlkO.rl_ b9157_cA4606) (RwO.rl_ b9157_A8186) (MpN.rl_ b9157_cA4608) (RwO.rl_ b9157_A8193) (RwO.rl_ b9157_A4618) (RwO.rl_ b9157_A8197) (MpO.rl_ b9157_g4619) (MpO.rl_ b9157_g4621) (BlkO.rl_ b9157_g7692) (RdO.rl_ b9157_A7691) (BlkO.rl_ b9157_g9082) hs)
    refine fl_exit ?_
    refine hp8703 _ _ _ rfl ?_
    replace hs := hz8700 _ hs
    refine hp8700 _ _ _ rfl ?_
    refine hx7697 _ _ ?_
    refine hn7689 _ _ ?_
    refine hn7688 _ _ ?_
    refine rq 91 o8702 (bz 2) [dv [] [20] 89 (Zi (ad x6170 1)), dv [0] [] 20 (Zi (ad x6170 1))] hz8702 d8702 ?_ ?_
    ·exact sS (fun s => or_add (s.1.trans e8702_20) rfl rfl) <| sV <| steps_nil
    intro o9195 a9195 w9195 d9195 hz9195 hk9195 hf9195 hE9195
    obtain ⟨e9195_5, e9195_18, e9195_19⟩ := kt3 hk9195 e8702_5 e8702_18 e8702_19
    have e9195_20 := gv (hf9195 [1] rfl) rfl
    have hX9195 := es_ hX8702 hE9195
    obtain ⟨b9195_g4623, b9195_cA4606⟩ := be2 hE9195 b8702_g4623 b8702_cA4606
    have b9195_A8186 := re_ hE9195 b8702_A8186
    have b9195_cA4608 := MpN.evo rfl hE9195 b8702_cA4608
    have b9195_A8193 := re_ hE9195 b8702_A8193
    have b9195_A4618 := re_ hE9195 b8702_A4618
    have b9195_A8197 := re_ hE9195 b8702_A8197
    have b9195_g4619 := MpO.evo (by decide) hE9195 b8702_g4619
    have b9195_g4621 := MpO.evo (by decide) hE9195 b8702_g4621
    exact hn7683 _ _ _ hs ⟨(rl [(8184, 6149), (8185, 6150), (8189, 6154), (8190, 6155), (8192, 6157), (8196, 6161), (8200, 6165), (8201, 6166), (8203, 6168)] o9195), A8186, c8187, A8193, c8194, A8197, c8198, d9195, hz9195, e9195_5, e9195_18, e9195_19, e9195_20, (Evo.rl_ hX9195 (fun _ => Nat.le_refl 0) rfl), (BlkO.rl_ b9195_g4623), (BlkO.rl_ b9195_cA4606), (RwO.rl_ b9195_A8186), (MpN.rl_ b9195_cA4608), (RwO.rl_ b9195_A8193), (RwO.rl_ b9195_A4618), (RwO.rl_ b9195_A8197), (MpO.rl_ b9195_g4619), (MpO.rl_ b9195_g4621)⟩
  refine fl_exit ?_
  refine hp7686 _ _ _ rfl ?_
  replace hs := hz7683 _ hs
  refine hp7683 _ _ _ rfl ?_
  refine hx4628 _ _ ?_
  refine hn4626 _ _ ?_
  refine rq_seq 91 o7685 (bz 2) [dv [] [5] 90 (pt g4623 0), dv [0] [] 4 (pt g4623 0)] hz7685 d7685 ?_ ?_
  ·exact sM e7685_5 <| sA <| steps_nil
  intro o9196 a9196 w9196 d9196 hz9196 hk9196 hf9196 hE9196
  have e9196_4 := gv (hf9196 [1] rfl) rfl
  have hX9196 := es_ hX7685 hE9196
  obtain ⟨b9196_g4623, b9196_cA4606⟩ := be2 hE9196 b7685_g4623 b7685_cA4606
  have b9196_A6151 := re_ hE9196 b7685_A6151
  have b9196_cA4608 := MpN.evo rfl hE9196 b7685_cA4608
  have b9196_A6158 := re_ hE9196 b7685_A6158
  have b9196_A4618 := re_ hE9196 b7685_A4618
  have b9196_A6162 := re_ hE9196 b7685_A6162
  have b9196_g4619 := MpO.evo (by decide) hE9196 b7685_g4619
  have b9196_g4621 := MpO.evo (by decide) hE9196 b7685_g4621
  refine fl_ret ?_
  obtain rfl := osome hs
  exact hret _ _ _ _ (.inl rfl) d9196 (results1_ rfl (RVal.tmp_ e9196_4)) ⟨(rl [(4617, 7), (6149, 1), (6150, 2), (6154, 3), (6155, 4), (6157, 5), (6161, 6), (6165, 8), (6166, 9), (6168, 10)] o9196), ((none, g4623), (none, cA4606), (A6151, c6152), (none, cA4608), (A6158, c6159), (A4618, cA4618), (A6162, c6163), (none, g4619), (none, g4621)), rfl, (Evo.rl_ hX9196 (fun _ => Nat.le_refl 0) rfl), (RwO.rl_ b9196_A6151), (MpN.rl_ b9196_cA4608), (RwO.rl_ b9196_A6158), (BlkO.rl_ b9196_cA4606), (RwO.rl_ b9196_A4618), (RwO.rl_ b9196_A6162), (MpO.rl_ b9196_g4619), (MpO.rl_ b9196_g4621), (BlkO.rl_ b9196_g4623)⟩
end Go.Proofs.Ytoccfdohlefifaa
