import Derived.Test.YtnmkonlfnpcoiaaBase
import Derived.Test.YtnmkonlfnpcoiaaTy
import Derived.Test.YtnmkonlfnpcoiaaSrt
import Derived.Test.YtnmkonlfnpcoiaaSp1
namespace Go.Proofs.Ytnmkonlfnpcoiaa
open Go.RowKit
set_option linter.unusedVariables false
set_option maxRecDepth 10000
theorem snap_level_w (w : World) (z1 : Int) (r : Bool) (hs : snap_level z1 = some r) :
  Calls Try.prog 82 #[Zi z1] w fun e w' => ∃ own' : Own, e = .returned (.bool r) ∧ Evo [] (fun _ => 0) own' w w' := by
 refine fl_enter (n := 9) rfl rfl rfl (Nat.le_of_ble_eq_true rfl) ?_
 intro a0 Q d0 z0 harg hret
 have ha0 := harg 0 _ rfl
 clear harg
 have hE0 : Evo [] (fun _ => 0) (fun _ => 0) w w := Evo.refl _ _ _
 refine rq_seq 9 (fun _ => 0) (bz 1) [dv [] [] 2 (.bool false)] z0 d0 ?_ ?_
 ·exact sO (or_assign rfl) <| steps_nil
 intro o14 a14 w14 d14 z14 hk14 hf14 hE14
 have e14_0 := kt hk14 ha0
 have hX14 := es_ hE0 hE14
 obtain ⟨x15, hx15, hs⟩ := obind hs
 refine rq_seq 9 o14 (bz 7) [dv [] [0] 3 (Zi z1), dv [0] [] 4 (.bool (decide (0 ≤ z1))), dv [1] [] 5 (.bool (decide (0 ≤ z1))), dc [2] [0] (decide (0 ≤ z1)) 6 (Zi z1), dc [2, 3] [] (decide (0 ≤ z1)) 7 (.bool (decide (z1 ≤ 4))), dv [2, 4] [] 8 (.bool x15), dv [5] [] 2 (.bool x15)] z14 d14 ?_ ?_
 ·exact sM e14_0 <| sF (fun f => or_geq f.1 rfl rfl) <| sV <| cT (fun _ s _ _ => or_move (s.1.trans e14_0)) <| cT (fun f _ _ hg => or_leq (f.2.1.1 hg) rfl rfl) <| sF (fun f => or_and f.1 (fun hx => f.2.1.1 hx) rfl (osome hx15).symm) <| sA <| steps_nil
 intro o16 a16 w16 d16 z16 hk16 hf16 hE16
 have e16_2 := gv (hf16 [6] rfl) rfl
 have hX16 := es_ hX14 hE16
 refine fl_ret ?_
 obtain rfl := (osome hs).symm
 exact hret _ _ _ _ (.inl rfl) d16 (results1_ rfl (RVal.tmp_ e16_2)) ⟨o16, rfl, hX16⟩
theorem snap_Side_w (w : World) (z1 : Int) (r : Int × Bool) (hs : snap_Side z1 = some r) :
  Calls Try.prog 62 #[Zi z1] w fun e w' => ∃ own' : Own, e = .returned (.tuple #[Zi r.1, .bool r.2]) ∧ Evo [] (fun _ => 0) own' w w' := by
 refine fl_enter (n := 9) rfl rfl rfl (Nat.le_of_ble_eq_true rfl) ?_
 intro a0 Q d0 z0 harg hret
 have ha0 := harg 0 _ rfl
 clear harg
 have hE0 : Evo [] (fun _ => 0) (fun _ => 0) w w := Evo.refl _ _ _
 refine rq_seq 9 (fun _ => 0) (bz 2) [dv [] [] 2 (Zi 0), dv [] [] 3 (.bool false)] z0 d0 ?_ ?_
 ·exact sO (or_assign rfl) <| sO (or_assign rfl) <| steps_nil
 intro o19 a19 w19 d19 z19 hk19 hf19 hE19
 have e19_0 := kt hk19 ha0
 have hX19 := es_ hE0 hE19
 refine fl_seq (fun Q20 hn20 hp20 => ?_)
 obtain ⟨r21, hr21, hs⟩ := obind hs
 refine rq_seq 9 o19 (bz 3) [dv [] [0] 4 (Zi z1), dv [0] [] 5 (.bool r21), dv [1] [] 6 (.bool (!r21))] z19 d19 ?_ ?_
 ·exact sM e19_0 <| sF (fun f => or_call cf82 (args1 f.1) (snap_level_w _ z1  r21 hr21) post_val) <| sF (fun f => or_not f.1 rfl) <| steps_nil
 intro o22 a22 w22 d22 z22 hk22 hf22 hE22
 have e22_0 := kt hk22 e19_0
 have e22_6 := gv (hf22 [2] rfl) rfl
 have hX22 := es_ hX19 hE22
 refine fl_cond e22_6 hs (fun c23 hs => ?_) (fun c23 hs => ?_)
 ·refine rq_seq 9 o22 (bz 2) [dv [] [] 2 (Zi 0), dv [] [] 3 (.bool false)] z22 d22 ?_ ?_
  ·exact sO (or_assign rfl) <| sO (or_assign rfl) <| steps_nil
  intro o24 a24 w24 d24 z24 hk24 hf24 hE24
  have e24_2 := gv (hf24 [0] rfl) rfl
  have e24_3 := gv (hf24 [1] rfl) rfl
  have hX24 := es_ hX22 hE24
  refine fl_ret ?_
  refine hp20 _ _ _ rfl ?_
  obtain rfl := osome hs
  exact hret _ _ _ _ (.inl rfl) d24 (results2_ rfl (RVal.tmp_ e24_2) (RVal.tmp_ e24_3)) ⟨o24, rfl, hX24⟩
 refine fl_skip ?_
 refine hn20 _ _ ?_
 obtain ⟨x25, hx25, hs⟩ := obind hs
 refine rq_seq 9 o22 (bz 4) [dv [] [0] 7 (Zi z1), dv [0] [] 8 (Zi x25), dv [1] [] 2 (Zi x25), dv [] [] 3 (.bool true)] z22 d22 ?_ ?_
 ·exact sM e22_0 <| sF (fun f => or_shl rfl f.1 hx25) <| sA <| sO (or_assign rfl) <| steps_nil
 intro o26 a26 w26 d26 z26 hk26 hf26 hE26
 have e26_2 := gv (hf26 [2] rfl) rfl
 have e26_3 := gv (hf26 [3] rfl) rfl
 have hX26 := es_ hX22 hE26
 refine fl_ret ?_
 obtain rfl := osome hs
 exact hret _ _ _ _ (.inl rfl) d26 (results2_ rfl (RVal.tmp_ e26_2) (RVal.tmp_ e26_3)) ⟨o26, rfl, hX26⟩
theorem window_count_w (w : World) (z1 : Int) (r : Int) (hs : window_count z1 = some r) :
  Calls Try.prog 55 #[Zi z1] w fun e w' => ∃ own' : Own, e = .returned (Zi r) ∧ Evo [] (fun _ => 0) own' w w' := by
 refine fl_enter (n := 12) rfl rfl rfl (Nat.le_of_ble_eq_true rfl) ?_
 intro a0 Q d0 z0 harg hret
 have ha0 := harg 0 _ rfl
 clear harg
 have hE0 : Evo [] (fun _ => 0) (fun _ => 0) w w := Evo.refl _ _ _
 refine rq_seq 12 (fun _ => 0) (bz 1) [dv [] [] 2 (Zi 0)] z0 d0 ?_ ?_
 ·exact sO (or_assign rfl) <| steps_nil
 intro o16 a16 w16 d16 z16 hk16 hf16 hE16
 have e16_0 := kt hk16 ha0
 have hX16 := es_ hE0 hE16
 obtain ⟨r17, hr17, hs⟩ := obind hs
 refine rq_seq 12 o16 [0, 1, 3, 7, 7, 15, 63] [dv [] [0] 6 (Zi z1), dv [0] [] 7 (.tuple #[Zi r17.1, .bool r17.2]), dv [1] [] 5 (.tuple #[Zi r17.1, .bool r17.2]), dv [2] [] 8 (Zi r17.1), dv [2] [] 9 (.bool r17.2), dv [3] [] 3 (Zi r17.1), dv [4] [] 4 (.bool r17.2)] z16 d16 ?_ ?_
 ·exact sM e16_0 <| sF (fun f => or_call cf62 (args1 f.1) (snap_Side_w _ z1  r17 hr17) post_val) <| sV <| sF (fun f => ok1 f.1) <| sF (fun f => ok1 f.1) <| sA <| sA <| steps_nil
 intro o18 a18 w18 d18 z18 hk18 hf18 hE18
 have e18_3 := gv (hf18 [5] rfl) rfl
 have hX18 := es_ hX16 hE18
 obtain ⟨x19, hx19, hs⟩ := obind hs
 refine rq_seq 12 o18 (bz 3) [dv [] [3] 10 (Zi r17.1), dv [0] [] 11 (Zi x19), dv [1] [] 2 (Zi x19)] z18 d18 ?_ ?_
 ·exact sM e18_3 <| sF (fun f => or_quo f.1 rfl hx19) <| sA <| steps_nil
 intro o20 a20 w20 d20 z20 hk20 hf20 hE20
 have e20_2 := gv (hf20 [2] rfl) rfl
 have hX20 := es_ hX18 hE20
 refine fl_ret ?_
 obtain rfl := (osome hs).symm
 exact hret _ _ _ _ (.inl rfl) d20 (results1_ rfl (RVal.tmp_ e20_2)) ⟨o20, rfl, hX20⟩
theorem window_Right_w (w : World) (t1 : Int × Int × Int) (r : Bool) (hs : window_Right t1 = some r) :
  Calls Try.prog 45 #[.agg #[Zi t1.1, Zi t1.2.1, Zi t1.2.2]] w fun e w' => ∃ own' : Own, e = .returned (.bool r) ∧ Evo [] (fun _ => 0) own' w w' := by
 refine fl_enter (n := 27) rfl rfl rfl (Nat.le_of_ble_eq_true rfl) ?_
 intro a0 Q d0 z0 harg hret
 have ha0 := harg 0 _ rfl
 clear harg
 have hE0 : Evo [] (fun _ => 0) (fun _ => 0) w w := Evo.refl _ _ _
 refine rq_seq 27 (fun _ => 0) [0, 0] [⟨[], [0], [], Fct.blk 20 1 (fun g => pt g 0) 28 #[Zi t1.1, Zi t1.2.1, Zi t1.2.2]⟩, dv [] [] 2 (.bool false)] z0 d0 ?_ ?_
 ·exact sS (fun s => nw1 (s.1.trans ha0)) <| sO (or_assign rfl) <| steps_nil
 intro o21 a21 w21 d21 z21 hk21 hf21 hE21
 obtain ⟨⟨g19, (e21_1 : a21.eval (.tmp 1) = pt g19 0), (b21_g19 : BlkO o21 20 w21 g19 28 #[Zi t1.1, Zi t1.2.1, Zi t1.2.2])⟩, -⟩ := hf21 [0] rfl
 have hX21 := es_ hE0 hE21
 obtain ⟨r22, hr22, hs⟩ := obind hs
 refine rq_seq 27 o21 (bz 4) [dv [] [1] 4 (pt g19 0), dv [0] [] 5 (Zi t1.1), dv [1] [] 6 (Zi r22), dv [2] [] 3 (Zi r22)] z21 d21 ?_ ?_
 ·exact sS (fun s => or_field fo28_0 (s.1.trans e21_1) (by rfl)) <| sG to3 b21_g19 <| sF (fun f => or_call cf55 (args1 f.1) (window_count_w _ t1.1  r22 hr22) post_val) <| sA <| steps_nil
 intro o23 a23 w23 d23 z23 hk23 hf23 hE23
 have e23_1 := kt hk23 e21_1
 have e23_3 := gv (hf23 [3] rfl) rfl
 have hX23 := es_ hX21 hE23
 have b23_g19 := be_ hE23 b21_g19
 obtain ⟨x24, hx24, hs⟩ := obind hs
 obtain ⟨x25, hx25, hs⟩ := obind hs
 refine rq_seq 27 o23 [0, 1, 3, 7, 15, 31, 15, 127, 255, 511, 1023, 2047, 4095, 8191, 16383, 32767, 65535, 32767, 262143, 524287, 1048575] [dv [] [1] 7 (pt g19 1), dv [0] [] 8 (Zi t1.2.1), dv [1] [] 9 (.bool (decide (0 ≤ t1.2.1))), dv [2] [] 10 (.bool (decide (0 ≤ t1.2.1))), dc [3] [1] (decide (0 ≤ t1.2.1)) 11 (pt g19 1), dc [3, 4] [] (decide (0 ≤ t1.2.1)) 12 (Zi t1.2.1), dc [3] [3] (decide (0 ≤ t1.2.1)) 13 (Zi r22), dc [3, 5, 6] [] (decide (0 ≤ t1.2.1)) 14 (.bool (decide (t1.2.1 < r22))), dv [3, 7] [] 15 (.bool x24), dv [8] [] 16 (.bool x24), dc [9] [1] x24 17 (pt g19 2), dc [9, 10] [] x24 18 (Zi t1.2.2), dc [9, 11] [] x24 19 (.bool (decide (0 ≤ t1.2.2))), dv [9, 12] [] 20 (.bool (x24 && (decide (0 ≤ t1.2.2)))), dv [13] [] 21 (.bool (x24 && (decide (0 ≤ t1.2.2)))), dc [14] [1] (x24 && (decide (0 ≤ t1.2.2))) 22 (pt g19 2), dc [14, 15] [] (x24 && (decide (0 ≤ t1.2.2))) 23 (Zi t1.2.2), dc [14] [3] (x24 && (decide (0 ≤ t1.2.2))) 24 (Zi r22), dc [14, 16, 17] [] (x24 && (decide (0 ≤ t1.2.2))) 25 (.bool (decide (t1.2.2 < r22))), dv [14, 18] [] 26 (.bool x25), dv [19] [] 2 (.bool x25)] z23 d23 ?_ ?_
 ·exact sS (fun s => or_field fo28_1 (s.1.trans e23_1) (by rfl)) <| sG to3 b23_g19 <| sF (fun f => or_geq f.1 rfl rfl) <| sV <| cT (fun _ s _ _ => or_field fo28_1 (s.1.trans e23_1) (by rfl)) <| cT (fun f _ hE hg => ld1 to3 (f.2.1.1 hg) (be_ hE b23_g19)) <| cT (fun _ s _ _ => or_move (s.1.trans e23_3)) <| cT (fun f _ _ hg => or_lss (f.2.1.1 hg) (f.2.2.1.1 hg) rfl) <| sF (fun f => or_and f.1 (fun hx => f.2.1.1 hx) rfl (osome hx24).symm) <| sV <| cT (fun _ s _ _ => or_field fo28_2 (s.1.trans e23_1) (by rfl)) <| cT (fun f _ hE hg => ld1 to3 (f.2.1.1 hg) (be_ hE b23_g19)) <| cT (fun f _ _ hg => or_geq (f.2.1.1 hg) rfl rfl) <| sF (fun f => or_and f.1 (fun hx => f.2.1.1 hx) rfl rfl) <| sV <| cT (fun _ s _ _ => or_field fo28_2 (s.1.trans e23_1) (by rfl)) <| cT (fun f _ hE hg => ld1 to3 (f.2.1.1 hg) (be_ hE b23_g19)) <| cT (fun _ s _ _ => or_move (s.1.trans e23_3)) <| cT (fun f _ _ hg => or_lss (f.2.1.1 hg) (f.2.2.1.1 hg) rfl) <| sF (fun f => or_and f.1 (fun hx => f.2.1.1 hx) rfl (osome hx25).symm) <| sA <| steps_nil
 intro o26 a26 w26 d26 z26 hk26 hf26 hE26
 have e26_2 := gv (hf26 [20] rfl) rfl
 have hX26 := es_ hX23 hE26
 refine fl_ret ?_
 obtain rfl := (osome hs).symm
 exact hret _ _ _ _ (.inl rfl) d26 (results1_ rfl (RVal.tmp_ e26_2)) ⟨o26, rfl, hX26⟩
theorem slices_Clone_pack_Entry_pack_Entry_w (w : World) (own : Own) (s1 : List ((Int × Int × Int) × (List Int))) (As1 : Option Addr) (cs1 : Nat) (hown : ∀ b, own b ≤ 1) (hs1 : RdO own [1] w R30 As1 cs1 s1) (r : List ((Int × Int × Int) × (List Int))) (hs : slices_Clone_pack_Entry_pack_Entry s1 = some r) :
  Calls Try.prog 46 #[sl As1 s1 cs1] w fun e w' => ∃ (own' : Own) (x : Option Addr × Nat), e = .returned (.slice x.1 r.length x.2) ∧ Evo [] own own' w w' ∧ RwO own' 2 [1, 3] w' 30 R30 x.1 x.2 r := by
 refine fl_enter (n := 8) rfl rfl rfl (Nat.le_of_ble_eq_true rfl) ?_
 intro a0 Q d0 z0 harg hret
 have ha0 := harg 0 _ rfl
 clear harg
 have hE0 : Evo [] own own w w := Evo.refl _ _ _
 refine rq_seq 8 own (bz 1) [dv [] [] 2 (.slice none 0 0)] z0 d0 ?_ ?_
 ·exact sO (or_assign rfl) <| steps_nil
 intro o23 a23 w23 d23 z23 hk23 hf23 hE23
 have e23_0 := kt hk23 ha0
 have hX23 := Evo.step hE0 hown hE23 rfl
 refine fl_seq (fun Q24 hn24 hp24 => ?_)
 refine rq_seq 8 o23 (bz 2) [dv [] [0] 3 (sl As1 s1 cs1), dv [0] [] 4 (.bool As1.isNone)] z23 d23 ?_ ?_
 ·exact sM e23_0 <| sF (fun f => or_eqlNil tu23 f.1 rfl) <| steps_nil
 intro o25 a25 w25 d25 z25 hk25 hf25 hE25
 have e25_0 := kt hk25 e23_0
 have e25_4 := gv (hf25 [1] rfl) rfl
 have hX25 := Evo.step hX23 hown hE25 rfl
 refine wpIn_cond_split e25_4 (fun hA26 => ?_) (fun hA26 => ?_)
 ·have hl26 : s1 = [] := RdO.nil_of (RdO.evo rfl hX25 hs1) hA26
  have hs0 : ((app ([] : List ((Int × Int × Int) × (List Int))) s1).bind fun x29 => some x29) = some r := hs
  have hs : (some ([] : List ((Int × Int × Int) × (List Int)))) = some r := by simpa [hl26, app, cut, capB] using hs0
  refine rq_seq 8 o25 (bz 1) [dv [] [] 2 (.slice none 0 0)] z25 d25 ?_ ?_
  ·exact sO (or_assign rfl) <| steps_nil
  intro o33 a33 w33 d33 z33 hk33 hf33 hE33
  have e33_2 := gv (hf33 [0] rfl) rfl
  have hX33 := Evo.step hX25 hown hE33 rfl
  refine fl_ret ?_
  refine hp24 _ _ _ rfl ?_
  obtain rfl := osome hs
  exact hret _ _ _ _ (.inl rfl) d33 (results1_ rfl (RVal.tmp_ e33_2)) ⟨o33, (none, 0), rfl, hX33, RwO.nil_⟩
 refine fl_skip ?_
 refine hn24 _ _ ?_
 obtain ⟨x29, hx29, hs⟩ := obind hs
 refine rp_seq 8 o25 [28] [0, 0, 3, 7] [⟨[], [], [], Fct.row 28 [] 5 30 R30 ([] : List ((Int × Int × Int) × (List Int)))⟩, dv [] [0] 6 (sl As1 s1 cs1), ⟨[0, 1], [], [28], Fct.row 30 [1] 7 30 R30 x29⟩, ⟨[2], [], [], Fct.rel [2, 7] (fun l => ∀ (A31 : Option Addr) (cA31 : Nat), l.getD 1 undef = sl A31 x29 cA31 → l.getD 0 undef = sl A31 x29 cA31)⟩] z25 d25 ?_ ?_
 ·refine sO (or_litN (R := R30) (lab := 28) (L := []) (e := 30) (cs := #[]) (l := ([] : List ((Int × Int × Int) × (List Int)))) (n := 0) [] rfl rfl trivial (by kernel_rfl) rfl (by decide) rfl rfl) <| sM e25_0 ?_
  refine sc (fun own a wx hf hsl hE => ?_) ?_
  ·obtain ⟨⟨⟨A27, cA27⟩, f_5, b_A27⟩, f_6, -⟩ := hf
   exact px (or_append (R := R30) (lab := 28) (lab2 := 30) (L := []) (L3 := [1]) tp23 f_5 b_A27 (by decide) f_6 (RdO.evo rfl hE (RdO.evo rfl hX25 hs1)) hx29 (by decide) (by decide) (mem_of rfl) (.inr ⟨rfl, rfl, by decide, by decide⟩))
  refine sc (fun own a wx hf hsl hE => ?_) ?_
  ·obtain ⟨⟨⟨A31, cA31⟩, (f_7 : a.eval (.tmp 7) = sl A31 x29 cA31), b_A31⟩, -⟩ := hf
   exact px (or_mono (f := Fct.val 2 (sl A31 x29 cA31)) (or_assign f_7) (fun own' a' w' v' hp h => fun _ _ h0' => by cases (f_7.symm.trans ((hp.2 7 (by decide)).symm.trans h0')); exact h))
  exact steps_nil
 intro o32 a32 w32 d32 z32 hk32 hf32 hE32
 obtain ⟨⟨⟨A31, cA31⟩, (f_7 : a32.eval (.tmp 7) = sl A31 x29 cA31), (b32_A31 : RwO o32 30 [1] w32 30 R30 A31 cA31 x29)⟩, (q_2 : ∀ (A31 : Option Addr) (cA31 : Nat), a32.eval (.tmp 7) = sl A31 x29 cA31 → a32.eval (.tmp 2) = sl A31 x29 cA31), -⟩ := hf32 [2, 3] rfl
 have e32_2 := q_2 _ _ f_7
 have hX32 := Evo.step hX25 hown hE32 rfl
 refine fl_ret ?_
 obtain rfl := (osome hs).symm
 exact hret _ _ _ _ (.inl rfl) d32 (results1_ rfl (RVal.tmp_ e32_2)) ⟨(rl [(30, 2)] o32), (A31, cA31), rfl, (Evo.rl_ hX32 hown rfl), (RwO.more (RwO.rl_ b32_A31) (by decide))⟩
theorem exact_Less_w (w : World) (x1 : Int × Int) (b2 : Int × Int) (r : Bool) (hs : exact_Less x1 b2 = some r) :
  Calls Try.prog 54 #[P2 x1, P2 b2] w fun e w' => ∃ own' : Own, e = .returned (.bool r) ∧ Evo [] (fun _ => 0) own' w w' := by
 refine fl_enter (n := 24) rfl rfl rfl (Nat.le_of_ble_eq_true rfl) ?_
 intro a0 Q d0 z0 harg hret
 have ha0 := harg 0 _ rfl
 have ha1 := harg 1 _ rfl
 clear harg
 have hE0 : Evo [] (fun _ => 0) (fun _ => 0) w w := Evo.refl _ _ _
 refine rq_seq 24 (fun _ => 0) [0, 0, 0] [⟨[], [0], [], Fct.blk 19 2 (fun g => pt g 0) 111 #[Zi x1.1, Zi x1.2]⟩, ⟨[], [1], [], Fct.blk 21 3 (fun g => pt g 0) 111 #[Zi b2.1, Zi b2.2]⟩, dv [] [] 4 (.bool false)] z0 d0 ?_ ?_
 ·exact sS (fun s => nw1 (s.1.trans ha0)) <| sS (fun s => nw1 (s.1.trans ha1)) <| sO (or_assign rfl) <| steps_nil
 intro o22 a22 w22 d22 z22 hk22 hf22 hE22
 obtain ⟨⟨g18, (e22_2 : a22.eval (.tmp 2) = pt g18 0), (b22_g18 : BlkO o22 19 w22 g18 111 #[Zi x1.1, Zi x1.2])⟩, ⟨g20, (e22_3 : a22.eval (.tmp 3) = pt g20 0), (b22_g20 : BlkO o22 21 w22 g20 111 #[Zi b2.1, Zi b2.2])⟩, -⟩ := hf22 [0, 1] rfl
 have hX22 := es_ hE0 hE22
 obtain ⟨x23, hx23, hs⟩ := obind hs
 refine rq_seq 24 o22 [0, 1, 0, 4, 15, 31, 63, 127, 63, 319, 1023, 2047, 4095, 8191, 4095, 20479, 65535, 131071, 262143, 524287] [dv [] [2] 5 (pt g18 0), dv [0] [] 6 (Zi x1.1), dv [] [3] 7 (pt g20 0), dv [2] [] 8 (Zi b2.1), dv [1, 3] [] 9 (.bool (decide (x1.1 < b2.1))), dv [4] [] 10 (.bool (decide (x1.1 < b2.1))), dc [5] [2] (!(decide (x1.1 < b2.1))) 11 (pt g18 0), dc [5, 6] [] (!(decide (x1.1 < b2.1))) 12 (Zi x1.1), dc [5] [3] (!(decide (x1.1 < b2.1))) 13 (pt g20 0), dc [5, 8] [] (!(decide (x1.1 < b2.1))) 14 (Zi b2.1), dc [5, 7, 9] [] (!(decide (x1.1 < b2.1))) 15 (.bool (decide (x1.1 = b2.1))), dc [5, 10] [] (!(decide (x1.1 < b2.1))) 16 (.bool (decide (x1.1 = b2.1))), dc [11] [2] ((!(decide (x1.1 < b2.1))) && (decide (x1.1 = b2.1))) 17 (pt g18 1), dc [11, 12] [] ((!(decide (x1.1 < b2.1))) && (decide (x1.1 = b2.1))) 18 (Zi x1.2), dc [11] [3] ((!(decide (x1.1 < b2.1))) && (decide (x1.1 = b2.1))) 19 (pt g20 1), dc [11, 14] [] ((!(decide (x1.1 < b2.1))) && (decide (x1.1 = b2.1))) 20 (Zi b2.2), dc [11, 13, 15] [] ((!(decide (x1.1 < b2.1))) && (decide (x1.1 = b2.1))) 21 (.bool (decide (x1.2 < b2.2))), dc [5, 11, 16] [] (!(decide (x1.1 < b2.1))) 22 (.bool x23), dv [5, 17] [] 23 (.bool ((decide (x1.1 < b2.1)) || x23)), dv [18] [] 4 (.bool ((decide (x1.1 < b2.1)) || x23))] z22 d22 ?_ ?_
 ·exact sS (fun s => or_field fo111_0 (s.1.trans e22_2) (by rfl)) <| sG to3 b22_g18 <| sS (fun s => or_field fo111_0 (s.1.trans e22_3) (by rfl)) <| sG to3 b22_g20 <| sF (fun f => or_lss f.1 f.2.1 rfl) <| sV <| cF (fun _ s _ _ => or_field fo111_0 (s.1.trans e22_2) (by rfl)) <| cF (fun f _ hE hg => ld1 to3 (f.2.1.1 hg) (be_ hE b22_g18)) <| cF (fun _ s _ _ => or_field fo111_0 (s.1.trans e22_3) (by rfl)) <| cF (fun f _ hE hg => ld1 to3 (f.2.1.1 hg) (be_ hE b22_g20)) <| cF (fun f _ _ hg => or_eql (f.2.1.1 hg) (f.2.2.1.1 hg) rfl) <| cF (fun f _ _ hg => or_move (f.2.1.1 hg)) <| cTc (fun _ s _ _ => or_field fo111_1 (s.1.trans e22_2) (by rfl)) <| cTc (fun f _ hE hg => ld1 to3 (f.2.1.1 hg) (be_ hE b22_g18)) <| cTc (fun _ s _ _ => or_field fo111_1 (s.1.trans e22_3) (by rfl)) <| cTc (fun f _ hE hg => ld1 to3 (f.2.1.1 hg) (be_ hE b22_g20)) <| cTc (fun f _ _ hg => or_lss (f.2.1.1 hg) (f.2.2.1.1 hg) rfl) <| cF (fun f _ _ hg => or_and (f.2.1.1 hg) (fun hx => f.2.2.1.1 (gI hg hx)) rfl (osome hx23).symm) <| sF (fun f => or_or f.1 rfl (fun hx => f.2.1.1 hx) rfl) <| sA <| steps_nil
 intro o24 a24 w24 d24 z24 hk24 hf24 hE24
 have e24_4 := gv (hf24 [19] rfl) rfl
 have hX24 := es_ hX22 hE24
 refine fl_ret ?_
 obtain rfl := osome hs
 exact hret _ _ _ _ (.inl rfl) d24 (results1_ rfl (RVal.tmp_ e24_4)) ⟨o24, rfl, hX24⟩
theorem window_Less_w (w : World) (x1 : Int × Int × Int) (b2 : Int × Int × Int) (r : Bool) (hs : window_Less x1 b2 = some r) :
  Calls Try.prog 44 #[.agg #[Zi x1.1, Zi x1.2.1, Zi x1.2.2], .agg #[Zi b2.1, Zi b2.2.1, Zi b2.2.2]] w fun e w' => ∃ own' : Own, e = .returned (.bool r) ∧ Evo [] (fun _ => 0) own' w w' := by
 refine fl_enter (n := 26) rfl rfl rfl (Nat.le_of_ble_eq_true rfl) ?_
 intro a0 Q d0 z0 harg hret
 have ha0 := harg 0 _ rfl
 have ha1 := harg 1 _ rfl
 clear harg
 have hE0 : Evo [] (fun _ => 0) (fun _ => 0) w w := Evo.refl _ _ _
 refine rq_seq 26 (fun _ => 0) [0, 0, 0] [⟨[], [0], [], Fct.blk 23 2 (fun g => pt g 0) 28 #[Zi x1.1, Zi x1.2.1, Zi x1.2.2]⟩, ⟨[], [1], [], Fct.blk 25 3 (fun g => pt g 0) 28 #[Zi b2.1, Zi b2.2.1, Zi b2.2.2]⟩, dv [] [] 4 (.bool false)] z0 d0 ?_ ?_
 ·exact sS (fun s => nw1 (s.1.trans ha0)) <| sS (fun s => nw1 (s.1.trans ha1)) <| sO (or_assign rfl) <| steps_nil
 intro o26 a26 w26 d26 z26 hk26 hf26 hE26
 obtain ⟨⟨g22, (e26_2 : a26.eval (.tmp 2) = pt g22 0), (b26_g22 : BlkO o26 23 w26 g22 28 #[Zi x1.1, Zi x1.2.1, Zi x1.2.2])⟩, ⟨g24, (e26_3 : a26.eval (.tmp 3) = pt g24 0), (b26_g24 : BlkO o26 25 w26 g24 28 #[Zi b2.1, Zi b2.2.1, Zi b2.2.2])⟩, -⟩ := hf26 [0, 1] rfl
 have hX26 := es_ hE0 hE26
 refine fl_seq (fun Q27 hn27 hp27 => ?_)
 refine rq_seq 26 o26 [0, 1, 0, 4, 15] [dv [] [2] 5 (pt g22 0), dv [0] [] 6 (Zi x1.1), dv [] [3] 7 (pt g24 0), dv [2] [] 8 (Zi b2.1), dv [1, 3] [] 9 (.bool (!decide (x1.1 = b2.1)))] z26 d26 ?_ ?_
 ·exact sS (fun s => or_field fo28_0 (s.1.trans e26_2) (by rfl)) <| sG to3 b26_g22 <| sS (fun s => or_field fo28_0 (s.1.trans e26_3) (by rfl)) <| sG to3 b26_g24 <| sF (fun f => or_neq f.1 f.2.1 rfl) <| steps_nil
 intro o28 a28 w28 d28 z28 hk28 hf28 hE28
 obtain ⟨e28_2, e28_3⟩ := kt2 hk28 e26_2 e26_3
 have e28_9 := gv (hf28 [4] rfl) rfl
 have hX28 := es_ hX26 hE28
 obtain ⟨b28_g22, b28_g24⟩ := be2 hE28 b26_g22 b26_g24
 refine fl_cond e28_9 hs (fun c29 hs => ?_) (fun c29 hs => ?_)
 ·refine rq_seq 26 o28 [0, 1, 0, 4, 15, 31] [dv [] [2] 10 (pt g22 0), dv [0] [] 11 (Zi x1.1), dv [] [3] 12 (pt g24 0), dv [2] [] 13 (Zi b2.1), dv [1, 3] [] 14 (.bool (decide (x1.1 < b2.1))), dv [4] [] 4 (.bool (decide (x1.1 < b2.1)))] z28 d28 ?_ ?_
  ·exact sS (fun s => or_field fo28_0 (s.1.trans e28_2) (by rfl)) <| sG to3 b28_g22 <| sS (fun s => or_field fo28_0 (s.1.trans e28_3) (by rfl)) <| sG to3 b28_g24 <| sF (fun f => or_lss f.1 f.2.1 rfl) <| sA <| steps_nil
  intro o30 a30 w30 d30 z30 hk30 hf30 hE30
  have e30_4 := gv (hf30 [5] rfl) rfl
  have hX30 := es_ hX28 hE30
  refine fl_ret ?_
  refine hp27 _ _ _ rfl ?_
  obtain rfl := osome hs
  exact hret _ _ _ _ (.inl rfl) d30 (results1_ rfl (RVal.tmp_ e30_4)) ⟨o30, rfl, hX30⟩
 refine fl_skip ?_
 refine hn27 _ _ ?_
 obtain ⟨r31, hr31, hs⟩ := obind hs
 refine rq_seq 26 o28 [0, 1, 0, 4, 15, 0, 32, 0, 128, 480, 1023, 2047] [dv [] [2] 15 (pt g22 1), dv [0] [] 16 (Zi x1.2.1), dv [] [2] 17 (pt g22 2), dv [2] [] 18 (Zi x1.2.2), dv [1, 3] [] 19 (P2 x1.2), dv [] [3] 20 (pt g24 1), dv [5] [] 21 (Zi b2.2.1), dv [] [3] 22 (pt g24 2), dv [7] [] 23 (Zi b2.2.2), dv [6, 8] [] 24 (P2 b2.2), dv [4, 9] [] 25 (.bool r31), dv [10] [] 4 (.bool r31)] z28 d28 ?_ ?_
 ·exact sS (fun s => or_field fo28_1 (s.1.trans e28_2) (by rfl)) <| sG to3 b28_g22 <| sS (fun s => or_field fo28_2 (s.1.trans e28_2) (by rfl)) <| sG to3 b28_g22 <| sF (fun f => ok2 f.1 f.2.1) <| sS (fun s => or_field fo28_1 (s.1.trans e28_3) (by rfl)) <| sG to3 b28_g24 <| sS (fun s => or_field fo28_2 (s.1.trans e28_3) (by rfl)) <| sG to3 b28_g24 <| sF (fun f => ok2 f.1 f.2.1) <| sF (fun f => or_call cf54 (args2 f.1 f.2.1) (exact_Less_w _ x1.2 b2.2  r31 hr31) post_val) <| sA <| steps_nil
 intro o32 a32 w32 d32 z32 hk32 hf32 hE32
 have e32_4 := gv (hf32 [11] rfl) rfl
 have hX32 := es_ hX28 hE32
 refine fl_ret ?_
 obtain rfl := (osome hs).symm
 exact hret _ _ _ _ (.inl rfl) d32 (results1_ rfl (RVal.tmp_ e32_4)) ⟨o32, rfl, hX32⟩
set_option maxHeartbeats 2000000 in
theorem pack_packed_w (w : World) (own : Own) (head1 : List Int) (Ahead1 : Option Addr) (chead1 : Nat) (l2 : List ((Int × Int × Int) × (List Int))) (Al2 : Option Addr) (cl2 : Nat) (hown : ∀ b, own b ≤ 1) (hhead1 : RdO own [1] w R5 Ahead1 chead1 head1) (hl2 : RdO own [1] w R30 Al2 cl2 l2) (r : ((List Int) × (List (List Int)) × (List ((Int × Int × Int) × Int))) × Int) (hs : pack_packed head1 l2 = some r) :
  Calls Try.prog 23 #[sl Ahead1 head1 chead1, sl Al2 l2 cl2] w fun e w' => ∃ (own' : Own) (x : (Option Addr × Nat) × (Option Addr × Nat) × (Option Addr × Nat) × (Option Addr × Nat)), e = .returned (.tuple #[.pointer (some ⟨x.1.2, 0, none⟩), Zi r.2]) ∧ Evo [] own own' w w' ∧ RdO own' [1, 3] w' R5 x.2.1.1 x.2.1.2 r.1.1 ∧ RwO own' 4 [1, 5] w' 22 R22 x.2.2.1.1 x.2.2.1.2 r.1.2.1 ∧ RwO own' 6 [] w' 66 R66 x.2.2.2.1 x.2.2.2.2 r.1.2.2 ∧ BlkO own' 2 w' x.1.2 64 #[.slice x.2.1.1 r.1.1.length x.2.1.2, .slice x.2.2.1.1 r.1.2.1.length x.2.2.1.2, .slice x.2.2.2.1 r.1.2.2.length x.2.2.2.2] := by
 refine fl_enter (n := 99) rfl rfl rfl (Nat.le_of_ble_eq_true rfl) ?_
 intro a0 Q d0 z0 harg hret
 have ha0 := harg 0 _ rfl
 have ha1 := harg 1 _ rfl
 clear harg
 have hE0 : Evo [] own own w w := Evo.refl _ _ _
 refine rq_seq 99 own (bz 2) [dv [] [] 4 (.pointer none), dv [] [] 5 (Zi 0)] z0 d0 ?_ ?_
 ·exact sO (or_assign rfl) <| sO (or_assign rfl) <| steps_nil
 intro o382 a382 w382 d382 z382 hk382 hf382 hE382
 obtain ⟨e382_0, e382_1⟩ := kt2 hk382 ha0 ha1
 have hX382 := Evo.step hE0 hown hE382 rfl
 refine rq_seq 99 o382 (bz 2) [⟨[], [], [], Fct.map_ 384 16 vv28 vv4 ([] : List ((Int × Int × Int) × Bool))⟩, ⟨[0], [], [], Fct.rel [6, 16] (fun l => ∀ (g383 : Nat), l.getD 1 undef = .map (some g383) → l.getD 0 undef = .map (some g383))⟩] z382 d382 ?_ ?_
 ·refine sO (or_makeMap) ?_
  refine sc (fun own a wx hf hsl hE => ?_) ?_
  ·obtain ⟨⟨g383, (f_16 : a.eval (.tmp 16) = .map (some g383)), b_g383⟩, -⟩ := hf
   exact px (or_mono (f := Fct.val 6 (.map (some g383))) (or_assign f_16) (fun own' a' w' v' hp h => fun _ h0' => by cases (f_16.symm.trans ((hp.2 16 (by decide)).symm.trans h0')); exact h))
  exact steps_nil
 intro o385 a385 w385 d385 z385 hk385 hf385 hE385
 obtain ⟨e385_0, e385_1⟩ := kt2 hk385 e382_0 e382_1
 obtain ⟨⟨g383, (f_16 : a385.eval (.tmp 16) = .map (some g383)), (b385_g383 : MpO o385 384 w385 g383 vv28 vv4 ([] : List ((Int × Int × Int) × Bool)))⟩, (q_6 : ∀ (g383 : Nat), a385.eval (.tmp 16) = .map (some g383) → a385.eval (.tmp 6) = .map (some g383)), -⟩ := hf385 [0, 1] rfl
 have e385_6 := q_6 _ f_16
 have hX385 := Evo.step hX382 hown hE385 rfl
 refine fl_seq (fun Q386 hn386 hp386 => ?_)
 refine rq_seq 99 o385 [0, 1, 0] [dv [] [1] 17 (sl Al2 l2 cl2), dv [0] [] 18 (Zi (l2.length : Int)), dv [] [] 19 (Zi 0)] z385 d385 ?_ ?_
 ·exact sM e385_1 <| sF (fun f => or_len tu23 f.1 rfl) <| sO (or_move rfl) <| steps_nil
 intro o387 a387 w387 d387 z387 hk387 hf387 hE387
 obtain ⟨e387_0, e387_1, e387_6⟩ := kt3 hk387 e385_0 e385_1 e385_6
 have e387_17 := gv (hf387 [0] rfl) rfl
 have e387_18 := gv (hf387 [1] rfl) rfl
 have e387_19 := gv (hf387 [2] rfl) rfl
 have hX387 := Evo.step hX385 hown hE387 rfl
 have b387_g383 := MpO.evo (by decide) hE387 b385_g383
 refine fl_block (fun Q388 hn388 hx388 hp388 => ?_)
 refine fl_loop (body := (fun s => pack_packed_b1 head1 l2 s.1 s.2)) (z := r) (show loopO _ _ = _ from hs) (fun (s : (List ((Int × Int × Int) × Bool)) × Int) a wx => match s with | (met416, x417) => ∃ (ox : Own), a.defers = [] ∧ a.tmps.size = 99 ∧ a.eval (.tmp 0) = sl Ahead1 head1 chead1 ∧ a.eval (.tmp 1) = sl Al2 l2 cl2 ∧ a.eval (.tmp 6) = .map (some g383) ∧ a.eval (.tmp 17) = sl Al2 l2 cl2 ∧ a.eval (.tmp 18) = Zi (l2.length : Int) ∧ a.eval (.tmp 19) = Zi x417 ∧ Evo [] own ox w wx ∧ MpO ox 415 wx g383 vv28 vv4 met416) ?_ ?_
 ·exact ⟨(rl [(384, 415)] o387), d387, z387, e387_0, e387_1, e387_6, e387_17, e387_18, e387_19, (Evo.rl_ hX387 hown rfl), (MpO.rl_ b387_g383)⟩
 ·rintro ⟨met416, x417⟩ zz443 a443 w443 ⟨o443, d444, z444, e444_0, e444_1, e444_6, e444_17, e444_18, e444_19, hE444, b444_g383⟩ hs Q443 hn443 hp443 z443
  have hs : pack_packed_b1 head1 l2 met416 x417 = some zz443 := hs
  refine rq_seq 99 o443 (bz 1) [dv [] [19, 18] 20 (.bool (decide (x417 < (l2.length : Int))))] z444 d444 ?_ ?_
  ·exact sS (fun s => or_lss (s.1.trans e444_19) (s.2.1.trans e444_18) rfl) <| steps_nil
  intro o445 a445 w445 d445 z445 hk445 hf445 hE445
  obtain ⟨e445_0, e445_1, e445_6, e445_17, e445_18, e445_19⟩ := kt6 hk445 e444_0 e444_1 e444_6 e444_17 e444_18 e444_19
  have e445_20 := gv (hf445 [0] rfl) rfl
  have hX445 := Evo.step hE444 hown hE445 rfl
  have b445_g383 := MpO.evo (by decide) hE445 b444_g383
  refine fl_seq (fun Q446 hn446 hp446 => ?_)
  refine fl_cond e445_20 hs (fun c447 hs => ?_) (fun c447 hs => ?_)
  ·refine fl_skip ?_
   refine hn446 _ _ ?_
   refine fl_seq (fun Q448 hn448 hp448 => ?_)
   refine fl_block (fun Q449 hn449 hx449 hp449 => ?_)
   obtain ⟨x450, hx450, hs⟩ := obind hs
   refine rp_seq 99 o445 [453] [0, 1, 0, 7] [dv [] [17, 19] 21 (.pointer (some ((adr Al2).add ((x417 : Int).toNat * R30.s)))), ⟨[0], [], [], Fct.nest X30 [1] 22 (fun (y : (Unit × (Option Addr × Nat))) => .agg #[Zi x450.1.1, Zi x450.1.2.1, Zi x450.1.2.2, .slice y.2.1 x450.2.length y.2.2]) x450⟩, ⟨[], [], [], Fct.blk 453 8 (fun g => pt g 0) 30 #[Zi 0, Zi 0, Zi 0, .slice none 0 0]⟩, ⟨[2, 1], [], [453], Fct.by_ [454] [8, 22] (fun l own w => ∃ g452 : Nat, l.getD 0 undef = pt g452 0 ∧ (∀ (A451 : Option Addr) (cA451 : Nat), l.getD 1 undef = .agg #[Zi x450.1.1, Zi x450.1.2.1, Zi x450.1.2.2, sl A451 x450.2 cA451] → BlkO own 454 w g452 30 #[Zi x450.1.1, Zi x450.1.2.1, Zi x450.1.2.2, sl A451 x450.2 cA451])) (fun hk he h => by obtain ⟨g, e, h⟩ := h; exact ⟨g, e, fun _ _ h0' => BlkO.evo (not_hit hk (by decide)) he (h _ _ h0')⟩)⟩] z445 d445 ?_ ?_
   ·refine sS (fun s => or_index (R := R30) (l := l2) tl23 (s.1.trans e445_17) (s.2.1.trans e445_19) (RdO.some_ (RdO.evo rfl hX445 hl2) hx450) hx450) <| sFE (fun f hE => or_loadN X30 0 4 ta30 f.1 (Addr.add_zero' _).symm (RdO.evo rfl hE (RdO.evo rfl hX445 hl2)) hx450 (fun _ => rfl) (fun _ => rfl)) <| sO (nw0) ?_
    refine sc (fun own a wx hf hsl hE => ?_) ?_
    ·obtain ⟨⟨g452, f_8, b_g452⟩, ⟨⟨_, ⟨A451, cA451⟩⟩, (f_22 : a.eval (.tmp 22) = .agg #[Zi x450.1.1, Zi x450.1.2.1, Zi x450.1.2.2, sl A451 x450.2 cA451]), ⟨-, b_A451⟩⟩, -⟩ := hf
     exact px (or_store (l := #[Zi x450.1.1, Zi x450.1.2.1, Zi x450.1.2.2, sl A451 x450.2 cA451]) (lab := 453) (lab2 := 454) ts30 f_8 f_22 b_g452 (by simp) (by kernel_rfl) (mem_of rfl) (by decide) (by kernel_rfl) (fun own' a' w' ha hb => ⟨_, (ha 8).trans f_8, fun _ _ h0' => by cases (f_22.symm.trans ((ha 22).symm.trans h0')); exact hb⟩))
    exact steps_nil
   intro o455 a455 w455 d455 z455 hk455 hf455 hE455
   obtain ⟨e455_0, e455_1, e455_6, e455_17, e455_18, e455_19⟩ := kt6 hk455 e445_0 e445_1 e445_6 e445_17 e445_18 e445_19
   obtain ⟨⟨⟨_, ⟨A451, cA451⟩⟩, (f_22 : a455.eval (.tmp 22) = .agg #[Zi x450.1.1, Zi x450.1.2.1, Zi x450.1.2.2, sl A451 x450.2 cA451]), ⟨-, (b455_A451 : RdO o455 [1] w455 R5 A451 cA451 x450.2)⟩⟩, ⟨g452, (e455_8 : a455.eval (.tmp 8) = pt g452 0), (bq_g452 : ∀ (A451 : Option Addr) (cA451 : Nat), a455.eval (.tmp 22) = .agg #[Zi x450.1.1, Zi x450.1.2.1, Zi x450.1.2.2, sl A451 x450.2 cA451] → BlkO o455 454 w455 g452 30 #[Zi x450.1.1, Zi x450.1.2.1, Zi x450.1.2.2, sl A451 x450.2 cA451])⟩, -⟩ := hf455 [1, 3] rfl
   have b455_g452 := bq_g452 _ _ f_22
   have hX455 := Evo.step hX445 hown hE455 rfl
   have b455_g383 := MpO.evo (by decide) hE455 b445_g383
   refine fl_seq (fun Q456 hn456 hp456 => ?_)
   refine fl_block (fun Q457 hn457 hx457 hp457 => ?_)
   obtain ⟨r458, hr458, hs⟩ := obind hs
   refine rq_seq 99 o455 (bz 5) [dv [] [8] 24 (pt g452 0), dv [0] [] 25 (.agg #[Zi x450.1.1, Zi x450.1.2.1, Zi x450.1.2.2]), dv [1] [] 26 (.bool r458), dv [2] [] 27 (.bool (!r458)), dv [3] [] 23 (.bool (!r458))] z455 d455 ?_ ?_
   ·exact sS (fun s => or_field fo30_0 (s.1.trans e455_8) (by rfl)) <| sFE (fun f hE => ldS ta28 f.1 (be_ hE b455_g452)) <| sF (fun f => or_call cf45 (args1 f.1) (window_Right_w _ x450.1  r458 hr458) post_val) <| sF (fun f => or_not f.1 rfl) <| sA <| steps_nil
   intro o459 a459 w459 d459 z459 hk459 hf459 hE459
   obtain ⟨e459_0, e459_1, e459_6, e459_8, e459_17, e459_18, e459_19⟩ := kt7 hk459 e455_0 e455_1 e455_6 e455_8 e455_17 e455_18 e455_19
   have e459_23 := gv (hf459 [4] rfl) rfl
   have hX459 := Evo.step hX455 hown hE459 rfl
   have b459_g452 := be_ hE459 b455_g452
   have b459_g383 := MpO.evo (by decide) hE459 b455_g383
   have b459_A451 := RdO.evo rfl hE459 b455_A451
   refine fl_cond e459_23 hs (fun c460 hs => ?_) (fun c460 hs => ?_)
   ·refine rq_seq 99 o459 (bz 2) [dv [] [] 4 (.pointer none), dv [] [] 5 (Zi 5)] z459 d459 ?_ ?_
    ·exact sO (or_assign rfl) <| sO (or_assign rfl) <| steps_nil
    intro o461 a461 w461 d461 z461 hk461 hf461 hE461
    have e461_4 := gv (hf461 [0] rfl) rfl
    have e461_5 := gv (hf461 [1] rfl) rfl
    have hX461 := Evo.step hX459 hown hE461 rfl
    refine fl_ret ?_
    refine hp457 _ _ _ rfl ?_
    refine hp456 _ _ _ rfl ?_
    refine hp449 _ _ _ rfl ?_
    refine hp448 _ _ _ rfl ?_
    replace hs := z443 _ hs
    refine hp443 _ _ _ rfl ?_
    refine hp388 _ _ _ rfl ?_
    refine hp386 _ _ _ rfl ?_
    exact nomatch hs
   refine rq_seq 99 o459 [0, 0, 2, 7, 15] [dv [] [6] 29 (.map (some g383)), dv [] [8] 30 (pt g452 0), dv [1] [] 31 (.agg #[Zi x450.1.1, Zi x450.1.2.1, Zi x450.1.2.2]), dv [0, 2] [] 32 (.bool ((lkM met416 x450.1).getD false)), dv [3] [] 28 (.bool ((lkM met416 x450.1).getD false))] z459 d459 ?_ ?_
   ·exact sM e459_6 <| sS (fun s => or_field fo30_0 (s.1.trans e459_8) (by rfl)) <| sFE (fun f hE => ldS ta28 f.1 (be_ hE b459_g452)) <| sFE (fun f hE => or_lookupE (kf := vv28) (vf := vv4) (k := x450.1) (dv := false) ko28 tm98 tzv98 f.1 f.2.1 (MpO.evo (by decide) hE b459_g383) rfl) <| sA <| steps_nil
   intro o462 a462 w462 d462 z462 hk462 hf462 hE462
   obtain ⟨e462_0, e462_1, e462_6, e462_8, e462_17, e462_18, e462_19⟩ := kt7 hk462 e459_0 e459_1 e459_6 e459_8 e459_17 e459_18 e459_19
   have e462_28 := gv (hf462 [4] rfl) rfl
   have hX462 := Evo.step hX459 hown hE462 rfl
   have b462_g452 := be_ hE462 b459_g452
   have b462_g383 := MpO.evo (by decide) hE462 b459_g383
   have b462_A451 := RdO.evo rfl hE462 b459_A451
   refine fl_cond e462_28 hs (fun c463 hs => ?_) (fun c463 hs => ?_)
   ·refine rq_seq 99 o462 (bz 2) [dv [] [] 4 (.pointer none), dv [] [] 5 (Zi 8)] z462 d462 ?_ ?_
    ·exact sO (or_assign rfl) <| sO (or_assign rfl) <| steps_nil
    intro o464 a464 w464 d464 z464 hk464 hf464 hE464
    have e464_4 := gv (hf464 [0] rfl) rfl
    have e464_5 := gv (hf464 [1] rfl) rfl
    have hX464 := Evo.step hX462 hown hE464 rfl
    refine fl_ret ?_
    refine hp457 _ _ _ rfl ?_
    refine hp456 _ _ _ rfl ?_
    refine hp449 _ _ _ rfl ?_
    refine hp448 _ _ _ rfl ?_
    replace hs := z443 _ hs
    refine hp443 _ _ _ rfl ?_
    refine hp388 _ _ _ rfl ?_
    refine hp386 _ _ _ rfl ?_
    exact nomatch hs
   refine fl_skip ?_
   refine hn457 _ _ ?_
   refine hn456 _ _ ?_
   obtain ⟨D465, hD465, hs⟩ := obind hs
   refine rr 99 [Fct.mapAt 415 g383 vv28 vv4 met416] o462 [415] [0, 0, 2, 7] [dv [] [6] 33 (.map (some g383)), dv [] [8] 34 (pt g452 0), dv [1] [] 35 (.agg #[Zi x450.1.1, Zi x450.1.2.1, Zi x450.1.2.2]), ⟨[0, 2, 4], [], [415], Fct.mapAt 466 g383 vv28 vv4 D465⟩] z462 d462 (fm1 b462_g383) ?_ ?_
   ·refine sM e462_6 <| sS (fun s => or_field fo30_0 (s.1.trans e462_8) (by rfl)) <| sFE (fun f hE => ldS ta28 f.1 (be_ hE b462_g452)) ?_
    refine sc (fun own a wx hf hsl hE => ?_) ?_
    ·obtain ⟨f_33, f_35, b_g383, -⟩ := hf
     exact px (or_mapUpdate (kf := vv28) (vf := vv4) (k := x450.1) (v := true) (lab := 415) (lab2 := 466) ko28 tm98 f_33 f_35 rfl b_g383 (osome hD465).symm (mem_of rfl) (by decide) (fun own' a' w' hb => hb))
    exact steps_nil
   intro o467 a467 w467 d467 z467 hk467 hf467 hE467
   obtain ⟨e467_0, e467_1, e467_6, e467_17, e467_18, e467_19⟩ := kt6 hk467 e462_0 e462_1 e462_6 e462_17 e462_18 e462_19
   obtain ⟨(b467_g383 : MpO o467 466 w467 g383 vv28 vv4 D465), -⟩ := hf467 [3] rfl
   have hX467 := Evo.step hX462 hown hE467 rfl
   refine hn449 _ _ ?_
   refine hn448 _ _ ?_
   refine rq 99 o467 (bz 2) [dv [] [19] 36 (Zi (ad x417 1)), dv [0] [] 19 (Zi (ad x417 1))] z467 d467 ?_ ?_
   ·exact sS (fun s => or_add (s.1.trans e467_19) rfl rfl) <| sV <| steps_nil
   intro o468 a468 w468 d468 z468 hk468 hf468 hE468
   obtain ⟨e468_0, e468_1, e468_6, e468_17, e468_18⟩ := kt5 hk468 e467_0 e467_1 e467_6 e467_17 e467_18
   have e468_19 := gv (hf468 [1] rfl) rfl
   have hX468 := Evo.step hX467 hown hE468 rfl
   have b468_g383 := MpO.evo (by decide) hE468 b467_g383
   exact hn443 _ _ _ hs ⟨(rl [(466, 415)] o468), d468, z468, e468_0, e468_1, e468_6, e468_17, e468_18, e468_19, (Evo.rl_ hX468 hown rfl), (MpO.rl_ b468_g383)⟩
  refine fl_exit ?_
  refine hp446 _ _ _ rfl ?_
  replace hs := z443 _ hs
  refine hp443 _ _ _ rfl ?_
  refine hx388 _ _ ?_
  refine hn386 _ _ ?_
  refine rq_seq 99 o445 (bz 4) [dv [] [0] 37 (sl Ahead1 head1 chead1), dv [0] [] 38 (.agg #[sl Ahead1 head1 chead1, .slice none 0 0, .slice none 0 0]), ⟨[1], [], [], Fct.blk 470 39 (fun g => pt g 0) 64 #[sl Ahead1 head1 chead1, .slice none 0 0, .slice none 0 0]⟩, ⟨[2], [], [], Fct.rel [9, 39] (fun l => ∀ (g469 : Nat), l.getD 1 undef = pt g469 0 → l.getD 0 undef = pt g469 0)⟩] z445 d445 ?_ ?_
  ·refine sM e445_0 <| sF (fun f => ok1 f.1) <| sF (fun f => nw1 f.1) ?_
   refine sc (fun own a wx hf hsl hE => ?_) ?_
   ·obtain ⟨⟨g469, (f_39 : a.eval (.tmp 39) = pt g469 0), b_g469⟩, -⟩ := hf
    exact px (or_mono (f := Fct.val 9 (pt g469 0)) (or_assign f_39) (fun own' a' w' v' hp h => fun _ h0' => by cases (f_39.symm.trans ((hp.2 39 (by decide)).symm.trans h0')); exact h))
   exact steps_nil
  intro o471 a471 w471 d471 z471 hk471 hf471 hE471
  have e471_1 := kt hk471 e445_1
  obtain ⟨⟨g469, (f_39 : a471.eval (.tmp 39) = pt g469 0), (b471_g469 : BlkO o471 470 w471 g469 64 #[sl Ahead1 head1 chead1, .slice none 0 0, .slice none 0 0])⟩, (q_9 : ∀ (g469 : Nat), a471.eval (.tmp 39) = pt g469 0 → a471.eval (.tmp 9) = pt g469 0), -⟩ := hf471 [2, 3] rfl
  have e471_9 := q_9 _ f_39
  have hX471 := Evo.step hX445 hown hE471 rfl
  obtain ⟨r472, hr472, hs⟩ := obind hs
  refine rp_seq 99 o471 [478] [0, 1, 0, 7] [dv [] [1] 40 (sl Al2 l2 cl2), ⟨[0], [], [], Fct.mems [474, 475, 476, 1] 41 (fun (x : Option Addr × Nat) => .slice x.1 r472.length x.2) (fun (x : Option Addr × Nat) own w => RwO own 474 [475, 476, 1] w 30 R30 x.1 x.2 r472) (fun hk he h => RwO.evo (hits_sub hk (by decide)) he h)⟩, ⟨[], [], [], Fct.blk 478 10 (fun g => pt g 0) 23 #[.slice none 0 0]⟩, ⟨[2, 1], [], [478], Fct.by_ [479] [10, 41] (fun l own w => ∃ g477 : Nat, l.getD 0 undef = pt g477 0 ∧ (∀ (A473 : Option Addr) (cA473 : Nat), l.getD 1 undef = sl A473 r472 cA473 → BlkO own 479 w g477 23 #[sl A473 r472 cA473])) (fun hk he h => by obtain ⟨g, e, h⟩ := h; exact ⟨g, e, fun _ _ h0' => BlkO.evo (not_hit hk (by decide)) he (h _ _ h0')⟩)⟩] z471 d471 ?_ ?_
  ·refine sM e471_1 ?_
   refine sc (fun own _ _ f _ hE => px (or_call cf46 (args1 f.1) (slices_Clone_pack_Entry_pack_Entry_w _ (forth own (inL [1])) l2 Al2 cl2 inL_le (RdO.alias_ (La := [1]) (RdO.evo rfl hE (RdO.evo rfl hX471 hl2)) (by decide)) r472 hr472) (post_alias (La := [1]) (m' := (look0 [(1, 475), (2, 474), (3, 476)])) (fun own' w' a' x ho hsz h1 h => ⟨x, h1, RwO.backM_ ho h (by decide) (by decide) (by decide) (by decide)⟩)))) ?_
   refine sO (nw0) ?_
   refine sc (fun own a wx hf hsl hE => ?_) ?_
   ·obtain ⟨⟨g477, f_10, b_g477⟩, ⟨⟨A473, cA473⟩, (f_41 : a.eval (.tmp 41) = sl A473 r472 cA473), b_A473⟩, -⟩ := hf
    exact px (or_store1 (lab := 478) (lab2 := 479) ts23 f_10 f_41 b_g477 (by simp) rfl (mem_of rfl) (by decide) rfl (fun own' a' w' ha hb => ⟨_, (ha 10).trans f_10, fun _ _ h0' => by cases (f_41.symm.trans ((ha 41).symm.trans h0')); exact hb⟩))
   exact steps_nil
  intro o480 a480 w480 d480 z480 hk480 hf480 hE480
  have e480_9 := kt hk480 e471_9
  obtain ⟨⟨⟨A473, cA473⟩, (f_41 : a480.eval (.tmp 41) = sl A473 r472 cA473), (b480_A473 : RwO o480 474 [475, 476, 1] w480 30 R30 A473 cA473 r472)⟩, ⟨g477, (e480_10 : a480.eval (.tmp 10) = pt g477 0), (bq_g477 : ∀ (A473 : Option Addr) (cA473 : Nat), a480.eval (.tmp 41) = sl A473 r472 cA473 → BlkO o480 479 w480 g477 23 #[sl A473 r472 cA473])⟩, -⟩ := hf480 [1, 3] rfl
  have b480_g477 := bq_g477 _ _ f_41
  have hX480 := Evo.step hX471 hown hE480 rfl
  have b480_g469 := be_ hE480 b471_g469
  obtain ⟨u481, hu481, hs⟩ := obind hs
  refine rq_seq 99 o480 [0, 1, 0, 7] [dv [] [10] 42 (sl A473 r472 cA473), dv [0] [] 43 (.iface 23 (sl A473 r472 cA473)), dv [] [10] 44 (.func (.func 48) #[] #[pt g477 0]), dv [1, 2] [] 45 (.tuple #[])] z480 d480 ?_ ?_
  ·exact sL1 to23 e480_10 b480_g477 <| sF (fun f => ok1 f.1) <| sS (fun s => ok1 (s.1.trans e480_10)) <| sF (fun f => or_callG cf47 (args2 f.1 f.2.1) (sortTiny23 (tiny_some hu481))) <| steps_nil
  intro o482 a482 w482 d482 z482 hk482 hf482 hE482
  obtain ⟨e482_9, e482_10⟩ := kt2 hk482 e480_9 e480_10
  have hX482 := Evo.step hX480 hown hE482 rfl
  obtain ⟨b482_g469, b482_g477⟩ := be2 hE482 b480_g469 b480_g477
  have b482_A473 := re_ hE482 b480_A473
  refine rq_seq 99 o482 (bz 2) [⟨[], [], [], Fct.map_ 484 46 vv9 vv3 ([] : List (ByteArray × Int))⟩, ⟨[0], [], [], Fct.rel [11, 46] (fun l => ∀ (g483 : Nat), l.getD 1 undef = .map (some g483) → l.getD 0 undef = .map (some g483))⟩] z482 d482 ?_ ?_
  ·refine sO (or_makeMap) ?_
   refine sc (fun own a wx hf hsl hE => ?_) ?_
   ·obtain ⟨⟨g483, (f_46 : a.eval (.tmp 46) = .map (some g483)), b_g483⟩, -⟩ := hf
    exact px (or_mono (f := Fct.val 11 (.map (some g483))) (or_assign f_46) (fun own' a' w' v' hp h => fun _ h0' => by cases (f_46.symm.trans ((hp.2 46 (by decide)).symm.trans h0')); exact h))
   exact steps_nil
  intro o485 a485 w485 d485 z485 hk485 hf485 hE485
  obtain ⟨e485_9, e485_10⟩ := kt2 hk485 e482_9 e482_10
  obtain ⟨⟨g483, (f_46 : a485.eval (.tmp 46) = .map (some g483)), (b485_g483 : MpO o485 484 w485 g483 vv9 vv3 ([] : List (ByteArray × Int)))⟩, (q_11 : ∀ (g483 : Nat), a485.eval (.tmp 46) = .map (some g483) → a485.eval (.tmp 11) = .map (some g483)), -⟩ := hf485 [0, 1] rfl
  have e485_11 := q_11 _ f_46
  have hX485 := Evo.step hX482 hown hE485 rfl
  obtain ⟨b485_g469, b485_g477⟩ := be2 hE485 b482_g469 b482_g477
  have b485_A473 := re_ hE485 b482_A473
  refine fl_seq (fun Q486 hn486 hp486 => ?_)
  refine rq_seq 99 o485 [0, 1, 0] [dv [] [10] 47 (sl A473 r472 cA473), dv [0] [] 48 (Zi (r472.length : Int)), dv [] [] 49 (Zi 0)] z485 d485 ?_ ?_
  ·exact sL1 to23 e485_10 b485_g477 <| sF (fun f => or_len tu23 f.1 rfl) <| sO (or_move rfl) <| steps_nil
  intro o487 a487 w487 d487 z487 hk487 hf487 hE487
  obtain ⟨e487_9, e487_11⟩ := kt2 hk487 e485_9 e485_11
  have e487_47 := gv (hf487 [0] rfl) rfl
  have e487_48 := gv (hf487 [1] rfl) rfl
  have e487_49 := gv (hf487 [2] rfl) rfl
  have hX487 := Evo.step hX485 hown hE487 rfl
  have b487_g469 := be_ hE487 b485_g469
  have b487_A473 := re_ hE487 b485_A473
  have b487_g483 := MpO.evo (by decide) hE487 b485_g483
  refine fl_block (fun Q488 hn488 hx488 hp488 => ?_)
  refine fl_loop (body := (fun s => pack_packed_b2 head1 r472 s.1 s.2.1 s.2.2.1 s.2.2.2)) (z := r) (show loopO _ _ = _ from hs) (fun (s : (List (List Int)) × (List ((Int × Int × Int) × Int)) × (List (ByteArray × Int)) × Int) a wx => match s with | (p576, p581, numbers584, x587) => ∃ (ox : Own) (A574 : Option Addr) (c575 : Nat) (A579 : Option Addr) (c580 : Nat), a.defers = [] ∧ a.tmps.size = 99 ∧ a.eval (.tmp 9) = pt g469 0 ∧ a.eval (.tmp 11) = .map (some g483) ∧ a.eval (.tmp 47) = sl A473 r472 cA473 ∧ a.eval (.tmp 48) = Zi (r472.length : Int) ∧ a.eval (.tmp 49) = Zi x587 ∧ Evo [] own ox w wx ∧ BlkO ox 573 wx g469 64 #[sl Ahead1 head1 chead1, sl A574 p576 c575, sl A579 p581 c580] ∧ RwO ox 577 [1, 578] wx 22 R22 A574 c575 p576 ∧ RwO ox 582 [] wx 66 R66 A579 c580 p581 ∧ MpO ox 583 wx g483 vv9 vv3 numbers584 ∧ RwO ox 578 [1, 578] wx 30 R30 A473 cA473 r472) ?_ ?_
  ·exact ⟨(rl [(470, 573), (474, 578), (475, 578), (476, 578), (484, 583)] o487), none, 0, none, 0, d487, z487, e487_9, e487_11, e487_47, e487_48, e487_49, (Evo.rl_ hX487 hown rfl), (BlkO.rl_ b487_g469), RwO.nil_, RwO.nil_, (MpO.rl_ b487_g483), (RwO.more (RwO.rl_ b487_A473) (by decide))⟩
  ·rintro ⟨p576, p581, numbers584, x587⟩ zz669 a669 w669 ⟨o669, A574, c575, A579, c580, d670, z670, e670_9, e670_11, e670_47, e670_48, e670_49, hE670, b670_g469, b670_A574, b670_A579, b670_g483, b670_A473⟩ hs Q669 hn669 hp669 z669
   have hs : pack_packed_b2 head1 r472 p576 p581 numbers584 x587 = some zz669 := hs
   refine rq_seq 99 o669 (bz 1) [dv [] [49, 48] 50 (.bool (decide (x587 < (r472.length : Int))))] z670 d670 ?_ ?_
   ·exact sS (fun s => or_lss (s.1.trans e670_49) (s.2.1.trans e670_48) rfl) <| steps_nil
   intro o671 a671 w671 d671 z671 hk671 hf671 hE671
   obtain ⟨e671_9, e671_11, e671_47, e671_48, e671_49⟩ := kt5 hk671 e670_9 e670_11 e670_47 e670_48 e670_49
   have e671_50 := gv (hf671 [0] rfl) rfl
   have hX671 := Evo.step hE670 hown hE671 rfl
   have b671_g469 := be_ hE671 b670_g469
   have b671_A574 := re_ hE671 b670_A574
   have b671_A579 := re_ hE671 b670_A579
   have b671_g483 := MpO.evo (by decide) hE671 b670_g483
   have b671_A473 := re_ hE671 b670_A473
   refine fl_seq (fun Q672 hn672 hp672 => ?_)
   refine fl_cond e671_50 hs (fun c673 hs => ?_) (fun c673 hs => ?_)
   ·refine fl_skip ?_
    refine hn672 _ _ ?_
    refine fl_seq (fun Q674 hn674 hp674 => ?_)
    refine fl_block (fun Q675 hn675 hx675 hp675 => ?_)
    obtain ⟨x676, hx676, hs⟩ := obind hs
    refine rp_seq 99 o671 [679] [0, 1, 0, 7] [dv [] [47, 49] 51 (.pointer (some ((adr A473).add ((x587 : Int).toNat * R30.s)))), ⟨[0], [], [], Fct.nest X30 [578, 1, 578] 52 (fun (y : (Unit × (Option Addr × Nat))) => .agg #[Zi x676.1.1, Zi x676.1.2.1, Zi x676.1.2.2, .slice y.2.1 x676.2.length y.2.2]) x676⟩, ⟨[], [], [], Fct.blk 679 13 (fun g => pt g 0) 30 #[Zi 0, Zi 0, Zi 0, .slice none 0 0]⟩, ⟨[2, 1], [], [679], Fct.by_ [680] [13, 52] (fun l own w => ∃ g678 : Nat, l.getD 0 undef = pt g678 0 ∧ (∀ (A677 : Option Addr) (cA677 : Nat), l.getD 1 undef = .agg #[Zi x676.1.1, Zi x676.1.2.1, Zi x676.1.2.2, sl A677 x676.2 cA677] → BlkO own 680 w g678 30 #[Zi x676.1.1, Zi x676.1.2.1, Zi x676.1.2.2, sl A677 x676.2 cA677])) (fun hk he h => by obtain ⟨g, e, h⟩ := h; exact ⟨g, e, fun _ _ h0' => BlkO.evo (not_hit hk (by decide)) he (h _ _ h0')⟩)⟩] z671 d671 ?_ ?_
    ·refine sS (fun s => or_index (R := R30) (l := r472) tl23 (s.1.trans e671_47) (s.2.1.trans e671_49) (RdO.some_ (RwO.rd b671_A473) hx676) hx676) <| sFE (fun f hE => or_loadN X30 0 4 ta30 f.1 (Addr.add_zero' _).symm (RwO.rd (re_ hE b671_A473)) hx676 (fun _ => rfl) (fun _ => rfl)) <| sO (nw0) ?_
     refine sc (fun own a wx hf hsl hE => ?_) ?_
     ·obtain ⟨⟨g678, f_13, b_g678⟩, ⟨⟨_, ⟨A677, cA677⟩⟩, (f_52 : a.eval (.tmp 52) = .agg #[Zi x676.1.1, Zi x676.1.2.1, Zi x676.1.2.2, sl A677 x676.2 cA677]), ⟨-, b_A677⟩⟩, -⟩ := hf
      exact px (or_store (l := #[Zi x676.1.1, Zi x676.1.2.1, Zi x676.1.2.2, sl A677 x676.2 cA677]) (lab := 679) (lab2 := 680) ts30 f_13 f_52 b_g678 (by simp) (by kernel_rfl) (mem_of rfl) (by decide) (by kernel_rfl) (fun own' a' w' ha hb => ⟨_, (ha 13).trans f_13, fun _ _ h0' => by cases (f_52.symm.trans ((ha 52).symm.trans h0')); exact hb⟩))
     exact steps_nil
    intro o681 a681 w681 d681 z681 hk681 hf681 hE681
    obtain ⟨e681_9, e681_11, e681_47, e681_48, e681_49⟩ := kt5 hk681 e671_9 e671_11 e671_47 e671_48 e671_49
    obtain ⟨⟨⟨_, ⟨A677, cA677⟩⟩, (f_52 : a681.eval (.tmp 52) = .agg #[Zi x676.1.1, Zi x676.1.2.1, Zi x676.1.2.2, sl A677 x676.2 cA677]), ⟨-, (b681_A677 : RdO o681 [578, 1, 578] w681 R5 A677 cA677 x676.2)⟩⟩, ⟨g678, (e681_13 : a681.eval (.tmp 13) = pt g678 0), (bq_g678 : ∀ (A677 : Option Addr) (cA677 : Nat), a681.eval (.tmp 52) = .agg #[Zi x676.1.1, Zi x676.1.2.1, Zi x676.1.2.2, sl A677 x676.2 cA677] → BlkO o681 680 w681 g678 30 #[Zi x676.1.1, Zi x676.1.2.1, Zi x676.1.2.2, sl A677 x676.2 cA677])⟩, -⟩ := hf681 [1, 3] rfl
    have b681_g678 := bq_g678 _ _ f_52
    have hX681 := Evo.step hX671 hown hE681 rfl
    have b681_g469 := be_ hE681 b671_g469
    have b681_A574 := re_ hE681 b671_A574
    have b681_A579 := re_ hE681 b671_A579
    have b681_g483 := MpO.evo (by decide) hE681 b671_g483
    have b681_A473 := re_ hE681 b671_A473
    refine rq_seq 99 o681 [0, 0, 2, 6, 15, 31, 63, 63, 127, 511] [dv [] [11] 54 (.map (some g483)), dv [] [13] 55 (pt g678 3), dv [1] [] 56 (sl A677 x676.2 cA677), dv [2] [] 57 (.string (bsS x676.2)), dv [0, 3] [] 58 (.tuple #[Zi ((lkM numbers584 (bsS x676.2)).getD 0), .bool ((lkM numbers584 (bsS x676.2)).isSome)]), dv [4] [] 53 (.tuple #[Zi ((lkM numbers584 (bsS x676.2)).getD 0), .bool ((lkM numbers584 (bsS x676.2)).isSome)]), dv [5] [] 59 (Zi ((lkM numbers584 (bsS x676.2)).getD 0)), dv [5] [] 60 (.bool ((lkM numbers584 (bsS x676.2)).isSome)), dv [6] [] 14 (Zi ((lkM numbers584 (bsS x676.2)).getD 0)), dv [7] [] 15 (.bool ((lkM numbers584 (bsS x676.2)).isSome))] z681 d681 ?_ ?_
    ·exact sM e681_11 <| sS (fun s => or_field fo30_1 (s.1.trans e681_13) (by rfl)) <| sG to22 b681_g678 <| sFE (fun f hE => or_convBS tu22 tn5 tS9 f.1 (RdO.evo rfl hE b681_A677)) <| sFE (fun f hE => or_lookup2 (kf := vv9) (vf := vv3) (k := (bsS x676.2)) (dv := 0) ko9 tm101 tzv101 f.1 f.2.1 (MpO.evo (by decide) hE b681_g483) rfl rfl) <| sV <| sF (fun f => ok1 f.1) <| sF (fun f => ok1 f.1) <| sA <| sA <| steps_nil
    intro o682 a682 w682 d682 z682 hk682 hf682 hE682
    obtain ⟨e682_9, e682_11, e682_13, e682_47, e682_48, e682_49⟩ := kt6 hk682 e681_9 e681_11 e681_13 e681_47 e681_48 e681_49
    have e682_14 := gv (hf682 [8] rfl) rfl
    have e682_15 := gv (hf682 [9] rfl) rfl
    have hX682 := Evo.step hX681 hown hE682 rfl
    obtain ⟨b682_g469, b682_g678⟩ := be2 hE682 b681_g469 b681_g678
    have b682_A574 := re_ hE682 b681_A574
    have b682_A579 := re_ hE682 b681_A579
    have b682_g483 := MpO.evo (by decide) hE682 b681_g483
    have b682_A473 := re_ hE682 b681_A473
    have b682_A677 := RdO.evo rfl hE682 b681_A677
    refine fl_seq (fun Q683 hn683 hp683 => ?_)
    have K714 : ∀ (a714 : Act) (w714 : World) (o714 : Own) (p707 : List (List Int)) (numbers711 : List (ByteArray × Int)) (n712 : Int) (A705 : Option Addr) (c706 : Nat), a714.defers = [] → a714.tmps.size = 99 → a714.eval (.tmp 9) = pt g469 0 → a714.eval (.tmp 11) = .map (some g483) → a714.eval (.tmp 13) = pt g678 0 → a714.eval (.tmp 14) = Zi n712 → a714.eval (.tmp 47) = sl A473 r472 cA473 → a714.eval (.tmp 48) = Zi (r472.length : Int) → a714.eval (.tmp 49) = Zi x587 → Evo [] own o714 w w714 → BlkO o714 704 w714 g469 64 #[sl Ahead1 head1 chead1, sl A705 p707 c706, sl A579 p581 c580] → RwO o714 708 [1, 709] w714 22 R22 A705 c706 p707 → RwO o714 582 [] w714 66 R66 A579 c580 p581 → MpO o714 710 w714 g483 vv9 vv3 numbers711 → BlkO o714 680 w714 g678 30 #[Zi x676.1.1, Zi x676.1.2.1, Zi x676.1.2.2, sl A677 x676.2 cA677] → RdO o714 [1, 709] w714 R5 A677 cA677 x676.2 → RwO o714 709 [1, 709] w714 30 R30 A473 cA473 r472 → pack_packed_k3 p581 x587 x676 p707 numbers711 n712 = some zz669 → Q683 .normal a714 w714 := by
     intro a714 w714 o714 p707 numbers711 n712 A705 c706 d715 z715 e715_9 e715_11 e715_13 e715_14 e715_47 e715_48 e715_49 hE715 b715_g469 b715_A705 b715_A579 b715_g483 b715_g678 b715_A677 b715_A473 hs
     refine hn683 _ _ ?_
     obtain ⟨x725, hx725, hs⟩ := obind hs
     refine rd_ g_mixed 99 [Fct.rowAt 582 [] 66 R66 A579 c580 p581, Fct.at_ 704 g469 64 #[sl Ahead1 head1 chead1, sl A705 p707 c706, sl A579 p581 c580]] o714 [582, 704] [0, 0, 2, 6, 14, 0, 32, 0, 224, 480, 1022, 2047, 4095, 8191] [dv [] [9] 84 (pt g469 0), dv [] [9] 85 (pt g469 0), dv [1] [] 86 (pt g469 0), dv [2] [] 87 (pt g469 2), dv [3, 15] [] 88 (sl A579 p581 c580), dv [] [13] 89 (pt g678 0), dv [5] [] 90 (.agg #[Zi x676.1.1, Zi x676.1.2.1, Zi x676.1.2.2]), dv [] [14] 91 (Zi n712), dv [6, 7] [] 92 (.agg #[Zi x676.1.1, Zi x676.1.2.1, Zi x676.1.2.2, Zi n712]), ⟨[8], [], [], Fct.row 724 [] 93 66 R66 [(x676.1, n712)]⟩, ⟨[4, 9, 14], [], [582], Fct.row 726 [] 94 66 R66 x725⟩, dv [0] [] 95 (pt g469 0), dv [11] [] 96 (pt g469 2), ⟨[12, 10, 15], [], [704], Fct.by_ [728] [94] (fun l own w => ∀ (A727 : Option Addr) (cA727 : Nat), l.getD 0 undef = sl A727 x725 cA727 → BlkO own 728 w g469 64 #[sl Ahead1 head1 chead1, sl A705 p707 c706, sl A727 x725 cA727]) (fun hk he h _ _ h0' => BlkO.evo (not_hit hk (by decide)) he (h _ _ h0'))⟩] z715 d715 (fm2 b715_A579 b715_g469) ?_ ?_
     ·refine sM e715_9 <| sM e715_9 <| sF (fun f => ok1 f.1) <| sF (fun f => or_field fo64_2 f.1 (by rfl)) ?_
      refine sc (fun own a wx hf hsl hE => ?_) ?_
      ·obtain ⟨f_87, (b_g469 : BlkO own 704 wx g469 64 #[sl Ahead1 head1 chead1, sl A705 p707 c706, sl A579 p581 c580]), -⟩ := hf
       exact px (ld1 to62 f_87 b_g469)
      refine sS (fun s => or_field fo30_0 (s.1.trans e715_13) (by rfl)) <| sFE (fun f hE => ldS ta28 f.1 (be_ hE b715_g678)) <| sM e715_14 <| sF (fun f => ok2 f.1 f.2.1) <| sF (fun f => or_lit (lab := 724) (e := 66) (cs := #[Zi x676.1.1, Zi x676.1.2.1, Zi x676.1.2.2, Zi n712]) (F := E66) (nw1 f.1) rfl rfl (show 1 ≤ maxLen by decide)) ?_
      refine sc (fun own a wx hf hsl hE => ?_) ?_
      ·obtain ⟨f_88, ⟨⟨A723, cA723⟩, f_93, b_A723⟩, b_A579, -⟩ := hf
       exact px (or_append (R := R66) (lab := 582) (lab2 := 726) (L := []) (L3 := []) tp62 f_88 b_A579 (by decide) f_93 (RwO.rd b_A723) hx725 (by decide) (by decide) (mem_of rfl) (.inl (Rep.fl_flat _)))
      refine sF (fun f => ok1 f.1) <| sF (fun f => or_field fo64_2 f.1 (by rfl)) ?_
      refine sc (fun own a wx hf hsl hE => ?_) ?_
      ·obtain ⟨f_96, ⟨⟨A727, cA727⟩, (f_94 : a.eval (.tmp 94) = sl A727 x725 cA727), b_A727⟩, b_g469, -⟩ := hf
       exact px (or_store1 (lab := 704) (lab2 := 728) ts62 f_96 f_94 b_g469 (by simp) rfl (mem_of rfl) (by decide) rfl (fun own' a' w' ha hb => fun _ _ h0' => by cases (f_94.symm.trans ((ha 94).symm.trans h0')); exact hb))
      exact steps_nil
     intro o729 a729 w729 d729 z729 hk729 hf729 hE729
     obtain ⟨e729_9, e729_11, e729_47, e729_48, e729_49⟩ := kt5 hk729 e715_9 e715_11 e715_47 e715_48 e715_49
     obtain ⟨⟨⟨A727, cA727⟩, (f_94 : a729.eval (.tmp 94) = sl A727 x725 cA727), (b729_A727 : RwO o729 726 [] w729 66 R66 A727 cA727 x725)⟩, (bq_g469 : ∀ (A727 : Option Addr) (cA727 : Nat), a729.eval (.tmp 94) = sl A727 x725 cA727 → BlkO o729 728 w729 g469 64 #[sl Ahead1 head1 chead1, sl A705 p707 c706, sl A727 x725 cA727]), -⟩ := hf729 [10, 13] rfl
     have b729_g469 := bq_g469 _ _ f_94
     have hX729 := Evo.step hE715 hown hE729 rfl
     have b729_A705 := re_ hE729 b715_A705
     have b729_g483 := MpO.evo (by decide) hE729 b715_g483
     have b729_A473 := re_ hE729 b715_A473
     refine hn675 _ _ ?_
     refine hn674 _ _ ?_
     refine rq 99 o729 (bz 2) [dv [] [49] 97 (Zi (ad x587 1)), dv [0] [] 49 (Zi (ad x587 1))] z729 d729 ?_ ?_
     ·exact sS (fun s => or_add (s.1.trans e729_49) rfl rfl) <| sV <| steps_nil
     intro o730 a730 w730 d730 z730 hk730 hf730 hE730
     obtain ⟨e730_9, e730_11, e730_47, e730_48⟩ := kt4 hk730 e729_9 e729_11 e729_47 e729_48
     have e730_49 := gv (hf730 [1] rfl) rfl
     have hX730 := Evo.step hX729 hown hE730 rfl
     have b730_g469 := be_ hE730 b729_g469
     have b730_A705 := re_ hE730 b729_A705
     have b730_g483 := MpO.evo (by decide) hE730 b729_g483
     have b730_A473 := re_ hE730 b729_A473
     have b730_A727 := re_ hE730 b729_A727
     exact hn669 _ _ _ hs ⟨(rl [(708, 577), (709, 578), (710, 583), (726, 582), (728, 573)] o730), A705, c706, A727, cA727, d730, z730, e730_9, e730_11, e730_47, e730_48, e730_49, (Evo.rl_ hX730 hown rfl), (BlkO.rl_ b730_g469), (RwO.rl_ b730_A705), (RwO.rl_ b730_A727), (MpO.rl_ b730_g483), (RwO.rl_ b730_A473)⟩
    refine rq_seq 99 o682 (bz 2) [dv [] [15] 61 (.bool ((lkM numbers584 (bsS x676.2)).isSome)), dv [0] [] 62 (.bool (!((lkM numbers584 (bsS x676.2)).isSome)))] z682 d682 ?_ ?_
    ·exact sM e682_15 <| sF (fun f => or_not f.1 rfl) <| steps_nil
    intro o731 a731 w731 d731 z731 hk731 hf731 hE731
    obtain ⟨e731_9, e731_11, e731_13, e731_14, e731_47, e731_48, e731_49⟩ := kt7 hk731 e682_9 e682_11 e682_13 e682_14 e682_47 e682_48 e682_49
    have e731_62 := gv (hf731 [1] rfl) rfl
    have hX731 := Evo.step hX682 hown hE731 rfl
    obtain ⟨b731_g469, b731_g678⟩ := be2 hE731 b682_g469 b682_g678
    have b731_A574 := re_ hE731 b682_A574
    have b731_A579 := re_ hE731 b682_A579
    have b731_g483 := MpO.evo (by decide) hE731 b682_g483
    have b731_A473 := re_ hE731 b682_A473
    have b731_A677 := RdO.evo rfl hE731 b682_A677
    refine fl_cond e731_62 hs (fun c732 hs => ?_) (fun c732 hs => ?_)
    ·refine rq_seq 99 o731 (bz 6) [dv [] [9] 63 (pt g469 0), dv [0] [] 64 (pt g469 0), dv [1] [] 65 (pt g469 1), dv [2] [] 66 (sl A574 p576 c575), dv [3] [] 67 (Zi (p576.length : Int)), dv [4] [] 14 (Zi (p576.length : Int))] z731 d731 ?_ ?_
     ·exact sM e731_9 <| sF (fun f => ok1 f.1) <| sF (fun f => or_field fo64_1 f.1 (by rfl)) <| sG to61 b731_g469 <| sF (fun f => or_len tu61 f.1 rfl) <| sA <| steps_nil
     intro o733 a733 w733 d733 z733 hk733 hf733 hE733
     obtain ⟨e733_9, e733_11, e733_13, e733_47, e733_48, e733_49⟩ := kt6 hk733 e731_9 e731_11 e731_13 e731_47 e731_48 e731_49
     have e733_14 := gv (hf733 [5] rfl) rfl
     have hX733 := Evo.step hX731 hown hE733 rfl
     obtain ⟨b733_g469, b733_g678⟩ := be2 hE733 b731_g469 b731_g678
     have b733_A574 := re_ hE733 b731_A574
     have b733_A579 := re_ hE733 b731_A579
     have b733_g483 := MpO.evo (by decide) hE733 b731_g483
     have b733_A473 := re_ hE733 b731_A473
     have b733_A677 := RdO.evo rfl hE733 b731_A677
     obtain ⟨D734, hD734, hs⟩ := obind hs
     refine rr_seq 99 [Fct.mapAt 583 g483 vv9 vv3 numbers584] o733 [583] [0, 0, 2, 6, 0, 31] [dv [] [11] 68 (.map (some g483)), dv [] [13] 69 (pt g678 3), dv [1] [] 70 (sl A677 x676.2 cA677), dv [2] [] 71 (.string (bsS x676.2)), dv [] [14] 72 (Zi (p576.length : Int)), ⟨[0, 3, 4, 6], [], [583], Fct.mapAt 735 g483 vv9 vv3 D734⟩] z733 d733 (fm1 b733_g483) ?_ ?_
     ·refine sM e733_11 <| sS (fun s => or_field fo30_1 (s.1.trans e733_13) (by rfl)) <| sG to22 b733_g678 <| sFE (fun f hE => or_convBS tu22 tn5 tS9 f.1 (RdO.evo rfl hE b733_A677)) <| sM e733_14 ?_
      refine sc (fun own a wx hf hsl hE => ?_) ?_
      ·obtain ⟨f_68, f_71, f_72, b_g483, -⟩ := hf
       exact px (or_mapUpdate (kf := vv9) (vf := vv3) (k := (bsS x676.2)) (v := (p576.length : Int)) (lab := 583) (lab2 := 735) ko9 tm101 f_68 f_71 f_72 b_g483 (osome hD734).symm (mem_of rfl) (by decide) (fun own' a' w' hb => hb))
      exact steps_nil
     intro o736 a736 w736 d736 z736 hk736 hf736 hE736
     obtain ⟨e736_9, e736_11, e736_13, e736_14, e736_47, e736_48, e736_49⟩ := kt7 hk736 e733_9 e733_11 e733_13 e733_14 e733_47 e733_48 e733_49
     obtain ⟨(b736_g483 : MpO o736 735 w736 g483 vv9 vv3 D734), -⟩ := hf736 [5] rfl
     have hX736 := Evo.step hX733 hown hE736 rfl
     obtain ⟨b736_g469, b736_g678⟩ := be2 hE736 b733_g469 b733_g678
     have b736_A574 := re_ hE736 b733_A574
     have b736_A579 := re_ hE736 b733_A579
     have b736_A473 := re_ hE736 b733_A473
     have b736_A677 := RdO.evo rfl hE736 b733_A677
     obtain ⟨x746, hx746, hs⟩ := obind hs
     refine rd_ g_mixed 99 [Fct.rowAt 577 [1, 578] 22 R22 A574 c575 p576, Fct.at_ 573 g469 64 #[sl Ahead1 head1 chead1, sl A574 p576 c575, sl A579 p581 c580]] o736 [577, 573] [0, 0, 2, 6, 14, 0, 32, 96, 254, 511, 1023, 2047] [dv [] [9] 73 (pt g469 0), dv [] [9] 74 (pt g469 0), dv [1] [] 75 (pt g469 0), dv [2] [] 76 (pt g469 1), dv [3, 13] [] 77 (sl A574 p576 c575), dv [] [13] 78 (pt g678 3), dv [5] [] 79 (sl A677 x676.2 cA677), ⟨[6], [], [], Fct.row 745 [1, 578] 80 22 R22 [x676.2]⟩, ⟨[4, 7, 12], [], [577], Fct.row 747 [1, 578, 745] 81 22 R22 x746⟩, dv [0] [] 82 (pt g469 0), dv [9] [] 83 (pt g469 1), ⟨[10, 8, 13], [], [573], Fct.by_ [749] [81] (fun l own w => ∀ (A748 : Option Addr) (cA748 : Nat), l.getD 0 undef = sl A748 x746 cA748 → BlkO own 749 w g469 64 #[sl Ahead1 head1 chead1, sl A748 x746 cA748, sl A579 p581 c580]) (fun hk he h _ _ h0' => BlkO.evo (not_hit hk (by decide)) he (h _ _ h0'))⟩] z736 d736 (fm2 b736_A574 b736_g469) ?_ ?_
     ·refine sM e736_9 <| sM e736_9 <| sF (fun f => ok1 f.1) <| sF (fun f => or_field fo64_1 f.1 (by rfl)) ?_
      refine sc (fun own a wx hf hsl hE => ?_) ?_
      ·obtain ⟨f_76, (b_g469 : BlkO own 573 wx g469 64 #[sl Ahead1 head1 chead1, sl A574 p576 c575, sl A579 p581 c580]), -⟩ := hf
       exact px (ld1 to61 f_76 b_g469)
      refine sS (fun s => or_field fo30_1 (s.1.trans e736_13) (by rfl)) <| sG to22 b736_g678 <| sFE (fun f hE => or_litN (R := R22) (lab := 745) (L := [1, 578]) (e := 22) (cs := #[sl A677 x676.2 cA677]) (l := [x676.2]) (n := 1) [(79, sl A677 x676.2 cA677)] rfl rfl ⟨f.1, trivial⟩ (by kernel_rfl) rfl (by decide) ⟨(Ex.iff X22).2 ⟨(A677, cA677), rfl, (RdO.more (RdO.evo rfl hE b736_A677) (by decide))⟩, rfl⟩ rfl) ?_
      refine sc (fun own a wx hf hsl hE => ?_) ?_
      ·obtain ⟨f_77, ⟨⟨A744, cA744⟩, f_80, b_A744⟩, b_A574, -⟩ := hf
       exact px (or_append (R := R22) (lab := 577) (lab2 := 747) (L := [1, 578]) (L3 := [1, 578, 745]) tp61 f_77 b_A574 (by decide) f_80 (RwO.rd b_A744) hx746 (by decide) (by decide) (mem_of rfl) (.inr ⟨rfl, rfl, by decide, by decide⟩))
      refine sF (fun f => ok1 f.1) <| sF (fun f => or_field fo64_1 f.1 (by rfl)) ?_
      refine sc (fun own a wx hf hsl hE => ?_) ?_
      ·obtain ⟨f_83, ⟨⟨A748, cA748⟩, (f_81 : a.eval (.tmp 81) = sl A748 x746 cA748), b_A748⟩, b_g469, -⟩ := hf
       exact px (or_store1 (lab := 573) (lab2 := 749) ts61 f_83 f_81 b_g469 (by simp) rfl (mem_of rfl) (by decide) rfl (fun own' a' w' ha hb => fun _ _ h0' => by cases (f_81.symm.trans ((ha 81).symm.trans h0')); exact hb))
      exact steps_nil
     intro o750 a750 w750 d750 z750 hk750 hf750 hE750
     obtain ⟨e750_9, e750_11, e750_13, e750_14, e750_47, e750_48, e750_49⟩ := kt7 hk750 e736_9 e736_11 e736_13 e736_14 e736_47 e736_48 e736_49
     obtain ⟨⟨⟨A748, cA748⟩, (f_81 : a750.eval (.tmp 81) = sl A748 x746 cA748), (b750_A748 : RwO o750 747 [1, 578, 745] w750 22 R22 A748 cA748 x746)⟩, (bq_g469 : ∀ (A748 : Option Addr) (cA748 : Nat), a750.eval (.tmp 81) = sl A748 x746 cA748 → BlkO o750 749 w750 g469 64 #[sl Ahead1 head1 chead1, sl A748 x746 cA748, sl A579 p581 c580]), -⟩ := hf750 [8, 11] rfl
     have b750_g469 := bq_g469 _ _ f_81
     have hX750 := Evo.step hX736 hown hE750 rfl
     have b750_g678 := be_ hE750 b736_g678
     have b750_A579 := re_ hE750 b736_A579
     have b750_A473 := re_ hE750 b736_A473
     have b750_A677 := RdO.evo rfl hE750 b736_A677
     have b750_g483 := MpO.evo (by decide) hE750 b736_g483
     exact (K714 _ _ (rl [(578, 709), (735, 710), (745, 709), (747, 708), (749, 704)] o750) _ _ _ A748 cA748 d750 z750 e750_9 e750_11 e750_13 e750_14 e750_47 e750_48 e750_49 (Evo.rl_ hX750 hown rfl) (BlkO.rl_ b750_g469) (RwO.more (RwO.rl_ b750_A748) (by decide)) (RwO.rl_ b750_A579) (MpO.rl_ b750_g483) (BlkO.rl_ b750_g678) (RdO.more (RdO.rl_ b750_A677) (by decide)) (RwO.rl_ b750_A473) hs)
    refine fl_skip ?_
    exact (K714 _ _ (rl [(573, 704), (577, 708), (578, 709), (583, 710)] o731) _ _ _ A574 c575 d731 z731 e731_9 e731_11 e731_13 e731_14 e731_47 e731_48 e731_49 (Evo.rl_ hX731 hown rfl) (BlkO.rl_ b731_g469) (RwO.rl_ b731_A574) (RwO.rl_ b731_A579) (MpO.rl_ b731_g483) (BlkO.rl_ b731_g678) (RdO.more (RdO.rl_ b731_A677) (by decide)) (RwO.rl_ b731_A473) hs)
   refine fl_exit ?_
   refine hp672 _ _ _ rfl ?_
   replace hs := z669 _ hs
   refine hp669 _ _ _ rfl ?_
   refine hx488 _ _ ?_
   refine hn486 _ _ ?_
   refine rq_seq 99 o671 (bz 3) [dv [] [9] 98 (pt g469 0), dv [0] [] 4 (pt g469 0), dv [] [] 5 (Zi 0)] z671 d671 ?_ ?_
   ·exact sM e671_9 <| sA <| sO (or_assign rfl) <| steps_nil
   intro o751 a751 w751 d751 z751 hk751 hf751 hE751
   have e751_4 := gv (hf751 [1] rfl) rfl
   have e751_5 := gv (hf751 [2] rfl) rfl
   have hX751 := Evo.step hX671 hown hE751 rfl
   have b751_g469 := be_ hE751 b671_g469
   have b751_A574 := re_ hE751 b671_A574
   have b751_A579 := re_ hE751 b671_A579
   refine fl_ret ?_
   obtain rfl := osome hs
   exact hret _ _ _ _ (.inl rfl) d751 (results2_ rfl (RVal.tmp_ e751_4) (RVal.tmp_ e751_5)) ⟨(rl [(573, 2), (577, 4), (578, 5), (582, 6)] o751), ((none, g469), (Ahead1, chead1), (A574, c575), (A579, c580)), rfl, (Evo.rl_ hX751 hown rfl), (RdO.more (RdO.rl_ (RdO.evo rfl hX751 hhead1)) (by decide)), (RwO.rl_ b751_A574), (RwO.rl_ b751_A579), (BlkO.rl_ b751_g469)⟩
theorem varint_Bytes_w (w : World) (l1 : List Int) (Al1 : Option Addr) (cl1 : Nat) (hl1 : RdO (fun _ => 0) [0] w R26 Al1 cl1 l1) (r : List Int) (hs : varint_Bytes l1 = some r) :
  Calls Try.prog 25 #[sl Al1 l1 cl1] w fun e w' => ∃ (own' : Own) (x : Option Addr × Nat), e = .returned (.slice x.1 r.length x.2) ∧ Evo [] (fun _ => 0) own' w w' ∧ RwO own' 1 [] w' 5 R5 x.1 x.2 r := by
 refine fl_enter (n := 29) rfl rfl rfl (Nat.le_of_ble_eq_true rfl) ?_
 intro a0 Q d0 z0 harg hret
 have ha0 := harg 0 _ rfl
 clear harg
 have hE0 : Evo [] (fun _ => 0) (fun _ => 0) w w := Evo.refl _ _ _
 refine rq_seq 29 (fun _ => 0) (bz 1) [dv [] [] 2 (.slice none 0 0)] z0 d0 ?_ ?_
 ·exact sO (or_assign rfl) <| steps_nil
 intro o939 a939 w939 d939 z939 hk939 hf939 hE939
 have e939_0 := kt hk939 ha0
 have hX939 := es_ hE0 hE939
 refine rq_seq 29 o939 (bz 1) [dv [] [] 3 (.slice none 0 0)] z939 d939 ?_ ?_
 ·exact sO (or_assign rfl) <| steps_nil
 intro o940 a940 w940 d940 z940 hk940 hf940 hE940
 have e940_0 := kt hk940 e939_0
 have e940_3 := gv (hf940 [0] rfl) rfl
 have hX940 := es_ hX939 hE940
 refine fl_seq (fun Q941 hn941 hp941 => ?_)
 refine rq_seq 29 o940 [0, 1, 0] [dv [] [0] 6 (sl Al1 l1 cl1), dv [0] [] 7 (Zi (l1.length : Int)), dv [] [] 8 (Zi 0)] z940 d940 ?_ ?_
 ·exact sM e940_0 <| sF (fun f => or_len tu103 f.1 rfl) <| sO (or_move rfl) <| steps_nil
 intro o942 a942 w942 d942 z942 hk942 hf942 hE942
 have e942_3 := kt hk942 e940_3
 have e942_6 := gv (hf942 [0] rfl) rfl
 have e942_7 := gv (hf942 [1] rfl) rfl
 have e942_8 := gv (hf942 [2] rfl) rfl
 have hX942 := es_ hX940 hE942
 refine fl_block (fun Q943 hn943 hx943 hp943 => ?_)
 refine fl_loop (body := (fun s => varint_Bytes_b1 l1 s.1 s.2)) (z := r) (show loopO _ _ = _ from hs) (fun (s : (List Int) × Int) a wx => match s with | (out1246, x1248) => ∃ (ox : Own) (A1244 : Option Addr) (c1245 : Nat), a.defers = [] ∧ a.tmps.size = 29 ∧ a.eval (.tmp 3) = sl A1244 out1246 c1245 ∧ a.eval (.tmp 6) = sl Al1 l1 cl1 ∧ a.eval (.tmp 7) = Zi (l1.length : Int) ∧ a.eval (.tmp 8) = Zi x1248 ∧ Evo [] (fun _ => 0) ox w wx ∧ RwO ox 1247 [] wx 5 R5 A1244 c1245 out1246) ?_ ?_
 ·exact ⟨o942, none, 0, d942, z942, e942_3, e942_6, e942_7, e942_8, hX942, RwO.nil_⟩
 ·rintro ⟨out1246, x1248⟩ zz1557 a1557 w1557 ⟨o1557, A1244, c1245, d1558, z1558, e1558_3, e1558_6, e1558_7, e1558_8, hE1558, b1558_A1244⟩ hs Q1557 hn1557 hp1557 z1557
  have hs : varint_Bytes_b1 l1 out1246 x1248 = some zz1557 := hs
  refine rq_seq 29 o1557 (bz 1) [dv [] [8, 7] 9 (.bool (decide (x1248 < (l1.length : Int))))] z1558 d1558 ?_ ?_
  ·exact sS (fun s => or_lss (s.1.trans e1558_8) (s.2.1.trans e1558_7) rfl) <| steps_nil
  intro o1559 a1559 w1559 d1559 z1559 hk1559 hf1559 hE1559
  obtain ⟨e1559_3, e1559_6, e1559_7, e1559_8⟩ := kt4 hk1559 e1558_3 e1558_6 e1558_7 e1558_8
  have e1559_9 := gv (hf1559 [0] rfl) rfl
  have hX1559 := es_ hE1558 hE1559
  have b1559_A1244 := re_ hE1559 b1558_A1244
  refine fl_seq (fun Q1560 hn1560 hp1560 => ?_)
  refine fl_cond e1559_9 hs (fun c1561 hs => ?_) (fun c1561 hs => ?_)
  ·refine fl_skip ?_
   refine hn1560 _ _ ?_
   refine fl_seq (fun Q1562 hn1562 hp1562 => ?_)
   refine fl_block (fun Q1714 hn1714 hx1714 hp1714 => ?_)
   obtain ⟨x1790, hx1790, hs⟩ := obind hs
   refine rq_seq 29 o1559 (bz 3) [dv [] [6, 8] 10 (.pointer (some ((adr Al1).add ((x1248 : Int).toNat * R26.s)))), dv [0] [] 11 (.int .u64 x1790), dv [1] [] 5 (.int .u64 x1790)] z1559 d1559 ?_ ?_
   ·exact sS (fun s => or_index (R := R26) (l := l1) tl103 (s.1.trans e1559_6) (s.2.1.trans e1559_8) (RdO.some_ (RdO.evo rfl hX1559 hl1) hx1790) hx1790) <| sFE (fun f hE => or_load1 to26 f.1 (CellsAt.zero (RdO.cells (F := E26) (RdO.evo rfl hE (RdO.evo rfl hX1559 hl1)) hx1790) rfl)) <| sA <| steps_nil
   intro o1791 a1791 w1791 d1791 z1791 hk1791 hf1791 hE1791
   obtain ⟨e1791_3, e1791_6, e1791_7, e1791_8⟩ := kt4 hk1791 e1559_3 e1559_6 e1559_7 e1559_8
   have e1791_5 := gv (hf1791 [2] rfl) rfl
   have hX1791 := es_ hX1559 hE1791
   have b1791_A1244 := re_ hE1791 b1559_A1244
   refine fl_scope_head (body := (fun s => varint_Bytes_b2_0 x1248 s.1 s.2)) (z := zz1557) (show loopO _ _ = _ from hs) (fun (s : (List Int) × Int) a wx => match s with | (out1816, n1817) => ∃ (ox : Own) (A1814 : Option Addr) (c1815 : Nat), a.defers = [] ∧ a.tmps.size = 29 ∧ a.eval (.tmp 3) = sl A1814 out1816 c1815 ∧ a.eval (.tmp 5) = .int .u64 n1817 ∧ a.eval (.tmp 6) = sl Al1 l1 cl1 ∧ a.eval (.tmp 7) = Zi (l1.length : Int) ∧ a.eval (.tmp 8) = Zi x1248 ∧ Evo [] (fun _ => 0) ox w wx ∧ RwO ox 1809 [] wx 5 R5 A1814 c1815 out1816) ?_ ?_
   ·exact ⟨(rl [(1247, 1809)] o1791), A1244, c1245, d1791, z1791, e1791_3, e1791_5, e1791_6, e1791_7, e1791_8, (Evo.rl_ hX1791 (fun _ => Nat.le_refl 0) rfl), (RwO.rl_ b1791_A1244)⟩
   ·rintro ⟨out1816, n1817⟩
    rintro zz1841 a1842 w1842 ⟨o1842, A1814, c1815, d1843, z1843, e1843_3, e1843_5, e1843_6, e1843_7, e1843_8, hE1843, b1843_A1814⟩ hs Q1842 hj1842 hp1842 z1842
    have hs : varint_Bytes_b2_0 x1248 out1816 n1817 = some zz1841 := hs
    refine fl_seq (fun Q1844 hn1844 hp1844 => ?_)
    refine rq_seq 29 o1842 (bz 2) [dv [] [5] 12 (.int .u64 n1817), dv [0] [] 13 (.bool (decide (n1817 < 128)))] z1843 d1843 ?_ ?_
    ·exact sM e1843_5 <| sF (fun f => or_lss f.1 rfl rfl) <| steps_nil
    intro o1845 a1845 w1845 d1845 z1845 hk1845 hf1845 hE1845
    obtain ⟨e1845_3, e1845_5, e1845_6, e1845_7, e1845_8⟩ := kt5 hk1845 e1843_3 e1843_5 e1843_6 e1843_7 e1843_8
    have e1845_13 := gv (hf1845 [1] rfl) rfl
    have hX1845 := es_ hE1843 hE1845
    have b1845_A1814 := re_ hE1845 b1843_A1814
    refine fl_cond e1845_13 hs (fun c1846 hs => ?_) (fun c1846 hs => ?_)
    ·obtain ⟨x1851, hx1851, hs⟩ := obind hs
     refine rr_seq 29 [Fct.rowAt 1809 [] 5 R5 A1814 c1815 out1816] o1845 [1809] [0, 0, 2, 6, 15, 31] [dv [] [3] 14 (sl A1814 out1816 c1815), dv [] [5] 15 (.int .u64 n1817), dv [1] [] 16 (.int .u8 (IntKind.u8.wrap n1817)), ⟨[2], [], [], Fct.row 1850 [] 17 5 R5 [IntKind.u8.wrap n1817]⟩, ⟨[0, 3, 6], [], [1809], Fct.row 1852 [] 18 5 R5 x1851⟩, ⟨[4], [], [], Fct.rel [3, 18] (fun l => ∀ (A1853 : Option Addr) (cA1853 : Nat), l.getD 1 undef = sl A1853 x1851 cA1853 → l.getD 0 undef = sl A1853 x1851 cA1853)⟩] z1845 d1845 (fm1 b1845_A1814) ?_ ?_
     ·refine sM e1845_3 <| sM e1845_5 <| sF (fun f => or_conv f.1 tn26 tn5 rfl) <| sF (fun f => or_lit (lab := 1850) (e := 5) (cs := #[.int .u8 (IntKind.u8.wrap n1817)]) (F := E5) (nw1 f.1) rfl rfl (show 1 ≤ maxLen by decide)) ?_
      refine sc (fun own a wx hf hsl hE => ?_) ?_
      ·obtain ⟨f_14, ⟨⟨A1849, cA1849⟩, f_17, b_A1849⟩, b_A1814, -⟩ := hf
       exact px (or_append (R := R5) (lab := 1809) (lab2 := 1852) (L := []) (L3 := []) tp22 f_14 b_A1814 (by decide) f_17 (RwO.rd b_A1849) hx1851 (by decide) (by decide) (mem_of rfl) (.inl (Rep.fl_flat _)))
      refine sc (fun own a wx hf hsl hE => ?_) ?_
      ·obtain ⟨⟨⟨A1853, cA1853⟩, (f_18 : a.eval (.tmp 18) = sl A1853 x1851 cA1853), b_A1853⟩, -⟩ := hf
       exact px (or_mono (f := Fct.val 3 (sl A1853 x1851 cA1853)) (or_assign f_18) (fun own' a' w' v' hp h => fun _ _ h0' => by cases (f_18.symm.trans ((hp.2 18 (by decide)).symm.trans h0')); exact h))
      exact steps_nil
     intro o1854 a1854 w1854 d1854 z1854 hk1854 hf1854 hE1854
     obtain ⟨e1854_6, e1854_7, e1854_8⟩ := kt3 hk1854 e1845_6 e1845_7 e1845_8
     obtain ⟨⟨⟨A1853, cA1853⟩, (f_18 : a1854.eval (.tmp 18) = sl A1853 x1851 cA1853), (b1854_A1853 : RwO o1854 1852 [] w1854 5 R5 A1853 cA1853 x1851)⟩, (q_3 : ∀ (A1853 : Option Addr) (cA1853 : Nat), a1854.eval (.tmp 18) = sl A1853 x1851 cA1853 → a1854.eval (.tmp 3) = sl A1853 x1851 cA1853), -⟩ := hf1854 [4, 5] rfl
     have e1854_3 := q_3 _ _ f_18
     have hX1854 := es_ hX1845 hE1854
     refine fl_exit ?_
     refine hp1844 _ _ _ rfl ?_
     replace hs := z1842 _ hs
     refine hp1842.leaves _ _ _ rfl ?_
     refine hx1714 _ _ ?_
     refine hn1562 _ _ ?_
     refine rq 29 o1854 (bz 2) [dv [] [8] 27 (Zi (ad x1248 1)), dv [0] [] 8 (Zi (ad x1248 1))] z1854 d1854 ?_ ?_
     ·exact sS (fun s => or_add (s.1.trans e1854_8) rfl rfl) <| sV <| steps_nil
     intro o1855 a1855 w1855 d1855 z1855 hk1855 hf1855 hE1855
     obtain ⟨e1855_3, e1855_6, e1855_7⟩ := kt3 hk1855 e1854_3 e1854_6 e1854_7
     have e1855_8 := gv (hf1855 [1] rfl) rfl
     have hX1855 := es_ hX1854 hE1855
     have b1855_A1853 := re_ hE1855 b1854_A1853
     exact hn1557 _ _ _ hs ⟨(rl [(1852, 1247)] o1855), A1853, cA1853, d1855, z1855, e1855_3, e1855_6, e1855_7, e1855_8, (Evo.rl_ hX1855 (fun _ => Nat.le_refl 0) rfl), (RwO.rl_ b1855_A1853)⟩
    refine fl_skip ?_
    refine hn1844 _ _ ?_
    obtain ⟨x1860, hx1860, hs⟩ := obind hs
    refine rr_seq 29 [Fct.rowAt 1809 [] 5 R5 A1814 c1815 out1816] o1845 [1809] [0, 0, 2, 6, 14, 31, 63] [dv [] [3] 19 (sl A1814 out1816 c1815), dv [] [5] 20 (.int .u64 n1817), dv [1] [] 21 (.int .u8 (IntKind.u8.wrap n1817)), dv [2] [] 22 (.int .u8 (orK .u8 (IntKind.u8.wrap n1817) 128)), ⟨[3], [], [], Fct.row 1859 [] 23 5 R5 [orK .u8 (IntKind.u8.wrap n1817) 128]⟩, ⟨[0, 4, 7], [], [1809], Fct.row 1861 [] 24 5 R5 x1860⟩, ⟨[5], [], [], Fct.rel [3, 24] (fun l => ∀ (A1862 : Option Addr) (cA1862 : Nat), l.getD 1 undef = sl A1862 x1860 cA1862 → l.getD 0 undef = sl A1862 x1860 cA1862)⟩] z1845 d1845 (fm1 b1845_A1814) ?_ ?_
    ·refine sM e1845_3 <| sM e1845_5 <| sF (fun f => or_conv f.1 tn26 tn5 rfl) <| sF (fun f => or_bor f.1 rfl rfl) <| sF (fun f => or_lit (lab := 1859) (e := 5) (cs := #[.int .u8 (orK .u8 (IntKind.u8.wrap n1817) 128)]) (F := E5) (nw1 f.1) rfl rfl (show 1 ≤ maxLen by decide)) ?_
     refine sc (fun own a wx hf hsl hE => ?_) ?_
     ·obtain ⟨f_19, ⟨⟨A1858, cA1858⟩, f_23, b_A1858⟩, b_A1814, -⟩ := hf
      exact px (or_append (R := R5) (lab := 1809) (lab2 := 1861) (L := []) (L3 := []) tp22 f_19 b_A1814 (by decide) f_23 (RwO.rd b_A1858) hx1860 (by decide) (by decide) (mem_of rfl) (.inl (Rep.fl_flat _)))
     refine sc (fun own a wx hf hsl hE => ?_) ?_
     ·obtain ⟨⟨⟨A1862, cA1862⟩, (f_24 : a.eval (.tmp 24) = sl A1862 x1860 cA1862), b_A1862⟩, -⟩ := hf
      exact px (or_mono (f := Fct.val 3 (sl A1862 x1860 cA1862)) (or_assign f_24) (fun own' a' w' v' hp h => fun _ _ h0' => by cases (f_24.symm.trans ((hp.2 24 (by decide)).symm.trans h0')); exact h))
     exact steps_nil
    intro o1863 a1863 w1863 d1863 z1863 hk1863 hf1863 hE1863
    obtain ⟨e1863_5, e1863_6, e1863_7, e1863_8⟩ := kt4 hk1863 e1845_5 e1845_6 e1845_7 e1845_8
    obtain ⟨⟨⟨A1862, cA1862⟩, (f_24 : a1863.eval (.tmp 24) = sl A1862 x1860 cA1862), (b1863_A1862 : RwO o1863 1861 [] w1863 5 R5 A1862 cA1862 x1860)⟩, (q_3 : ∀ (A1862 : Option Addr) (cA1862 : Nat), a1863.eval (.tmp 24) = sl A1862 x1860 cA1862 → a1863.eval (.tmp 3) = sl A1862 x1860 cA1862), -⟩ := hf1863 [5, 6] rfl
    have e1863_3 := q_3 _ _ f_24
    have hX1863 := es_ hX1845 hE1863
    obtain ⟨x1864, hx1864, hs⟩ := obind hs
    refine rq_seq 29 o1863 (bz 3) [dv [] [5] 25 (.int .u64 n1817), dv [0] [] 26 (.int .u64 x1864), dv [1] [] 5 (.int .u64 x1864)] z1863 d1863 ?_ ?_
    ·exact sM e1863_5 <| sF (fun f => or_shr f.1 rfl hx1864) <| sA <| steps_nil
    intro o1865 a1865 w1865 d1865 z1865 hk1865 hf1865 hE1865
    obtain ⟨e1865_3, e1865_6, e1865_7, e1865_8⟩ := kt4 hk1865 e1863_3 e1863_6 e1863_7 e1863_8
    have e1865_5 := gv (hf1865 [2] rfl) rfl
    have hX1865 := es_ hX1863 hE1865
    have b1865_A1862 := re_ hE1865 b1863_A1862
    refine fl_goto ?_
    exact hj1842 (x1860, x1864) _ _ hs ⟨(rl [(1861, 1809)] o1865), A1862, cA1862, d1865, z1865, e1865_3, e1865_5, e1865_6, e1865_7, e1865_8, (Evo.rl_ hX1865 (fun _ => Nat.le_refl 0) rfl), (RwO.rl_ b1865_A1862)⟩
  refine fl_exit ?_
  refine hp1560 _ _ _ rfl ?_
  replace hs := z1557 _ hs
  refine hp1557 _ _ _ rfl ?_
  refine hx943 _ _ ?_
  refine hn941 _ _ ?_
  refine rq_seq 29 o1559 (bz 2) [dv [] [3] 28 (sl A1244 out1246 c1245), dv [0] [] 2 (sl A1244 out1246 c1245)] z1559 d1559 ?_ ?_
  ·exact sM e1559_3 <| sA <| steps_nil
  intro o1866 a1866 w1866 d1866 z1866 hk1866 hf1866 hE1866
  have e1866_2 := gv (hf1866 [1] rfl) rfl
  have hX1866 := es_ hX1559 hE1866
  have b1866_A1244 := re_ hE1866 b1559_A1244
  refine fl_ret ?_
  obtain rfl := (osome hs).symm
  exact hret _ _ _ _ (.inl rfl) d1866 (results1_ rfl (RVal.tmp_ e1866_2)) ⟨(rl [(1247, 1)] o1866), (A1244, c1245), rfl, (Evo.rl_ hX1866 (fun _ => Nat.le_refl 0) rfl), (RwO.rl_ b1866_A1244)⟩
theorem pack_Write_1_w (w : World) (own : Own) (n1 : Int) (f1 : List Int) (gf1 : Nat) (tf1 : TypeId) (Af1_0 : Option Addr) (cf1_0 : Nat) (hown : ∀ b, own b ≤ 2) (hgf1 : BlkO own 1 w gf1 tf1 #[sl Af1_0 f1 cf1_0]) (hAf1_0 : RwO own 2 [] w 5 R5 Af1_0 cf1_0 f1) (r : List Int) (hs : pack_Write_1 n1 f1 = some r) :
  Calls Try.prog 24 #[Zi n1, pt gf1 0] w fun e w' => ∃ (own' : Own) (x : Option Addr × Nat), e = .returned (.tuple #[]) ∧ Evo [1, 2] own own' w w' ∧ RwO own' 2 [] w' 5 R5 x.1 x.2 r ∧ BlkO own' 1 w' gf1 tf1 #[.slice x.1 r.length x.2] := by
 refine fl_enter (n := 9) rfl rfl rfl (Nat.le_of_ble_eq_true rfl) ?_
 intro a0 Q d0 z0 harg hret
 have ha0 := harg 0 _ rfl
 have ha1 := harg 1 _ rfl
 clear harg
 have hE0 : Evo [1, 2] own own w w := Evo.refl _ _ _
 obtain ⟨r51, hr51, hs⟩ := obind hs
 obtain ⟨x54, hx54, hs⟩ := obind hs
 refine rd_ g_mixed 9 [Fct.rowAt 2 [] 5 R5 Af1_0 cf1_0 f1, Fct.at_ 1 gf1 tf1 #[sl Af1_0 f1 cf1_0]] own [2, 1] [0, 0, 2, 6, 14, 31, 63] [dv [8] [1] 3 (sl Af1_0 f1 cf1_0), dv [] [0] 4 (Zi n1), dv [1] [] 5 (.int .u64 (IntKind.u64.wrap n1)), ⟨[2], [], [], Fct.row 50 [] 6 26 R26 [IntKind.u64.wrap n1]⟩, ⟨[3], [], [], Fct.row 53 [] 7 5 R5 r51⟩, ⟨[0, 4, 7], [], [2], Fct.row 55 [] 8 5 R5 x54⟩, ⟨[5, 8], [1], [1], Fct.by_ [57] [8] (fun l own w => ∀ (A56 : Option Addr) (cA56 : Nat), l.getD 0 undef = sl A56 x54 cA56 → BlkO own 57 w gf1 tf1 #[sl A56 x54 cA56]) (fun hk he h _ _ h0' => BlkO.evo (not_hit hk (by decide)) he (h _ _ h0'))⟩] z0 d0 (fm2 hAf1_0 hgf1) ?_ ?_
 ·refine sc (fun own a wx hf hsl hE => ?_) ?_
  ·obtain ⟨(b_gf1 : BlkO own 1 wx gf1 tf1 #[sl Af1_0 f1 cf1_0]), -⟩ := hf
   obtain ⟨s_1, -⟩ := hsl
   exact px (ld1 to22 (s_1.trans ha1) b_gf1)
  refine sM ha0 <| sF (fun f => or_conv f.1 tn3 tn26 rfl) <| sF (fun f => or_lit (lab := 50) (e := 26) (cs := #[.int .u64 (IntKind.u64.wrap n1)]) (F := E26) (nw1 f.1) rfl rfl (show 1 ≤ maxLen by decide)) ?_
  refine sc (fun own a wx hf hsl hE => ?_) ?_
  ·obtain ⟨⟨⟨A49, cA49⟩, f_6, b_A49⟩, -⟩ := hf
   exact px (or_call cf25 (args1 f_6) (varint_Bytes_w _ [IntKind.u64.wrap n1] A49 cA49 (RdO.zero (RwO.rd b_A49)) r51 hr51) (post_row (m' := (look0 [(1, 53)])) (.inl (Rep.fl_flat _)) rfl rfl (fun _ => rfl)))
  refine sc (fun own a wx hf hsl hE => ?_) ?_
  ·obtain ⟨f_3, ⟨⟨A52, cA52⟩, f_7, b_A52⟩, b_Af1_0, -⟩ := hf
   exact px (or_append (R := R5) (lab := 2) (lab2 := 55) (L := []) (L3 := []) tp22 f_3 b_Af1_0 (by decide) f_7 (RwO.rd b_A52) hx54 (by decide) (by decide) (mem_of rfl) (.inl (Rep.fl_flat _)))
  refine sc (fun own a wx hf hsl hE => ?_) ?_
  ·obtain ⟨⟨⟨A56, cA56⟩, (f_8 : a.eval (.tmp 8) = sl A56 x54 cA56), b_A56⟩, b_gf1, -⟩ := hf
   obtain ⟨s_1, -⟩ := hsl
   exact px (or_store1 (lab := 1) (lab2 := 57) ts22 (s_1.trans ha1) f_8 b_gf1 (by simp) rfl (mem_of rfl) (by decide) rfl (fun own' a' w' ha hb => fun _ _ h0' => by cases (f_8.symm.trans ((ha 8).symm.trans h0')); exact hb))
  exact steps_nil
 intro o58 a58 w58 d58 z58 hk58 hf58 hE58
 have e58_1 := kt hk58 ha1
 obtain ⟨⟨⟨A56, cA56⟩, (f_8 : a58.eval (.tmp 8) = sl A56 x54 cA56), (b58_A56 : RwO o58 55 [] w58 5 R5 A56 cA56 x54)⟩, (bq_gf1 : ∀ (A56 : Option Addr) (cA56 : Nat), a58.eval (.tmp 8) = sl A56 x54 cA56 → BlkO o58 57 w58 gf1 tf1 #[sl A56 x54 cA56]), -⟩ := hf58 [5, 6] rfl
 have b58_gf1 := bq_gf1 _ _ f_8
 have hX58 := Evo.step hE0 hown hE58 rfl
 obtain rfl := (osome hs).symm
 exact hret _ _ _ _ (.inr rfl) d58 (results0_ rfl ) ⟨(rl [(55, 2), (57, 1)] o58), (A56, cA56), rfl, (Evo.rl_ hX58 hown rfl), (RwO.rl_ b58_A56), (BlkO.rl_ b58_gf1)⟩
theorem pack_Write_1_p1_w (w : World) (own : Own) (n1 : Int) (f1 : List Int) (gf1 : Nat) (tf1 : TypeId) (Af1_0 : Option Addr) (hown : ∀ b, own b ≤ 2) (hgf1 : BlkO own 1 w gf1 tf1 #[sl Af1_0 f1 f1.length]) (hAf1_0 : RdO own [0] w R5 Af1_0 f1.length f1) (r : List Int) (hs : pack_Write_1_p1 n1 f1 = some r) :
  Calls Try.prog 24 #[Zi n1, pt gf1 0] w fun e w' => ∃ (own' : Own) (x : Option Addr × Nat), e = .returned (.tuple #[]) ∧ Evo [1, 2] own own' w w' ∧ RwO own' 2 [] w' 5 R5 x.1 x.2 r ∧ BlkO own' 1 w' gf1 tf1 #[.slice x.1 r.length x.2] := by
 refine fl_enter (n := 9) rfl rfl rfl (Nat.le_of_ble_eq_true rfl) ?_
 intro a0 Q d0 z0 harg hret
 have ha0 := harg 0 _ rfl
 have ha1 := harg 1 _ rfl
 clear harg
 have hE0 : Evo [1, 2] own own w w := Evo.refl _ _ _
 obtain ⟨r44, hr44, hs⟩ := obind hs
 obtain ⟨x47, hx47, hs⟩ := obind hs
 refine rd_ g_mixed 9 [Fct.at_ 1 gf1 tf1 #[sl Af1_0 f1 f1.length]] own [48, 1] [0, 0, 2, 6, 14, 31, 63] [dv [7] [1] 3 (sl Af1_0 f1 f1.length), dv [] [0] 4 (Zi n1), dv [1] [] 5 (.int .u64 (IntKind.u64.wrap n1)), ⟨[2], [], [], Fct.row 43 [] 6 26 R26 [IntKind.u64.wrap n1]⟩, ⟨[3], [], [], Fct.row 46 [] 7 5 R5 r44⟩, ⟨[0, 4], [], [48], Fct.row 49 [] 8 5 R5 x47⟩, ⟨[5, 7], [1], [1], Fct.by_ [51] [8] (fun l own w => ∀ (A50 : Option Addr) (cA50 : Nat), l.getD 0 undef = sl A50 x47 cA50 → BlkO own 51 w gf1 tf1 #[sl A50 x47 cA50]) (fun hk he h _ _ h0' => BlkO.evo (not_hit hk (by decide)) he (h _ _ h0'))⟩] z0 d0 (fm1 hgf1) ?_ ?_
 ·refine sc (fun own a wx hf hsl hE => ?_) ?_
  ·obtain ⟨(b_gf1 : BlkO own 1 wx gf1 tf1 #[sl Af1_0 f1 f1.length]), -⟩ := hf
   obtain ⟨s_1, -⟩ := hsl
   exact px (ld1 to22 (s_1.trans ha1) b_gf1)
  refine sM ha0 <| sF (fun f => or_conv f.1 tn3 tn26 rfl) <| sF (fun f => or_lit (lab := 43) (e := 26) (cs := #[.int .u64 (IntKind.u64.wrap n1)]) (F := E26) (nw1 f.1) rfl rfl (show 1 ≤ maxLen by decide)) ?_
  refine sc (fun own a wx hf hsl hE => ?_) ?_
  ·obtain ⟨⟨⟨A42, cA42⟩, f_6, b_A42⟩, -⟩ := hf
   exact px (or_call cf25 (args1 f_6) (varint_Bytes_w _ [IntKind.u64.wrap n1] A42 cA42 (RdO.zero (RwO.rd b_A42)) r44 hr44) (post_row (m' := (look0 [(1, 46)])) (.inl (Rep.fl_flat _)) rfl rfl (fun _ => rfl)))
  refine sc (fun own a wx hf hsl hE => ?_) ?_
  ·obtain ⟨f_3, ⟨⟨A45, cA45⟩, f_7, b_A45⟩, -⟩ := hf
   exact px (or_appendF (R := R5) (lab := 48) (lab2 := 49) tp22 f_3 (RdO.evo rfl hE hAf1_0) f_7 (RwO.rd b_A45) (apF_some hx47).1 (apF_some hx47).2 (by decide) (by decide) (Rep.fl_flat _) (mem_of rfl) (by decide))
  refine sc (fun own a wx hf hsl hE => ?_) ?_
  ·obtain ⟨⟨⟨A50, cA50⟩, (f_8 : a.eval (.tmp 8) = sl A50 x47 cA50), b_A50⟩, b_gf1, -⟩ := hf
   obtain ⟨s_1, -⟩ := hsl
   exact px (or_store1 (lab := 1) (lab2 := 51) ts22 (s_1.trans ha1) f_8 b_gf1 (by simp) rfl (mem_of rfl) (by decide) rfl (fun own' a' w' ha hb => fun _ _ h0' => by cases (f_8.symm.trans ((ha 8).symm.trans h0')); exact hb))
  exact steps_nil
 intro o52 a52 w52 d52 z52 hk52 hf52 hE52
 have e52_1 := kt hk52 ha1
 obtain ⟨⟨⟨A50, cA50⟩, (f_8 : a52.eval (.tmp 8) = sl A50 x47 cA50), (b52_A50 : RwO o52 49 [] w52 5 R5 A50 cA50 x47)⟩, (bq_gf1 : ∀ (A50 : Option Addr) (cA50 : Nat), a52.eval (.tmp 8) = sl A50 x47 cA50 → BlkO o52 51 w52 gf1 tf1 #[sl A50 x47 cA50]), -⟩ := hf52 [5, 6] rfl
 have b52_gf1 := bq_gf1 _ _ f_8
 have hX52 := Evo.step hE0 hown hE52 rfl
 obtain rfl := (osome hs).symm
 exact hret _ _ _ _ (.inr rfl) d52 (results0_ rfl ) ⟨(rl [(49, 2), (51, 1)] o52), (A50, cA50), rfl, (Evo.rl_ hX52 hown rfl), (RwO.rl_ b52_A50), (BlkO.rl_ b52_gf1)⟩
theorem pack_Write_2_w (w : World) (own : Own) (b1 : List Int) (Ab1 : Option Addr) (cb1 : Nat) (f2 : List Int) (gf2 : Nat) (tf2 : TypeId) (Af2_0 : Option Addr) (gf1 : Nat) (tf1 : TypeId) (hown : ∀ b, own b ≤ 2) (hb1 : RdO own [0] w R5 Ab1 cb1 b1) (hgf2 : BlkO own 1 w gf2 tf2 #[sl Af2_0 f2 f2.length]) (hAf2_0 : RdO own [0] w R5 Af2_0 f2.length f2) (hgf1 : BlkO own 0 w gf1 tf1 #[.func (.func 24) #[] #[pt gf2 0]]) (r : List Int) (hs : pack_Write_2 b1 f2 = some r) :
  Calls Try.prog 26 #[sl Ab1 b1 cb1, pt gf1 0, pt gf2 0] w fun e w' => ∃ (own' : Own) (x : Option Addr × Nat), e = .returned (.tuple #[]) ∧ Evo [1, 2] own own' w w' ∧ RwO own' 2 [] w' 5 R5 x.1 x.2 r ∧ BlkO own' 1 w' gf2 tf2 #[.slice x.1 r.length x.2] := by
 refine fl_enter (n := 11) rfl rfl rfl (Nat.le_of_ble_eq_true rfl) ?_
 intro a0 Q d0 z0 harg hret
 have ha0 := harg 0 _ rfl
 have ha1 := harg 1 _ rfl
 have ha2 := harg 2 _ rfl
 clear harg
 have hE0 : Evo [1, 2] own own w w := Evo.refl _ _ _
 obtain ⟨r26, hr26, hs⟩ := obind hs
 refine rr_seq 11 [Fct.at_ 1 gf2 tf2 #[sl Af2_0 f2 f2.length]] own [1] [0, 0, 2, 7] [dv [] [1] 4 (.func (.func 24) #[] #[pt gf2 0]), dv [] [0] 5 (sl Ab1 b1 cb1), dv [1] [] 6 (Zi (b1.length : Int)), ⟨[0, 2, 4], [], [1], Fct.mems [28, 29] 7 (fun (x : Option Addr × Nat) => .tuple #[]) (fun (x : Option Addr × Nat) own w => RwO own 28 [] w 5 R5 x.1 x.2 r26 ∧ BlkO own 29 w gf2 tf2 #[.slice x.1 r26.length x.2]) (fun hk he h => ⟨RwO.evo (hits_sub hk (by decide)) he h.1, BlkO.evo (not_hit hk (by decide)) he h.2⟩)⟩] z0 d0 (fm1 hgf2) ?_ ?_
 ·refine sL1 to59 ha1 hgf1 <| sM ha0 <| sF (fun f => or_len tu22 f.1 rfl) ?_
  refine sc (fun own a wx hf hsl hE => ?_) ?_
  ·obtain ⟨f_4, f_6, b_gf2, -⟩ := hf
   exact px (or_callf cf24 f_4 (args1 f_6) rfl (pack_Write_1_p1_w _ (forth own (look0 [(1, 1)])) (b1.length : Int) f2 gf2 tf2 Af2_0 (look0_le rfl) (BlkO.forth_ (m := (look0 [(1, 1)])) b_gf2) (RdO.forth_ (m := (look0 [(1, 1)])) (RdO.evo rfl hE hAf2_0)) r26 hr26) (post_mems (m := (look0 [(1, 1)])) (m' := (look0 [(1, 29), (2, 28)])) (hm_of rfl) (fun own' w' a' x h1 h => ⟨x, h1, ⟨RwO.back_ h.1 (by decide) (.inl (Rep.fl_flat _)), BlkO.back_ h.2 (by decide)⟩⟩)))
  exact steps_nil
 intro o30 a30 w30 d30 z30 hk30 hf30 hE30
 obtain ⟨e30_0, e30_2⟩ := kt2 hk30 ha0 ha2
 obtain ⟨⟨⟨A27, cA27⟩, (f_7 : a30.eval (.tmp 7) = .tuple #[]), (b30_A27 : RwO o30 28 [] w30 5 R5 A27 cA27 r26), (b30_gf2 : BlkO o30 29 w30 gf2 tf2 #[sl A27 r26 cA27])⟩, -⟩ := hf30 [3] rfl
 have hX30 := Evo.step hE0 hown hE30 rfl
 obtain ⟨x34, hx34, hs⟩ := obind hs
 refine rr 11 [Fct.rowAt 28 [] 5 R5 A27 cA27 r26, Fct.at_ 29 gf2 tf2 #[sl A27 r26 cA27]] o30 [28, 29] [0, 0, 3, 7] [dv [5] [2] 8 (sl A27 r26 cA27), dv [] [0] 9 (sl Ab1 b1 cb1), ⟨[0, 1, 4], [], [28], Fct.row 35 [] 10 5 R5 x34⟩, ⟨[2, 5], [2], [29], Fct.by_ [37] [10] (fun l own w => ∀ (A36 : Option Addr) (cA36 : Nat), l.getD 0 undef = sl A36 x34 cA36 → BlkO own 37 w gf2 tf2 #[sl A36 x34 cA36]) (fun hk he h _ _ h0' => BlkO.evo (not_hit hk (by decide)) he (h _ _ h0'))⟩] z30 d30 (fm2 b30_A27 b30_gf2) ?_ ?_
 ·refine sc (fun own a wx hf hsl hE => ?_) ?_
  ·obtain ⟨(b_gf2 : BlkO own 29 wx gf2 tf2 #[sl A27 r26 cA27]), -⟩ := hf
   obtain ⟨s_2, -⟩ := hsl
   exact px (ld1 to22 (s_2.trans e30_2) b_gf2)
  refine sM e30_0 ?_
  refine sc (fun own a wx hf hsl hE => ?_) ?_
  ·obtain ⟨f_8, f_9, b_A27, -⟩ := hf
   exact px (or_append (R := R5) (lab := 28) (lab2 := 35) (L := []) (L3 := []) tp22 f_8 b_A27 (by decide) f_9 (RdO.evo rfl hE (RdO.evo rfl hX30 hb1)) hx34 (by decide) (by decide) (mem_of rfl) (.inl (Rep.fl_flat _)))
  refine sc (fun own a wx hf hsl hE => ?_) ?_
  ·obtain ⟨⟨⟨A36, cA36⟩, (f_10 : a.eval (.tmp 10) = sl A36 x34 cA36), b_A36⟩, b_gf2, -⟩ := hf
   obtain ⟨s_2, -⟩ := hsl
   exact px (or_store1 (lab := 29) (lab2 := 37) ts22 (s_2.trans e30_2) f_10 b_gf2 (by simp) rfl (mem_of rfl) (by decide) rfl (fun own' a' w' ha hb => fun _ _ h0' => by cases (f_10.symm.trans ((ha 10).symm.trans h0')); exact hb))
  exact steps_nil
 intro o38 a38 w38 d38 z38 hk38 hf38 hE38
 have e38_2 := kt hk38 e30_2
 obtain ⟨⟨⟨A36, cA36⟩, (f_10 : a38.eval (.tmp 10) = sl A36 x34 cA36), (b38_A36 : RwO o38 35 [] w38 5 R5 A36 cA36 x34)⟩, (bq_gf2 : ∀ (A36 : Option Addr) (cA36 : Nat), a38.eval (.tmp 10) = sl A36 x34 cA36 → BlkO o38 37 w38 gf2 tf2 #[sl A36 x34 cA36]), -⟩ := hf38 [2, 3] rfl
 have b38_gf2 := bq_gf2 _ _ f_10
 have hX38 := Evo.step hX30 hown hE38 rfl
 obtain rfl := (osome hs).symm
 exact hret _ _ _ _ (.inr rfl) d38 (results0_ rfl ) ⟨(rl [(35, 2), (37, 1)] o38), (A36, cA36), rfl, (Evo.rl_ hX38 hown rfl), (RwO.rl_ b38_A36), (BlkO.rl_ b38_gf2)⟩
theorem pack_Write_2_p1_w (w : World) (own : Own) (b1 : List Int) (Ab1 : Option Addr) (cb1 : Nat) (f2 : List Int) (gf2 : Nat) (tf2 : TypeId) (Af2_0 : Option Addr) (cf2_0 : Nat) (gf1 : Nat) (tf1 : TypeId) (hown : ∀ b, own b ≤ 2) (hb1 : RdO own [0] w R5 Ab1 cb1 b1) (hgf2 : BlkO own 1 w gf2 tf2 #[sl Af2_0 f2 cf2_0]) (hAf2_0 : RwO own 2 [] w 5 R5 Af2_0 cf2_0 f2) (hgf1 : BlkO own 0 w gf1 tf1 #[.func (.func 24) #[] #[pt gf2 0]]) (r : List Int) (hs : pack_Write_2_p1 b1 f2 = some r) :
  Calls Try.prog 26 #[sl Ab1 b1 cb1, pt gf1 0, pt gf2 0] w fun e w' => ∃ (own' : Own) (x : Option Addr × Nat), e = .returned (.tuple #[]) ∧ Evo [1, 2] own own' w w' ∧ RwO own' 2 [] w' 5 R5 x.1 x.2 r ∧ BlkO own' 1 w' gf2 tf2 #[.slice x.1 r.length x.2] := by
 refine fl_enter (n := 11) rfl rfl rfl (Nat.le_of_ble_eq_true rfl) ?_
 intro a0 Q d0 z0 harg hret
 have ha0 := harg 0 _ rfl
 have ha1 := harg 1 _ rfl
 have ha2 := harg 2 _ rfl
 clear harg
 have hE0 : Evo [1, 2] own own w w := Evo.refl _ _ _
 obtain ⟨r26, hr26, hs⟩ := obind hs
 refine rr_seq 11 [Fct.at_ 1 gf2 tf2 #[sl Af2_0 f2 cf2_0], Fct.rowAt 2 [] 5 R5 Af2_0 cf2_0 f2] own [1, 2] [0, 0, 2, 7] [dv [] [1] 4 (.func (.func 24) #[] #[pt gf2 0]), dv [] [0] 5 (sl Ab1 b1 cb1), dv [1] [] 6 (Zi (b1.length : Int)), ⟨[0, 2, 4, 5], [], [1, 2], Fct.mems [28, 29] 7 (fun (x : Option Addr × Nat) => .tuple #[]) (fun (x : Option Addr × Nat) own w => RwO own 28 [] w 5 R5 x.1 x.2 r26 ∧ BlkO own 29 w gf2 tf2 #[.slice x.1 r26.length x.2]) (fun hk he h => ⟨RwO.evo (hits_sub hk (by decide)) he h.1, BlkO.evo (not_hit hk (by decide)) he h.2⟩)⟩] z0 d0 (fm2 hgf2 hAf2_0) ?_ ?_
 ·refine sL1 to59 ha1 hgf1 <| sM ha0 <| sF (fun f => or_len tu22 f.1 rfl) ?_
  refine sc (fun own a wx hf hsl hE => ?_) ?_
  ·obtain ⟨f_4, f_6, b_gf2, b_Af2_0, -⟩ := hf
   exact px (or_callf cf24 f_4 (args1 f_6) rfl (pack_Write_1_w _ (forth own (look0 [(1, 1), (2, 2)])) (b1.length : Int) f2 gf2 tf2 Af2_0 cf2_0 (look0_le rfl) (BlkO.forth_ (m := (look0 [(1, 1), (2, 2)])) b_gf2) (RwO.forth_ (m := (look0 [(1, 1), (2, 2)])) b_Af2_0) r26 hr26) (post_mems (m := (look0 [(1, 1), (2, 2)])) (m' := (look0 [(1, 29), (2, 28)])) (hm_of rfl) (fun own' w' a' x h1 h => ⟨x, h1, ⟨RwO.back_ h.1 (by decide) (.inl (Rep.fl_flat _)), BlkO.back_ h.2 (by decide)⟩⟩)))
  exact steps_nil
 intro o30 a30 w30 d30 z30 hk30 hf30 hE30
 obtain ⟨e30_0, e30_2⟩ := kt2 hk30 ha0 ha2
 obtain ⟨⟨⟨A27, cA27⟩, (f_7 : a30.eval (.tmp 7) = .tuple #[]), (b30_A27 : RwO o30 28 [] w30 5 R5 A27 cA27 r26), (b30_gf2 : BlkO o30 29 w30 gf2 tf2 #[sl A27 r26 cA27])⟩, -⟩ := hf30 [3] rfl
 have hX30 := Evo.step hE0 hown hE30 rfl
 obtain ⟨x34, hx34, hs⟩ := obind hs
 refine rr 11 [Fct.rowAt 28 [] 5 R5 A27 cA27 r26, Fct.at_ 29 gf2 tf2 #[sl A27 r26 cA27]] o30 [28, 29] [0, 0, 3, 7] [dv [5] [2] 8 (sl A27 r26 cA27), dv [] [0] 9 (sl Ab1 b1 cb1), ⟨[0, 1, 4], [], [28], Fct.row 35 [] 10 5 R5 x34⟩, ⟨[2, 5], [2], [29], Fct.by_ [37] [10] (fun l own w => ∀ (A36 : Option Addr) (cA36 : Nat), l.getD 0 undef = sl A36 x34 cA36 → BlkO own 37 w gf2 tf2 #[sl A36 x34 cA36]) (fun hk he h _ _ h0' => BlkO.evo (not_hit hk (by decide)) he (h _ _ h0'))⟩] z30 d30 (fm2 b30_A27 b30_gf2) ?_ ?_
 ·refine sc (fun own a wx hf hsl hE => ?_) ?_
  ·obtain ⟨(b_gf2 : BlkO own 29 wx gf2 tf2 #[sl A27 r26 cA27]), -⟩ := hf
   obtain ⟨s_2, -⟩ := hsl
   exact px (ld1 to22 (s_2.trans e30_2) b_gf2)
  refine sM e30_0 ?_
  refine sc (fun own a wx hf hsl hE => ?_) ?_
  ·obtain ⟨f_8, f_9, b_A27, -⟩ := hf
   exact px (or_append (R := R5) (lab := 28) (lab2 := 35) (L := []) (L3 := []) tp22 f_8 b_A27 (by decide) f_9 (RdO.evo rfl hE (RdO.evo rfl hX30 hb1)) hx34 (by decide) (by decide) (mem_of rfl) (.inl (Rep.fl_flat _)))
  refine sc (fun own a wx hf hsl hE => ?_) ?_
  ·obtain ⟨⟨⟨A36, cA36⟩, (f_10 : a.eval (.tmp 10) = sl A36 x34 cA36), b_A36⟩, b_gf2, -⟩ := hf
   obtain ⟨s_2, -⟩ := hsl
   exact px (or_store1 (lab := 29) (lab2 := 37) ts22 (s_2.trans e30_2) f_10 b_gf2 (by simp) rfl (mem_of rfl) (by decide) rfl (fun own' a' w' ha hb => fun _ _ h0' => by cases (f_10.symm.trans ((ha 10).symm.trans h0')); exact hb))
  exact steps_nil
 intro o38 a38 w38 d38 z38 hk38 hf38 hE38
 have e38_2 := kt hk38 e30_2
 obtain ⟨⟨⟨A36, cA36⟩, (f_10 : a38.eval (.tmp 10) = sl A36 x34 cA36), (b38_A36 : RwO o38 35 [] w38 5 R5 A36 cA36 x34)⟩, (bq_gf2 : ∀ (A36 : Option Addr) (cA36 : Nat), a38.eval (.tmp 10) = sl A36 x34 cA36 → BlkO o38 37 w38 gf2 tf2 #[sl A36 x34 cA36]), -⟩ := hf38 [2, 3] rfl
 have b38_gf2 := bq_gf2 _ _ f_10
 have hX38 := Evo.step hX30 hown hE38 rfl
 obtain rfl := (osome hs).symm
 exact hret _ _ _ _ (.inr rfl) d38 (results0_ rfl ) ⟨(rl [(35, 2), (37, 1)] o38), (A36, cA36), rfl, (Evo.rl_ hX38 hown rfl), (RwO.rl_ b38_A36), (BlkO.rl_ b38_gf2)⟩
set_option maxHeartbeats 2000000 in
theorem pack_Write_w (w : World) (head1 : List Int) (Ahead1 : Option Addr) (chead1 : Nat) (l2 : List ((Int × Int × Int) × (List Int))) (Al2 : Option Addr) (cl2 : Nat) (hhead1 : RdO (fun _ => 0) [0] w R5 Ahead1 chead1 head1) (hl2 : RdO (fun _ => 0) [0] w R30 Al2 cl2 l2) (r : (List Int) × Int) (hs : pack_Write head1 l2 = some r) :
  Calls Try.prog 10 #[sl Ahead1 head1 chead1, sl Al2 l2 cl2] w fun e w' => ∃ (own' : Own) (x : Option Addr × Nat), e = .returned (.tuple #[.slice x.1 r.1.length x.2, Zi r.2]) ∧ Evo [] (fun _ => 0) own' w w' ∧ RwO own' 1 [] w' 5 R5 x.1 x.2 r.1 := by
 refine fl_enter (n := 91) rfl rfl rfl (Nat.le_of_ble_eq_true rfl) ?_
 intro a0 Q d0 z0 harg hret
 have ha0 := harg 0 _ rfl
 have ha1 := harg 1 _ rfl
 clear harg
 have hE0 : Evo [] (fun _ => 0) (fun _ => 0) w w := Evo.refl _ _ _
 refine rq_seq 91 (fun _ => 0) (bz 2) [dv [] [] 4 (.slice none 0 0), dv [] [] 5 (Zi 0)] z0 d0 ?_ ?_
 ·exact sO (or_assign rfl) <| sO (or_assign rfl) <| steps_nil
 intro o221 a221 w221 d221 z221 hk221 hf221 hE221
 obtain ⟨e221_0, e221_1⟩ := kt2 hk221 ha0 ha1
 have hX221 := es_ hE0 hE221
 obtain ⟨r222, hr222, hs⟩ := obind hs
 refine rq_seq 91 o221 [0, 0, 3, 7, 15, 15, 31, 127] [dv [] [0] 16 (sl Ahead1 head1 chead1), dv [] [1] 17 (sl Al2 l2 cl2), ⟨[0, 1], [], [], Fct.mems [227, 228, 0, 229, 230, 231, 232] 18 (fun (x : (Option Addr × Nat) × (Option Addr × Nat) × (Option Addr × Nat) × (Option Addr × Nat)) => .tuple #[.pointer (some ⟨x.1.2, 0, none⟩), Zi r222.2]) (fun (x : (Option Addr × Nat) × (Option Addr × Nat) × (Option Addr × Nat) × (Option Addr × Nat)) own w => RdO own [227, 228, 0] w R5 x.2.1.1 x.2.1.2 r222.1.1 ∧ RwO own 229 [227, 230, 0] w 22 R22 x.2.2.1.1 x.2.2.1.2 r222.1.2.1 ∧ RwO own 231 [] w 66 R66 x.2.2.2.1 x.2.2.2.2 r222.1.2.2 ∧ BlkO own 232 w x.1.2 64 #[.slice x.2.1.1 r222.1.1.length x.2.1.2, .slice x.2.2.1.1 r222.1.2.1.length x.2.2.1.2, .slice x.2.2.2.1 r222.1.2.2.length x.2.2.2.2]) (fun hk he h => ⟨RdO.evo (hits_sub hk (by decide)) he h.1, RwO.evo (hits_sub hk (by decide)) he h.2.1, RwO.evo (hits_sub hk (by decide)) he h.2.2.1, BlkO.evo (not_hit hk (by decide)) he h.2.2.2⟩)⟩, ⟨[2], [], [], Fct.rel [15, 18] (fun l => ∀ (cA223 : Nat), l.getD 1 undef = .tuple #[pt cA223 0, Zi r222.2] → l.getD 0 undef = .tuple #[pt cA223 0, Zi r222.2])⟩, ⟨[3, 2], [], [], Fct.rel [19, 18] (fun l => ∀ (cA223 : Nat), l.getD 1 undef = .tuple #[pt cA223 0, Zi r222.2] → l.getD 0 undef = pt cA223 0)⟩, dv [3, 2] [] 20 (Zi r222.2), ⟨[4, 2], [], [], Fct.rel [6, 18] (fun l => ∀ (cA223 : Nat), l.getD 1 undef = .tuple #[pt cA223 0, Zi r222.2] → l.getD 0 undef = pt cA223 0)⟩, dv [5] [] 7 (Zi r222.2)] z221 d221 ?_ ?_
 ·refine sM e221_0 <| sM e221_1 ?_
  refine sc (fun own _ _ f _ hE => px (or_call cf23 (args2 f.1 f.2.1) (pack_packed_w _ (forth own (inL [0])) head1 Ahead1 chead1 l2 Al2 cl2 inL_le (RdO.alias_ (La := [0]) (RdO.evo rfl hE (RdO.evo rfl hX221 hhead1)) (by decide)) (RdO.alias_ (La := [0]) (RdO.evo rfl hE (RdO.evo rfl hX221 hl2)) (by decide)) r222 hr222) (post_alias (La := [0]) (m' := (look0 [(1, 227), (2, 232), (3, 228), (4, 229), (5, 230), (6, 231)])) (fun own' w' a' x ho hsz h1 h => ⟨x, h1, ⟨RdO.backN_ ho hsz h.1 (by decide) (by decide) (by decide), RwO.backM_ ho h.2.1 (by decide) (by decide) (by decide) (by decide), RwO.backN_ ho h.2.2.1 (by decide) (Rep.fl_flat _), BlkO.backN_ ho h.2.2.2 (by decide)⟩⟩)))) ?_
  refine sc (fun own a wx hf hsl hE => ?_) ?_
  ·obtain ⟨⟨⟨⟨A223, cA223⟩, ⟨A224, cA224⟩, ⟨A225, cA225⟩, ⟨A226, cA226⟩⟩, (f_18 : a.eval (.tmp 18) = .tuple #[pt cA223 0, Zi r222.2]), b_A224, b_A225, b_A226, b_cA223⟩, -⟩ := hf
   exact px (or_mono (f := Fct.val 15 (.tuple #[pt cA223 0, Zi r222.2])) (or_move f_18) (fun own' a' w' v' hp h => fun _ h0' => by cases (f_18.symm.trans ((hp.2 18 (by decide)).symm.trans h0')); exact h))
  refine sc (fun own a wx hf hsl hE => ?_) ?_
  ·obtain ⟨(q_15 : ∀ (cA223 : Nat), a.eval (.tmp 18) = .tuple #[pt cA223 0, Zi r222.2] → a.eval (.tmp 15) = .tuple #[pt cA223 0, Zi r222.2]), ⟨⟨⟨A223, cA223⟩, ⟨A224, cA224⟩, ⟨A225, cA225⟩, ⟨A226, cA226⟩⟩, (f_18 : a.eval (.tmp 18) = .tuple #[pt cA223 0, Zi r222.2]), b_A224, b_A225, b_A226, b_cA223⟩, -⟩ := hf
   have f_15 := q_15 _ f_18
   exact px (or_mono (f := Fct.val 19 (pt cA223 0)) (ok1 f_15) (fun own' a' w' v' hp h => fun _ h0' => by cases (f_18.symm.trans ((hp.2 18 (by decide)).symm.trans h0')); exact h))
  refine sc (fun own a wx hf hsl hE => ?_) ?_
  ·obtain ⟨(q_15 : ∀ (cA223 : Nat), a.eval (.tmp 18) = .tuple #[pt cA223 0, Zi r222.2] → a.eval (.tmp 15) = .tuple #[pt cA223 0, Zi r222.2]), ⟨⟨⟨A223, cA223⟩, ⟨A224, cA224⟩, ⟨A225, cA225⟩, ⟨A226, cA226⟩⟩, f_18, b_A224, b_A225, b_A226, b_cA223⟩, -⟩ := hf
   have f_15 := q_15 _ f_18
   exact px (ok1 f_15)
  refine sc (fun own a wx hf hsl hE => ?_) ?_
  ·obtain ⟨(q_19 : ∀ (cA223 : Nat), a.eval (.tmp 18) = .tuple #[pt cA223 0, Zi r222.2] → a.eval (.tmp 19) = pt cA223 0), ⟨⟨⟨A223, cA223⟩, ⟨A224, cA224⟩, ⟨A225, cA225⟩, ⟨A226, cA226⟩⟩, (f_18 : a.eval (.tmp 18) = .tuple #[pt cA223 0, Zi r222.2]), b_A224, b_A225, b_A226, b_cA223⟩, -⟩ := hf
   have f_19 := q_19 _ f_18
   exact px (or_mono (f := Fct.val 6 (pt cA223 0)) (or_assign f_19) (fun own' a' w' v' hp h => fun _ h0' => by cases (f_18.symm.trans ((hp.2 18 (by decide)).symm.trans h0')); exact h))
  exact sA <| steps_nil
 intro o233 a233 w233 d233 z233 hk233 hf233 hE233
 have e233_7 := gv (hf233 [7] rfl) rfl
 obtain ⟨⟨⟨⟨A223, cA223⟩, ⟨A224, cA224⟩, ⟨A225, cA225⟩, ⟨A226, cA226⟩⟩, (f_18 : a233.eval (.tmp 18) = .tuple #[pt cA223 0, Zi r222.2]), (b233_A224 : RdO o233 [227, 228, 0] w233 R5 A224 cA224 r222.1.1), (b233_A225 : RwO o233 229 [227, 230, 0] w233 22 R22 A225 cA225 r222.1.2.1), (b233_A226 : RwO o233 231 [] w233 66 R66 A226 cA226 r222.1.2.2), (b233_cA223 : BlkO o233 232 w233 cA223 64 #[sl A224 r222.1.1 cA224, sl A225 r222.1.2.1 cA225, sl A226 r222.1.2.2 cA226])⟩, (q_6 : ∀ (cA223 : Nat), a233.eval (.tmp 18) = .tuple #[pt cA223 0, Zi r222.2] → a233.eval (.tmp 6) = pt cA223 0), -⟩ := hf233 [2, 6] rfl
 have e233_6 := q_6 _ f_18
 have hX233 := es_ hX221 hE233
 refine fl_seq (fun Q234 hn234 hp234 => ?_)
 refine rq_seq 91 o233 (bz 2) [dv [] [7] 21 (Zi r222.2), dv [0] [] 22 (.bool (!decide (r222.2 = 0)))] z233 d233 ?_ ?_
 ·exact sM e233_7 <| sF (fun f => or_neq f.1 rfl rfl) <| steps_nil
 intro o235 a235 w235 d235 z235 hk235 hf235 hE235
 obtain ⟨e235_6, e235_7⟩ := kt2 hk235 e233_6 e233_7
 have e235_22 := gv (hf235 [1] rfl) rfl
 have hX235 := es_ hX233 hE235
 have b235_cA223 := be_ hE235 b233_cA223
 have b235_A224 := RdO.evo rfl hE235 b233_A224
 have b235_A225 := re_ hE235 b233_A225
 have b235_A226 := re_ hE235 b233_A226
 refine fl_cond e235_22 hs (fun c236 hs => ?_) (fun c236 hs => ?_)
 ·refine rq_seq 91 o235 [0, 0, 3] [dv [] [7] 23 (Zi r222.2), dv [] [] 4 (.slice none 0 0), dv [0] [] 5 (Zi r222.2)] z235 d235 ?_ ?_
  ·exact sM e235_7 <| sO (or_assign rfl) <| sA <| steps_nil
  intro o237 a237 w237 d237 z237 hk237 hf237 hE237
  have e237_4 := gv (hf237 [1] rfl) rfl
  have e237_5 := gv (hf237 [2] rfl) rfl
  have hX237 := es_ hX235 hE237
  refine fl_ret ?_
  refine hp234 _ _ _ rfl ?_
  obtain rfl := osome hs
  exact hret _ _ _ _ (.inl rfl) d237 (results2_ rfl (RVal.tmp_ e237_4) (RVal.tmp_ e237_5)) ⟨o237, (none, 0), rfl, hX237, RwO.nil_⟩
 refine fl_skip ?_
 refine hn234 _ _ ?_
 refine rp_seq 91 o235 [239, 243] [0, 1, 0, 7] [⟨[], [], [], Fct.rowF 239 24 5 R5 [71, 82, 84, 49]⟩, ⟨[0], [], [239], Fct.viewF [240] 25 R5 [71, 82, 84, 49]⟩, ⟨[], [], [], Fct.blk 243 8 (fun g => pt g 0) 22 #[.slice none 0 0]⟩, ⟨[2, 1], [], [243], Fct.by_ [244] [8, 25] (fun l own w => ∃ g242 : Nat, l.getD 0 undef = pt g242 0 ∧ (∀ (A241 : Option Addr), l.getD 1 undef = .slice A241 [71, 82, 84, 49].length ([71, 82, 84, 49].length) → BlkO own 244 w g242 22 #[.slice A241 [71, 82, 84, 49].length ([71, 82, 84, 49].length)])) (fun hk he h => by obtain ⟨g, e, h⟩ := h; exact ⟨g, e, fun _ h0' => BlkO.evo (not_hit hk (by decide)) he (h _ h0')⟩)⟩] z235 d235 ?_ ?_
 ·refine sO (or_litF (lab := 239) (e := 5) (cs := #[.int .u8 71, .int .u8 82, .int .u8 84, .int .u8 49]) (F := E5) (nw0) rfl rfl (show 4 ≤ maxLen by decide)) ?_
  refine sc (fun own a wx hf hsl hE => ?_) ?_
  ·obtain ⟨⟨A238, f_24, b_A238⟩, -⟩ := hf
   exact px (or_convM (lab := 239) (lab2 := 240) tu22 tn5 f_24 b_A238 (mem_of rfl) (by decide) (by simp))
  refine sO (nw0) ?_
  refine sc (fun own a wx hf hsl hE => ?_) ?_
  ·obtain ⟨⟨g242, f_8, b_g242⟩, ⟨A241, (f_25 : a.eval (.tmp 25) = .slice A241 [71, 82, 84, 49].length ([71, 82, 84, 49].length)), b_A241⟩, -⟩ := hf
   exact px (or_store1 (lab := 243) (lab2 := 244) ts22 f_8 f_25 b_g242 (by simp) rfl (mem_of rfl) (by decide) rfl (fun own' a' w' ha hb => ⟨_, (ha 8).trans f_8, fun _ h0' => by cases (f_25.symm.trans ((ha 25).symm.trans h0')); exact hb⟩))
  exact steps_nil
 intro o245 a245 w245 d245 z245 hk245 hf245 hE245
 have e245_6 := kt hk245 e235_6
 obtain ⟨⟨A241, (f_25 : a245.eval (.tmp 25) = .slice A241 [71, 82, 84, 49].length ([71, 82, 84, 49].length)), (b245_A241 : RdO o245 [240] w245 R5 A241 ([71, 82, 84, 49].length) [71, 82, 84, 49])⟩, ⟨g242, (e245_8 : a245.eval (.tmp 8) = pt g242 0), (bq_g242 : ∀ (A241 : Option Addr), a245.eval (.tmp 25) = .slice A241 [71, 82, 84, 49].length ([71, 82, 84, 49].length) → BlkO o245 244 w245 g242 22 #[.slice A241 [71, 82, 84, 49].length ([71, 82, 84, 49].length)])⟩, -⟩ := hf245 [1, 3] rfl
 have b245_g242 := bq_g242 _ f_25
 have hX245 := es_ hX235 hE245
 have b245_cA223 := be_ hE245 b235_cA223
 have b245_A224 := RdO.evo rfl hE245 b235_A224
 have b245_A225 := re_ hE245 b235_A225
 have b245_A226 := re_ hE245 b235_A226
 refine rp_seq 91 o245 [247] [0, 0, 3] [dv [] [8] 26 (.func (.func 24) #[] #[pt g242 0]), ⟨[], [], [], Fct.blk 247 9 (fun g => pt g 0) 59 #[.nilFunc]⟩, ⟨[1, 0], [], [247], Fct.blk 248 9 (fun g => pt g 0) 59 #[.func (.func 24) #[] #[pt g242 0]]⟩] z245 d245 ?_ ?_
 ·refine sS (fun s => ok1 (s.1.trans e245_8)) <| sO (nw0) ?_
  refine sc (fun own a wx hf hsl hE => ?_) ?_
  ·obtain ⟨⟨g246, f_9, b_g246⟩, f_26, -⟩ := hf
   exact px (or_store1 (lab := 247) (lab2 := 248) ts59 f_9 f_26 b_g246 (by simp) rfl (mem_of rfl) (by decide) rfl (fun own' a' w' ha hb => ⟨_, (ha 9).trans f_9, hb⟩))
  exact steps_nil
 intro o249 a249 w249 d249 z249 hk249 hf249 hE249
 obtain ⟨e249_6, e249_8⟩ := kt2 hk249 e245_6 e245_8
 obtain ⟨⟨g246, (e249_9 : a249.eval (.tmp 9) = pt g246 0), (b249_g246 : BlkO o249 248 w249 g246 59 #[.func (.func 24) #[] #[pt g242 0]])⟩, -⟩ := hf249 [2] rfl
 have hX249 := es_ hX245 hE249
 obtain ⟨b249_cA223, b249_g242⟩ := be2 hE249 b245_cA223 b245_g242
 have b249_A224 := RdO.evo rfl hE249 b245_A224
 have b249_A225 := re_ hE249 b245_A225
 have b249_A226 := re_ hE249 b245_A226
 have b249_A241 := RdO.evo rfl hE249 b245_A241
 refine rq_seq 91 o249 (bz 2) [dv [] [9, 8] 27 (.func (.func 26) #[] #[pt g246 0, pt g242 0]), dv [0] [] 10 (.func (.func 26) #[] #[pt g246 0, pt g242 0])] z249 d249 ?_ ?_
 ·exact sS (fun s => ok2 (s.1.trans e249_9) (s.2.1.trans e249_8)) <| sA <| steps_nil
 intro o250 a250 w250 d250 z250 hk250 hf250 hE250
 obtain ⟨e250_6, e250_8, e250_9⟩ := kt3 hk250 e249_6 e249_8 e249_9
 have e250_10 := gv (hf250 [1] rfl) rfl
 have hX250 := es_ hX249 hE250
 obtain ⟨b250_cA223, b250_g242, b250_g246⟩ := be3 hE250 b249_cA223 b249_g242 b249_g246
 have b250_A224 := RdO.evo rfl hE250 b249_A224
 have b250_A225 := re_ hE250 b249_A225
 have b250_A226 := re_ hE250 b249_A226
 have b250_A241 := RdO.evo rfl hE250 b249_A241
 obtain ⟨r251, hr251, hs⟩ := obind hs
 refine rr_seq 91 [Fct.at_ 244 g242 22 #[.slice A241 [71, 82, 84, 49].length ([71, 82, 84, 49].length)]] o250 [244] [0, 0, 2, 6, 14, 31] [dv [] [10] 28 (.func (.func 26) #[] #[pt g246 0, pt g242 0]), dv [] [6] 29 (pt cA223 0), dv [1] [] 30 (pt cA223 0), dv [2] [] 31 (pt cA223 0), dv [3] [] 32 (sl A224 r222.1.1 cA224), ⟨[0, 4, 6], [], [244], Fct.mems [253, 254] 33 (fun (x : Option Addr × Nat) => .tuple #[]) (fun (x : Option Addr × Nat) own w => RwO own 253 [] w 5 R5 x.1 x.2 r251 ∧ BlkO own 254 w g242 22 #[.slice x.1 r251.length x.2]) (fun hk he h => ⟨RwO.evo (hits_sub hk (by decide)) he h.1, BlkO.evo (not_hit hk (by decide)) he h.2⟩)⟩] z250 d250 (fm1 b250_g242) ?_ ?_
 ·refine sM e250_10 <| sM e250_6 <| sF (fun f => ok1 f.1) <| sF (fun f => or_field fo64_0 f.1 (by rfl)) <| sG to22 b250_cA223 ?_
  refine sc (fun own a wx hf hsl hE => ?_) ?_
  ·obtain ⟨f_28, f_32, b_g242, -⟩ := hf
   exact px (or_callf cf26 f_28 (args1 f_32) rfl (pack_Write_2_w _ (forth own (look0 [(244, 1)])) r222.1.1 A224 cA224 [71, 82, 84, 49] g242 22 A241 g246 59 (look0_le rfl) (RdO.more (RdO.forth_ (m := (look0 [(244, 1)])) (RdO.evo rfl hE b250_A224)) (by decide)) (BlkO.forth_ (m := (look0 [(244, 1)])) b_g242) (RdO.forth_ (m := (look0 [(244, 1)])) (RdO.evo rfl hE b250_A241)) (BlkO.forth_ (m := (look0 [(244, 1)])) (be_ hE b250_g246)) r251 hr251) (post_mems (m := (look0 [(244, 1)])) (m' := (look0 [(1, 254), (2, 253)])) (hm_of rfl) (fun own' w' a' x h1 h => ⟨x, h1, ⟨RwO.back_ h.1 (by decide) (.inl (Rep.fl_flat _)), BlkO.back_ h.2 (by decide)⟩⟩)))
  exact steps_nil
 intro o255 a255 w255 d255 z255 hk255 hf255 hE255
 obtain ⟨e255_6, e255_8, e255_9, e255_10⟩ := kt4 hk255 e250_6 e250_8 e250_9 e250_10
 obtain ⟨⟨⟨A252, cA252⟩, (f_33 : a255.eval (.tmp 33) = .tuple #[]), (b255_A252 : RwO o255 253 [] w255 5 R5 A252 cA252 r251), (b255_g242 : BlkO o255 254 w255 g242 22 #[sl A252 r251 cA252])⟩, -⟩ := hf255 [5] rfl
 have hX255 := es_ hX250 hE255
 obtain ⟨b255_cA223, b255_g246⟩ := be2 hE255 b250_cA223 b250_g246
 have b255_A224 := RdO.evo rfl hE255 b250_A224
 have b255_A225 := re_ hE255 b250_A225
 have b255_A226 := re_ hE255 b250_A226
 obtain ⟨r256, hr256, hs⟩ := obind hs
 refine rd_seq g_mixed 91 [Fct.at_ 254 g242 22 #[sl A252 r251 cA252], Fct.rowAt 253 [] 5 R5 A252 cA252 r251] o255 [254, 253] [0, 0, 2, 6, 14, 30, 63] [dv [] [9] 34 (.func (.func 24) #[] #[pt g242 0]), dv [] [6] 35 (pt cA223 0), dv [1] [] 36 (pt cA223 0), dv [2] [] 37 (pt cA223 1), dv [3] [] 38 (sl A225 r222.1.2.1 cA225), dv [4] [] 39 (Zi (r222.1.2.1.length : Int)), ⟨[0, 5, 7, 8], [], [254, 253], Fct.mems [258, 259] 40 (fun (x : Option Addr × Nat) => .tuple #[]) (fun (x : Option Addr × Nat) own w => RwO own 258 [] w 5 R5 x.1 x.2 r256 ∧ BlkO own 259 w g242 22 #[.slice x.1 r256.length x.2]) (fun hk he h => ⟨RwO.evo (hits_sub hk (by decide)) he h.1, BlkO.evo (not_hit hk (by decide)) he h.2⟩)⟩] z255 d255 (fm2 b255_g242 b255_A252) ?_ ?_
 ·refine sL1 to59 e255_9 b255_g246 <| sM e255_6 <| sF (fun f => ok1 f.1) <| sF (fun f => or_field fo64_1 f.1 (by rfl)) <| sG to61 b255_cA223 <| sF (fun f => or_len tu61 f.1 rfl) ?_
  refine sc (fun own a wx hf hsl hE => ?_) ?_
  ·obtain ⟨f_34, f_39, b_g242, b_A252, -⟩ := hf
   exact px (or_callf cf24 f_34 (args1 f_39) rfl (pack_Write_1_w _ (forth own (look0 [(253, 2), (254, 1)])) (r222.1.2.1.length : Int) r251 g242 22 A252 cA252 (look0_le rfl) (BlkO.forth_ (m := (look0 [(253, 2), (254, 1)])) b_g242) (RwO.forth_ (m := (look0 [(253, 2), (254, 1)])) b_A252) r256 hr256) (post_mems (m := (look0 [(253, 2), (254, 1)])) (m' := (look0 [(1, 259), (2, 258)])) (hm_of rfl) (fun own' w' a' x h1 h => ⟨x, h1, ⟨RwO.back_ h.1 (by decide) (.inl (Rep.fl_flat _)), BlkO.back_ h.2 (by decide)⟩⟩)))
  exact steps_nil
 intro o260 a260 w260 d260 z260 hk260 hf260 hE260
 obtain ⟨e260_6, e260_8, e260_9, e260_10⟩ := kt4 hk260 e255_6 e255_8 e255_9 e255_10
 obtain ⟨⟨⟨A257, cA257⟩, (f_40 : a260.eval (.tmp 40) = .tuple #[]), (b260_A257 : RwO o260 258 [] w260 5 R5 A257 cA257 r256), (b260_g242 : BlkO o260 259 w260 g242 22 #[sl A257 r256 cA257])⟩, -⟩ := hf260 [6] rfl
 have hX260 := es_ hX255 hE260
 obtain ⟨b260_cA223, b260_g246⟩ := be2 hE260 b255_cA223 b255_g246
 have b260_A224 := RdO.evo rfl hE260 b255_A224
 have b260_A225 := re_ hE260 b255_A225
 have b260_A226 := re_ hE260 b255_A226
 refine fl_seq (fun Q261 hn261 hp261 => ?_)
 refine rq_seq 91 o260 [0, 1, 3, 7, 15, 0] [dv [] [6] 41 (pt cA223 0), dv [0] [] 42 (pt cA223 0), dv [1] [] 43 (pt cA223 1), dv [2] [] 44 (sl A225 r222.1.2.1 cA225), dv [3] [] 45 (Zi (r222.1.2.1.length : Int)), dv [] [] 46 (Zi 0)] z260 d260 ?_ ?_
 ·exact sM e260_6 <| sF (fun f => ok1 f.1) <| sF (fun f => or_field fo64_1 f.1 (by rfl)) <| sG to61 b260_cA223 <| sF (fun f => or_len tu61 f.1 rfl) <| sO (or_move rfl) <| steps_nil
 intro o262 a262 w262 d262 z262 hk262 hf262 hE262
 obtain ⟨e262_6, e262_8, e262_9, e262_10⟩ := kt4 hk262 e260_6 e260_8 e260_9 e260_10
 have e262_44 := gv (hf262 [3] rfl) rfl
 have e262_45 := gv (hf262 [4] rfl) rfl
 have e262_46 := gv (hf262 [5] rfl) rfl
 have hX262 := es_ hX260 hE262
 obtain ⟨b262_cA223, b262_g246, b262_g242⟩ := be3 hE262 b260_cA223 b260_g246 b260_g242
 have b262_A224 := RdO.evo rfl hE262 b260_A224
 have b262_A225 := re_ hE262 b260_A225
 have b262_A226 := re_ hE262 b260_A226
 have b262_A257 := re_ hE262 b260_A257
 refine fl_block (fun Q263 hn263 hx263 hp263 => ?_)
 refine fl_loop (body := (fun s => pack_Write_b1 r222 s.1 s.2)) (z := r) (show loopO _ _ = _ from hs) (fun (s : (List Int) × Int) a wx => match s with | (out285, x287) => ∃ (ox : Own) (A283 : Option Addr) (c284 : Nat), a.defers = [] ∧ a.tmps.size = 91 ∧ a.eval (.tmp 6) = pt cA223 0 ∧ a.eval (.tmp 8) = pt g242 0 ∧ a.eval (.tmp 9) = pt g246 0 ∧ a.eval (.tmp 10) = .func (.func 26) #[] #[pt g246 0, pt g242 0] ∧ a.eval (.tmp 44) = sl A225 r222.1.2.1 cA225 ∧ a.eval (.tmp 45) = Zi (r222.1.2.1.length : Int) ∧ a.eval (.tmp 46) = Zi x287 ∧ Evo [] (fun _ => 0) ox w wx ∧ BlkO ox 232 wx cA223 64 #[sl A224 r222.1.1 cA224, sl A225 r222.1.2.1 cA225, sl A226 r222.1.2.2 cA226] ∧ RdO ox [0, 280] wx R5 A224 cA224 r222.1.1 ∧ RwO ox 229 [0, 280] wx 22 R22 A225 cA225 r222.1.2.1 ∧ RwO ox 231 [] wx 66 R66 A226 cA226 r222.1.2.2 ∧ BlkO ox 282 wx g242 22 #[sl A283 out285 c284] ∧ RwO ox 286 [] wx 5 R5 A283 c284 out285 ∧ BlkO ox 248 wx g246 59 #[.func (.func 24) #[] #[pt g242 0]]) ?_ ?_
 ·exact ⟨(rl [(227, 280), (228, 280), (230, 280), (258, 286), (259, 282)] o262), A257, cA257, d262, z262, e262_6, e262_8, e262_9, e262_10, e262_44, e262_45, e262_46, (Evo.rl_ hX262 (fun _ => Nat.le_refl 0) rfl), (BlkO.rl_ b262_cA223), (RdO.more (RdO.rl_ b262_A224) (by decide)), (RwO.more (RwO.rl_ b262_A225) (by decide)), (RwO.rl_ b262_A226), (BlkO.rl_ b262_g242), (RwO.rl_ b262_A257), (BlkO.rl_ b262_g246)⟩
 ·rintro ⟨out285, x287⟩ zz303 a303 w303 ⟨o303, A283, c284, d304, z304, e304_6, e304_8, e304_9, e304_10, e304_44, e304_45, e304_46, hE304, b304_cA223, b304_A224, b304_A225, b304_A226, b304_g242, b304_A283, b304_g246⟩ hs Q303 hn303 hp303 z303
  have hs : pack_Write_b1 r222 out285 x287 = some zz303 := hs
  refine rq_seq 91 o303 (bz 1) [dv [] [46, 45] 47 (.bool (decide (x287 < (r222.1.2.1.length : Int))))] z304 d304 ?_ ?_
  ·exact sS (fun s => or_lss (s.1.trans e304_46) (s.2.1.trans e304_45) rfl) <| steps_nil
  intro o305 a305 w305 d305 z305 hk305 hf305 hE305
  obtain ⟨e305_6, e305_8, e305_9, e305_10, e305_44, e305_45, e305_46⟩ := kt7 hk305 e304_6 e304_8 e304_9 e304_10 e304_44 e304_45 e304_46
  have e305_47 := gv (hf305 [0] rfl) rfl
  have hX305 := es_ hE304 hE305
  obtain ⟨b305_cA223, b305_g242, b305_g246⟩ := be3 hE305 b304_cA223 b304_g242 b304_g246
  have b305_A224 := RdO.evo rfl hE305 b304_A224
  have b305_A225 := re_ hE305 b304_A225
  have b305_A226 := re_ hE305 b304_A226
  have b305_A283 := re_ hE305 b304_A283
  refine fl_seq (fun Q306 hn306 hp306 => ?_)
  refine fl_cond e305_47 hs (fun c307 hs => ?_) (fun c307 hs => ?_)
  ·refine fl_skip ?_
   refine hn306 _ _ ?_
   refine fl_seq (fun Q308 hn308 hp308 => ?_)
   refine fl_block (fun Q309 hn309 hx309 hp309 => ?_)
   obtain ⟨x310, hx310, hs⟩ := obind hs
   refine rq_seq 91 o305 (bz 3) [dv [] [44, 46] 48 (.pointer (some ((adr A225).add ((x287 : Int).toNat * R22.s)))), ⟨[0], [], [], Fct.nest X22 [229, 0, 280] 49 (fun (y : (Option Addr × Nat)) => .slice y.1 x310.length y.2) x310⟩, ⟨[1], [], [], Fct.rel [12, 49] (fun l => ∀ (A311 : Option Addr) (cA311 : Nat), l.getD 1 undef = sl A311 x310 cA311 → l.getD 0 undef = sl A311 x310 cA311)⟩] z305 d305 ?_ ?_
   ·refine sS (fun s => or_index (R := R22) (l := r222.1.2.1) tl61 (s.1.trans e305_44) (s.2.1.trans e305_46) (RdO.some_ (RwO.rd b305_A225) hx310) hx310) <| sFE (fun f hE => or_loadN1 X22 0 to22 f.1 (Addr.add_zero' _).symm (RwO.rd (re_ hE b305_A225)) hx310 (fun _ => rfl)) ?_
    refine sc (fun own a wx hf hsl hE => ?_) ?_
    ·obtain ⟨⟨⟨A311, cA311⟩, (f_49 : a.eval (.tmp 49) = sl A311 x310 cA311), b_A311⟩, -⟩ := hf
     exact px (or_mono (f := Fct.val 12 (sl A311 x310 cA311)) (or_assign f_49) (fun own' a' w' v' hp h => fun _ _ h0' => by cases (f_49.symm.trans ((hp.2 49 (by decide)).symm.trans h0')); exact h))
    exact steps_nil
   intro o312 a312 w312 d312 z312 hk312 hf312 hE312
   obtain ⟨e312_6, e312_8, e312_9, e312_10, e312_44, e312_45, e312_46⟩ := kt7 hk312 e305_6 e305_8 e305_9 e305_10 e305_44 e305_45 e305_46
   obtain ⟨⟨⟨A311, cA311⟩, (f_49 : a312.eval (.tmp 49) = sl A311 x310 cA311), (b312_A311 : RdO o312 [229, 0, 280] w312 R5 A311 cA311 x310)⟩, (q_12 : ∀ (A311 : Option Addr) (cA311 : Nat), a312.eval (.tmp 49) = sl A311 x310 cA311 → a312.eval (.tmp 12) = sl A311 x310 cA311), -⟩ := hf312 [1, 2] rfl
   have e312_12 := q_12 _ _ f_49
   have hX312 := es_ hX305 hE312
   obtain ⟨b312_cA223, b312_g242, b312_g246⟩ := be3 hE312 b305_cA223 b305_g242 b305_g246
   have b312_A224 := RdO.evo rfl hE312 b305_A224
   have b312_A225 := re_ hE312 b305_A225
   have b312_A226 := re_ hE312 b305_A226
   have b312_A283 := re_ hE312 b305_A283
   obtain ⟨r313, hr313, hs⟩ := obind hs
   refine rr 91 [Fct.at_ 282 g242 22 #[sl A283 out285 c284], Fct.rowAt 286 [] 5 R5 A283 c284 out285] o312 [282, 286] [0, 0, 3] [dv [] [10] 50 (.func (.func 26) #[] #[pt g246 0, pt g242 0]), dv [] [12] 51 (sl A311 x310 cA311), ⟨[0, 1, 3, 4], [], [282, 286], Fct.mems [315, 316] 52 (fun (x : Option Addr × Nat) => .tuple #[]) (fun (x : Option Addr × Nat) own w => RwO own 315 [] w 5 R5 x.1 x.2 r313 ∧ BlkO own 316 w g242 22 #[.slice x.1 r313.length x.2]) (fun hk he h => ⟨RwO.evo (hits_sub hk (by decide)) he h.1, BlkO.evo (not_hit hk (by decide)) he h.2⟩)⟩] z312 d312 (fm2 b312_g242 b312_A283) ?_ ?_
   ·refine sM e312_10 <| sM e312_12 ?_
    refine sc (fun own a wx hf hsl hE => ?_) ?_
    ·obtain ⟨f_50, f_51, b_g242, b_A283, -⟩ := hf
     exact px (or_callf cf26 f_50 (args1 f_51) rfl (pack_Write_2_p1_w _ (forth own (look0 [(282, 1), (286, 2)])) x310 A311 cA311 out285 g242 22 A283 c284 g246 59 (look0_le rfl) (RdO.more (RdO.forth_ (m := (look0 [(282, 1), (286, 2)])) (RdO.evo rfl hE b312_A311)) (by decide)) (BlkO.forth_ (m := (look0 [(282, 1), (286, 2)])) b_g242) (RwO.forth_ (m := (look0 [(282, 1), (286, 2)])) b_A283) (BlkO.forth_ (m := (look0 [(282, 1), (286, 2)])) (be_ hE b312_g246)) r313 hr313) (post_mems (m := (look0 [(282, 1), (286, 2)])) (m' := (look0 [(1, 316), (2, 315)])) (hm_of rfl) (fun own' w' a' x h1 h => ⟨x, h1, ⟨RwO.back_ h.1 (by decide) (.inl (Rep.fl_flat _)), BlkO.back_ h.2 (by decide)⟩⟩)))
    exact steps_nil
   intro o317 a317 w317 d317 z317 hk317 hf317 hE317
   obtain ⟨e317_6, e317_8, e317_9, e317_10, e317_44, e317_45, e317_46⟩ := kt7 hk317 e312_6 e312_8 e312_9 e312_10 e312_44 e312_45 e312_46
   obtain ⟨⟨⟨A314, cA314⟩, (f_52 : a317.eval (.tmp 52) = .tuple #[]), (b317_A314 : RwO o317 315 [] w317 5 R5 A314 cA314 r313), (b317_g242 : BlkO o317 316 w317 g242 22 #[sl A314 r313 cA314])⟩, -⟩ := hf317 [2] rfl
   have hX317 := es_ hX312 hE317
   obtain ⟨b317_cA223, b317_g246⟩ := be2 hE317 b312_cA223 b312_g246
   have b317_A224 := RdO.evo rfl hE317 b312_A224
   have b317_A225 := re_ hE317 b312_A225
   have b317_A226 := re_ hE317 b312_A226
   refine hn309 _ _ ?_
   refine hn308 _ _ ?_
   refine rq 91 o317 (bz 2) [dv [] [46] 53 (Zi (ad x287 1)), dv [0] [] 46 (Zi (ad x287 1))] z317 d317 ?_ ?_
   ·exact sS (fun s => or_add (s.1.trans e317_46) rfl rfl) <| sV <| steps_nil
   intro o318 a318 w318 d318 z318 hk318 hf318 hE318
   obtain ⟨e318_6, e318_8, e318_9, e318_10, e318_44, e318_45⟩ := kt6 hk318 e317_6 e317_8 e317_9 e317_10 e317_44 e317_45
   have e318_46 := gv (hf318 [1] rfl) rfl
   have hX318 := es_ hX317 hE318
   obtain ⟨b318_cA223, b318_g246, b318_g242⟩ := be3 hE318 b317_cA223 b317_g246 b317_g242
   have b318_A224 := RdO.evo rfl hE318 b317_A224
   have b318_A225 := re_ hE318 b317_A225
   have b318_A226 := re_ hE318 b317_A226
   have b318_A314 := re_ hE318 b317_A314
   exact hn303 _ _ _ hs ⟨(rl [(315, 286), (316, 282)] o318), A314, cA314, d318, z318, e318_6, e318_8, e318_9, e318_10, e318_44, e318_45, e318_46, (Evo.rl_ hX318 (fun _ => Nat.le_refl 0) rfl), (BlkO.rl_ b318_cA223), (RdO.rl_ b318_A224), (RwO.rl_ b318_A225), (RwO.rl_ b318_A226), (BlkO.rl_ b318_g242), (RwO.rl_ b318_A314), (BlkO.rl_ b318_g246)⟩
  refine fl_exit ?_
  refine hp306 _ _ _ rfl ?_
  replace hs := z303 _ hs
  refine hp303 _ _ _ rfl ?_
  refine hx263 _ _ ?_
  refine hn261 _ _ ?_
  obtain ⟨r319, hr319, hs⟩ := obind hs
  refine rd_seq g_mixed 91 [Fct.at_ 282 g242 22 #[sl A283 out285 c284], Fct.rowAt 286 [] 5 R5 A283 c284 out285] o305 [282, 286] [0, 0, 2, 6, 14, 30, 63] [dv [] [9] 54 (.func (.func 24) #[] #[pt g242 0]), dv [] [6] 55 (pt cA223 0), dv [1] [] 56 (pt cA223 0), dv [2] [] 57 (pt cA223 2), dv [3] [] 58 (sl A226 r222.1.2.2 cA226), dv [4] [] 59 (Zi (r222.1.2.2.length : Int)), ⟨[0, 5, 7, 8], [], [282, 286], Fct.mems [321, 322] 60 (fun (x : Option Addr × Nat) => .tuple #[]) (fun (x : Option Addr × Nat) own w => RwO own 321 [] w 5 R5 x.1 x.2 r319 ∧ BlkO own 322 w g242 22 #[.slice x.1 r319.length x.2]) (fun hk he h => ⟨RwO.evo (hits_sub hk (by decide)) he h.1, BlkO.evo (not_hit hk (by decide)) he h.2⟩)⟩] z305 d305 (fm2 b305_g242 b305_A283) ?_ ?_
  ·refine sL1 to59 e305_9 b305_g246 <| sM e305_6 <| sF (fun f => ok1 f.1) <| sF (fun f => or_field fo64_2 f.1 (by rfl)) <| sG to62 b305_cA223 <| sF (fun f => or_len tu62 f.1 rfl) ?_
   refine sc (fun own a wx hf hsl hE => ?_) ?_
   ·obtain ⟨f_54, f_59, b_g242, b_A283, -⟩ := hf
    exact px (or_callf cf24 f_54 (args1 f_59) rfl (pack_Write_1_w _ (forth own (look0 [(282, 1), (286, 2)])) (r222.1.2.2.length : Int) out285 g242 22 A283 c284 (look0_le rfl) (BlkO.forth_ (m := (look0 [(282, 1), (286, 2)])) b_g242) (RwO.forth_ (m := (look0 [(282, 1), (286, 2)])) b_A283) r319 hr319) (post_mems (m := (look0 [(282, 1), (286, 2)])) (m' := (look0 [(1, 322), (2, 321)])) (hm_of rfl) (fun own' w' a' x h1 h => ⟨x, h1, ⟨RwO.back_ h.1 (by decide) (.inl (Rep.fl_flat _)), BlkO.back_ h.2 (by decide)⟩⟩)))
   exact steps_nil
  intro o323 a323 w323 d323 z323 hk323 hf323 hE323
  obtain ⟨e323_6, e323_8, e323_9⟩ := kt3 hk323 e305_6 e305_8 e305_9
  obtain ⟨⟨⟨A320, cA320⟩, (f_60 : a323.eval (.tmp 60) = .tuple #[]), (b323_A320 : RwO o323 321 [] w323 5 R5 A320 cA320 r319), (b323_g242 : BlkO o323 322 w323 g242 22 #[sl A320 r319 cA320])⟩, -⟩ := hf323 [6] rfl
  have hX323 := es_ hX305 hE323
  obtain ⟨b323_cA223, b323_g246⟩ := be2 hE323 b305_cA223 b305_g246
  have b323_A224 := RdO.evo rfl hE323 b305_A224
  have b323_A225 := re_ hE323 b305_A225
  have b323_A226 := re_ hE323 b305_A226
  refine fl_seq (fun Q324 hn324 hp324 => ?_)
  refine rq_seq 91 o323 [0, 1, 3, 7, 15, 0] [dv [] [6] 61 (pt cA223 0), dv [0] [] 62 (pt cA223 0), dv [1] [] 63 (pt cA223 2), dv [2] [] 64 (sl A226 r222.1.2.2 cA226), dv [3] [] 65 (Zi (r222.1.2.2.length : Int)), dv [] [] 66 (Zi 0)] z323 d323 ?_ ?_
  ·exact sM e323_6 <| sF (fun f => ok1 f.1) <| sF (fun f => or_field fo64_2 f.1 (by rfl)) <| sG to62 b323_cA223 <| sF (fun f => or_len tu62 f.1 rfl) <| sO (or_move rfl) <| steps_nil
  intro o325 a325 w325 d325 z325 hk325 hf325 hE325
  obtain ⟨e325_8, e325_9⟩ := kt2 hk325 e323_8 e323_9
  have e325_64 := gv (hf325 [3] rfl) rfl
  have e325_65 := gv (hf325 [4] rfl) rfl
  have e325_66 := gv (hf325 [5] rfl) rfl
  have hX325 := es_ hX323 hE325
  obtain ⟨b325_g246, b325_g242⟩ := be2 hE325 b323_g246 b323_g242
  have b325_A226 := re_ hE325 b323_A226
  have b325_A320 := re_ hE325 b323_A320
  refine fl_block (fun Q326 hn326 hx326 hp326 => ?_)
  refine fl_loop (body := (fun s => pack_Write_b2 r222 s.1 s.2)) (z := r) (show loopO _ _ = _ from hs) (fun (s : (List Int) × Int) a wx => match s with | (out362, x364) => ∃ (ox : Own) (A360 : Option Addr) (c361 : Nat), a.defers = [] ∧ a.tmps.size = 91 ∧ a.eval (.tmp 8) = pt g242 0 ∧ a.eval (.tmp 9) = pt g246 0 ∧ a.eval (.tmp 64) = sl A226 r222.1.2.2 cA226 ∧ a.eval (.tmp 65) = Zi (r222.1.2.2.length : Int) ∧ a.eval (.tmp 66) = Zi x364 ∧ Evo [] (fun _ => 0) ox w wx ∧ BlkO ox 359 wx g242 22 #[sl A360 out362 c361] ∧ RwO ox 363 [] wx 5 R5 A360 c361 out362 ∧ BlkO ox 248 wx g246 59 #[.func (.func 24) #[] #[pt g242 0]] ∧ RwO ox 231 [] wx 66 R66 A226 cA226 r222.1.2.2) ?_ ?_
  ·exact ⟨(rl [(321, 363), (322, 359)] o325), A320, cA320, d325, z325, e325_8, e325_9, e325_64, e325_65, e325_66, (Evo.rl_ hX325 (fun _ => Nat.le_refl 0) rfl), (BlkO.rl_ b325_g242), (RwO.rl_ b325_A320), (BlkO.rl_ b325_g246), (RwO.rl_ b325_A226)⟩
  ·rintro ⟨out362, x364⟩ zz397 a397 w397 ⟨o397, A360, c361, d398, z398, e398_8, e398_9, e398_64, e398_65, e398_66, hE398, b398_g242, b398_A360, b398_g246, b398_A226⟩ hs Q397 hn397 hp397 z397
   have hs : pack_Write_b2 r222 out362 x364 = some zz397 := hs
   refine rq_seq 91 o397 (bz 1) [dv [] [66, 65] 67 (.bool (decide (x364 < (r222.1.2.2.length : Int))))] z398 d398 ?_ ?_
   ·exact sS (fun s => or_lss (s.1.trans e398_66) (s.2.1.trans e398_65) rfl) <| steps_nil
   intro o399 a399 w399 d399 z399 hk399 hf399 hE399
   obtain ⟨e399_8, e399_9, e399_64, e399_65, e399_66⟩ := kt5 hk399 e398_8 e398_9 e398_64 e398_65 e398_66
   have e399_67 := gv (hf399 [0] rfl) rfl
   have hX399 := es_ hE398 hE399
   obtain ⟨b399_g242, b399_g246⟩ := be2 hE399 b398_g242 b398_g246
   have b399_A360 := re_ hE399 b398_A360
   have b399_A226 := re_ hE399 b398_A226
   refine fl_seq (fun Q400 hn400 hp400 => ?_)
   refine fl_cond e399_67 hs (fun c401 hs => ?_) (fun c401 hs => ?_)
   ·refine fl_skip ?_
    refine hn400 _ _ ?_
    refine fl_seq (fun Q402 hn402 hp402 => ?_)
    refine fl_block (fun Q403 hn403 hx403 hp403 => ?_)
    obtain ⟨x404, hx404, hs⟩ := obind hs
    refine rp_seq 91 o399 [406] [0, 1, 0, 7] [dv [] [64, 66] 68 (.pointer (some ((adr A226).add ((x364 : Int).toNat * R66.s)))), dv [0] [] 69 (.agg #[Zi x404.1.1, Zi x404.1.2.1, Zi x404.1.2.2, Zi x404.2]), ⟨[], [], [], Fct.blk 406 14 (fun g => pt g 0) 66 #[Zi 0, Zi 0, Zi 0, Zi 0]⟩, ⟨[2, 1], [], [406], Fct.blk 407 14 (fun g => pt g 0) 66 #[Zi x404.1.1, Zi x404.1.2.1, Zi x404.1.2.2, Zi x404.2]⟩] z399 d399 ?_ ?_
    ·refine sS (fun s => or_index (R := R66) (l := r222.1.2.2) tl62 (s.1.trans e399_64) (s.2.1.trans e399_66) (RdO.some_ (RwO.rd b399_A226) hx404) hx404) <| sFE (fun f hE => or_load (l := E66.f x404) ta66 f.1 (RdO.cells (F := E66) (RwO.rd (re_ hE b399_A226)) hx404) rfl) <| sO (nw0) ?_
     refine sc (fun own a wx hf hsl hE => ?_) ?_
     ·obtain ⟨⟨g405, f_14, b_g405⟩, f_69, -⟩ := hf
      exact px (or_store (l := #[Zi x404.1.1, Zi x404.1.2.1, Zi x404.1.2.2, Zi x404.2]) (lab := 406) (lab2 := 407) ts66 f_14 f_69 b_g405 (by simp) (by kernel_rfl) (mem_of rfl) (by decide) (by kernel_rfl) (fun own' a' w' ha hb => ⟨_, (ha 14).trans f_14, hb⟩))
     exact steps_nil
    intro o408 a408 w408 d408 z408 hk408 hf408 hE408
    obtain ⟨e408_8, e408_9, e408_64, e408_65, e408_66⟩ := kt5 hk408 e399_8 e399_9 e399_64 e399_65 e399_66
    obtain ⟨⟨g405, (e408_14 : a408.eval (.tmp 14) = pt g405 0), (b408_g405 : BlkO o408 407 w408 g405 66 #[Zi x404.1.1, Zi x404.1.2.1, Zi x404.1.2.2, Zi x404.2])⟩, -⟩ := hf408 [3] rfl
    have hX408 := es_ hX399 hE408
    obtain ⟨b408_g242, b408_g246⟩ := be2 hE408 b399_g242 b399_g246
    have b408_A360 := re_ hE408 b399_A360
    have b408_A226 := re_ hE408 b399_A226
    obtain ⟨r409, hr409, hs⟩ := obind hs
    refine rr_seq 91 [Fct.at_ 359 g242 22 #[sl A360 out362 c361], Fct.rowAt 363 [] 5 R5 A360 c361 out362] o408 [359, 363] [0, 0, 2, 6, 15] [dv [] [9] 70 (.func (.func 24) #[] #[pt g242 0]), dv [] [14] 71 (pt g405 0), dv [1] [] 72 (pt g405 0), dv [2] [] 73 (Zi x404.1.1), ⟨[0, 3, 5, 6], [], [359, 363], Fct.mems [411, 412] 74 (fun (x : Option Addr × Nat) => .tuple #[]) (fun (x : Option Addr × Nat) own w => RwO own 411 [] w 5 R5 x.1 x.2 r409 ∧ BlkO own 412 w g242 22 #[.slice x.1 r409.length x.2]) (fun hk he h => ⟨RwO.evo (hits_sub hk (by decide)) he h.1, BlkO.evo (not_hit hk (by decide)) he h.2⟩)⟩] z408 d408 (fm2 b408_g242 b408_A360) ?_ ?_
    ·refine sL1 to59 e408_9 b408_g246 <| sS (fun s => or_field fo66_0 (s.1.trans e408_14) (by rfl)) <| sF (fun f => or_field fo28_0 f.1 (by rfl)) <| sG to3 b408_g405 ?_
     refine sc (fun own a wx hf hsl hE => ?_) ?_
     ·obtain ⟨f_70, f_73, b_g242, b_A360, -⟩ := hf
      exact px (or_callf cf24 f_70 (args1 f_73) rfl (pack_Write_1_w _ (forth own (look0 [(359, 1), (363, 2)])) x404.1.1 out362 g242 22 A360 c361 (look0_le rfl) (BlkO.forth_ (m := (look0 [(359, 1), (363, 2)])) b_g242) (RwO.forth_ (m := (look0 [(359, 1), (363, 2)])) b_A360) r409 hr409) (post_mems (m := (look0 [(359, 1), (363, 2)])) (m' := (look0 [(1, 412), (2, 411)])) (hm_of rfl) (fun own' w' a' x h1 h => ⟨x, h1, ⟨RwO.back_ h.1 (by decide) (.inl (Rep.fl_flat _)), BlkO.back_ h.2 (by decide)⟩⟩)))
     exact steps_nil
    intro o413 a413 w413 d413 z413 hk413 hf413 hE413
    obtain ⟨e413_8, e413_9, e413_14, e413_64, e413_65, e413_66⟩ := kt6 hk413 e408_8 e408_9 e408_14 e408_64 e408_65 e408_66
    obtain ⟨⟨⟨A410, cA410⟩, (f_74 : a413.eval (.tmp 74) = .tuple #[]), (b413_A410 : RwO o413 411 [] w413 5 R5 A410 cA410 r409), (b413_g242 : BlkO o413 412 w413 g242 22 #[sl A410 r409 cA410])⟩, -⟩ := hf413 [4] rfl
    have hX413 := es_ hX408 hE413
    obtain ⟨b413_g246, b413_g405⟩ := be2 hE413 b408_g246 b408_g405
    have b413_A226 := re_ hE413 b408_A226
    obtain ⟨r414, hr414, hs⟩ := obind hs
    refine rr_seq 91 [Fct.at_ 412 g242 22 #[sl A410 r409 cA410], Fct.rowAt 411 [] 5 R5 A410 cA410 r409] o413 [412, 411] [0, 0, 2, 6, 15] [dv [] [9] 75 (.func (.func 24) #[] #[pt g242 0]), dv [] [14] 76 (pt g405 0), dv [1] [] 77 (pt g405 1), dv [2] [] 78 (Zi x404.1.2.1), ⟨[0, 3, 5, 6], [], [412, 411], Fct.mems [416, 417] 79 (fun (x : Option Addr × Nat) => .tuple #[]) (fun (x : Option Addr × Nat) own w => RwO own 416 [] w 5 R5 x.1 x.2 r414 ∧ BlkO own 417 w g242 22 #[.slice x.1 r414.length x.2]) (fun hk he h => ⟨RwO.evo (hits_sub hk (by decide)) he h.1, BlkO.evo (not_hit hk (by decide)) he h.2⟩)⟩] z413 d413 (fm2 b413_g242 b413_A410) ?_ ?_
    ·refine sL1 to59 e413_9 b413_g246 <| sS (fun s => or_field fo66_0 (s.1.trans e413_14) (by rfl)) <| sF (fun f => or_field fo28_1 f.1 (by rfl)) <| sG to3 b413_g405 ?_
     refine sc (fun own a wx hf hsl hE => ?_) ?_
     ·obtain ⟨f_75, f_78, b_g242, b_A410, -⟩ := hf
      exact px (or_callf cf24 f_75 (args1 f_78) rfl (pack_Write_1_w _ (forth own (look0 [(411, 2), (412, 1)])) x404.1.2.1 r409 g242 22 A410 cA410 (look0_le rfl) (BlkO.forth_ (m := (look0 [(411, 2), (412, 1)])) b_g242) (RwO.forth_ (m := (look0 [(411, 2), (412, 1)])) b_A410) r414 hr414) (post_mems (m := (look0 [(411, 2), (412, 1)])) (m' := (look0 [(1, 417), (2, 416)])) (hm_of rfl) (fun own' w' a' x h1 h => ⟨x, h1, ⟨RwO.back_ h.1 (by decide) (.inl (Rep.fl_flat _)), BlkO.back_ h.2 (by decide)⟩⟩)))
     exact steps_nil
    intro o418 a418 w418 d418 z418 hk418 hf418 hE418
    obtain ⟨e418_8, e418_9, e418_14, e418_64, e418_65, e418_66⟩ := kt6 hk418 e413_8 e413_9 e413_14 e413_64 e413_65 e413_66
    obtain ⟨⟨⟨A415, cA415⟩, (f_79 : a418.eval (.tmp 79) = .tuple #[]), (b418_A415 : RwO o418 416 [] w418 5 R5 A415 cA415 r414), (b418_g242 : BlkO o418 417 w418 g242 22 #[sl A415 r414 cA415])⟩, -⟩ := hf418 [4] rfl
    have hX418 := es_ hX413 hE418
    obtain ⟨b418_g246, b418_g405⟩ := be2 hE418 b413_g246 b413_g405
    have b418_A226 := re_ hE418 b413_A226
    obtain ⟨r419, hr419, hs⟩ := obind hs
    refine rr_seq 91 [Fct.at_ 417 g242 22 #[sl A415 r414 cA415], Fct.rowAt 416 [] 5 R5 A415 cA415 r414] o418 [417, 416] [0, 0, 2, 6, 15] [dv [] [9] 80 (.func (.func 24) #[] #[pt g242 0]), dv [] [14] 81 (pt g405 0), dv [1] [] 82 (pt g405 2), dv [2] [] 83 (Zi x404.1.2.2), ⟨[0, 3, 5, 6], [], [417, 416], Fct.mems [421, 422] 84 (fun (x : Option Addr × Nat) => .tuple #[]) (fun (x : Option Addr × Nat) own w => RwO own 421 [] w 5 R5 x.1 x.2 r419 ∧ BlkO own 422 w g242 22 #[.slice x.1 r419.length x.2]) (fun hk he h => ⟨RwO.evo (hits_sub hk (by decide)) he h.1, BlkO.evo (not_hit hk (by decide)) he h.2⟩)⟩] z418 d418 (fm2 b418_g242 b418_A415) ?_ ?_
    ·refine sL1 to59 e418_9 b418_g246 <| sS (fun s => or_field fo66_0 (s.1.trans e418_14) (by rfl)) <| sF (fun f => or_field fo28_2 f.1 (by rfl)) <| sG to3 b418_g405 ?_
     refine sc (fun own a wx hf hsl hE => ?_) ?_
     ·obtain ⟨f_80, f_83, b_g242, b_A415, -⟩ := hf
      exact px (or_callf cf24 f_80 (args1 f_83) rfl (pack_Write_1_w _ (forth own (look0 [(416, 2), (417, 1)])) x404.1.2.2 r414 g242 22 A415 cA415 (look0_le rfl) (BlkO.forth_ (m := (look0 [(416, 2), (417, 1)])) b_g242) (RwO.forth_ (m := (look0 [(416, 2), (417, 1)])) b_A415) r419 hr419) (post_mems (m := (look0 [(416, 2), (417, 1)])) (m' := (look0 [(1, 422), (2, 421)])) (hm_of rfl) (fun own' w' a' x h1 h => ⟨x, h1, ⟨RwO.back_ h.1 (by decide) (.inl (Rep.fl_flat _)), BlkO.back_ h.2 (by decide)⟩⟩)))
     exact steps_nil
    intro o423 a423 w423 d423 z423 hk423 hf423 hE423
    obtain ⟨e423_8, e423_9, e423_14, e423_64, e423_65, e423_66⟩ := kt6 hk423 e418_8 e418_9 e418_14 e418_64 e418_65 e418_66
    obtain ⟨⟨⟨A420, cA420⟩, (f_84 : a423.eval (.tmp 84) = .tuple #[]), (b423_A420 : RwO o423 421 [] w423 5 R5 A420 cA420 r419), (b423_g242 : BlkO o423 422 w423 g242 22 #[sl A420 r419 cA420])⟩, -⟩ := hf423 [4] rfl
    have hX423 := es_ hX418 hE423
    obtain ⟨b423_g246, b423_g405⟩ := be2 hE423 b418_g246 b418_g405
    have b423_A226 := re_ hE423 b418_A226
    obtain ⟨r424, hr424, hs⟩ := obind hs
    refine rr 91 [Fct.at_ 422 g242 22 #[sl A420 r419 cA420], Fct.rowAt 421 [] 5 R5 A420 cA420 r419] o423 [422, 421] [0, 0, 2, 7] [dv [] [9] 85 (.func (.func 24) #[] #[pt g242 0]), dv [] [14] 86 (pt g405 3), dv [1] [] 87 (Zi x404.2), ⟨[0, 2, 4, 5], [], [422, 421], Fct.mems [426, 427] 88 (fun (x : Option Addr × Nat) => .tuple #[]) (fun (x : Option Addr × Nat) own w => RwO own 426 [] w 5 R5 x.1 x.2 r424 ∧ BlkO own 427 w g242 22 #[.slice x.1 r424.length x.2]) (fun hk he h => ⟨RwO.evo (hits_sub hk (by decide)) he h.1, BlkO.evo (not_hit hk (by decide)) he h.2⟩)⟩] z423 d423 (fm2 b423_g242 b423_A420) ?_ ?_
    ·refine sL1 to59 e423_9 b423_g246 <| sS (fun s => or_field fo66_1 (s.1.trans e423_14) (by rfl)) <| sG to3 b423_g405 ?_
     refine sc (fun own a wx hf hsl hE => ?_) ?_
     ·obtain ⟨f_85, f_87, b_g242, b_A420, -⟩ := hf
      exact px (or_callf cf24 f_85 (args1 f_87) rfl (pack_Write_1_w _ (forth own (look0 [(421, 2), (422, 1)])) x404.2 r419 g242 22 A420 cA420 (look0_le rfl) (BlkO.forth_ (m := (look0 [(421, 2), (422, 1)])) b_g242) (RwO.forth_ (m := (look0 [(421, 2), (422, 1)])) b_A420) r424 hr424) (post_mems (m := (look0 [(421, 2), (422, 1)])) (m' := (look0 [(1, 427), (2, 426)])) (hm_of rfl) (fun own' w' a' x h1 h => ⟨x, h1, ⟨RwO.back_ h.1 (by decide) (.inl (Rep.fl_flat _)), BlkO.back_ h.2 (by decide)⟩⟩)))
     exact steps_nil
    intro o428 a428 w428 d428 z428 hk428 hf428 hE428
    obtain ⟨e428_8, e428_9, e428_64, e428_65, e428_66⟩ := kt5 hk428 e423_8 e423_9 e423_64 e423_65 e423_66
    obtain ⟨⟨⟨A425, cA425⟩, (f_88 : a428.eval (.tmp 88) = .tuple #[]), (b428_A425 : RwO o428 426 [] w428 5 R5 A425 cA425 r424), (b428_g242 : BlkO o428 427 w428 g242 22 #[sl A425 r424 cA425])⟩, -⟩ := hf428 [3] rfl
    have hX428 := es_ hX423 hE428
    have b428_g246 := be_ hE428 b423_g246
    have b428_A226 := re_ hE428 b423_A226
    refine hn403 _ _ ?_
    refine hn402 _ _ ?_
    refine rq 91 o428 (bz 2) [dv [] [66] 89 (Zi (ad x364 1)), dv [0] [] 66 (Zi (ad x364 1))] z428 d428 ?_ ?_
    ·exact sS (fun s => or_add (s.1.trans e428_66) rfl rfl) <| sV <| steps_nil
    intro o429 a429 w429 d429 z429 hk429 hf429 hE429
    obtain ⟨e429_8, e429_9, e429_64, e429_65⟩ := kt4 hk429 e428_8 e428_9 e428_64 e428_65
    have e429_66 := gv (hf429 [1] rfl) rfl
    have hX429 := es_ hX428 hE429
    obtain ⟨b429_g246, b429_g242⟩ := be2 hE429 b428_g246 b428_g242
    have b429_A226 := re_ hE429 b428_A226
    have b429_A425 := re_ hE429 b428_A425
    exact hn397 _ _ _ hs ⟨(rl [(426, 363), (427, 359)] o429), A425, cA425, d429, z429, e429_8, e429_9, e429_64, e429_65, e429_66, (Evo.rl_ hX429 (fun _ => Nat.le_refl 0) rfl), (BlkO.rl_ b429_g242), (RwO.rl_ b429_A425), (BlkO.rl_ b429_g246), (RwO.rl_ b429_A226)⟩
   refine fl_exit ?_
   refine hp400 _ _ _ rfl ?_
   replace hs := z397 _ hs
   refine hp397 _ _ _ rfl ?_
   refine hx326 _ _ ?_
   refine hn324 _ _ ?_
   refine rq_seq 91 o399 (bz 3) [dv [] [8] 90 (sl A360 out362 c361), dv [0] [] 4 (sl A360 out362 c361), dv [] [] 5 (Zi 0)] z399 d399 ?_ ?_
   ·exact sL1 to22 e399_8 b399_g242 <| sA <| sO (or_assign rfl) <| steps_nil
   intro o430 a430 w430 d430 z430 hk430 hf430 hE430
   have e430_4 := gv (hf430 [1] rfl) rfl
   have e430_5 := gv (hf430 [2] rfl) rfl
   have hX430 := es_ hX399 hE430
   have b430_A360 := re_ hE430 b399_A360
   refine fl_ret ?_
   obtain rfl := osome hs
   exact hret _ _ _ _ (.inl rfl) d430 (results2_ rfl (RVal.tmp_ e430_4) (RVal.tmp_ e430_5)) ⟨(rl [(363, 1)] o430), (A360, c361), rfl, (Evo.rl_ hX430 (fun _ => Nat.le_refl 0) rfl), (RwO.rl_ b430_A360)⟩
end Go.Proofs.Ytnmkonlfnpcoiaa
