import Derived.Test.YtnmkonlfnpcoiaaBase
import Derived.Test.YtnmkonlfnpcoiaaTy
import Derived.Test.YtnmkonlfnpcoiaaSrt
import Derived.Test.YtnmkonlfnpcoiaaSp1
namespace Go.Proofs.Ytnmkonlfnpcoiaa
open Go.RowKit
set_option linter.unusedVariables false
set_option maxRecDepth 10000
theorem snap_level_w (w : World) (z1 : Int) (r : Bool) (hs : snap_level z1 = some r) :
  Calls Try.prog 82 #[Zi z1] w fun e w' => ∃ own' : Own, e = .returned (.bool r) ∧ Evo [] (fun _ => 0) own' w w' := by
 refine fl_enter (n := 9) rfl rfl rfl (Nat.le_of_ble_eq_true rfl) ?_
 intro a0 Q d0 z0 harg hret
 have ha0 := harg 0 _ rfl
 clear harg
 have hE0 : Evo [] (fun _ => 0) (fun _ => 0) w w := Evo.refl _ _ _
 refine rq_seq 9 (fun _ => 0) (bz 1) [dv [] [] 2 (.bool false)] z0 d0 ?_ ?_
 ·exact sO (or_assign rfl) <| steps_nil
 intro o14 a14 w14 d14 z14 hk14 hf14 hE14
 have e14_0 := kt hk14 ha0
 have hX14 := es_ hE0 hE14
 obtain ⟨x15, hx15, hs⟩ := obind hs
 refine rq_seq 9 o14 (bz 7) [dv [] [0] 3 (Zi z1), dv [0] [] 4 (.bool (decide (0 ≤ z1))), dv [1] [] 5 (.bool (decide (0 ≤ z1))), dc [2] [0] (decide (0 ≤ z1)) 6 (Zi z1), dc [2, 3] [] (decide (0 ≤ z1)) 7 (.bool (decide (z1 ≤ 4))), dv [2, 4] [] 8 (.bool x15), dv [5] [] 2 (.bool x15)] z14 d14 ?_ ?_
 ·exact sM e14_0 <| sF (fun f => or_geq f.1 rfl rfl) <| sV <| cT (fun _ s _ _ => or_move (s.1.trans e14_0)) <| cT (fun f _ _ hg => or_leq (f.2.1.1 hg) rfl rfl) <| sF (fun f => or_and f.1 (fun hx => f.2.1.1 hx) rfl (osome hx15).symm) <| sA <| steps_nil
 intro o16 a16 w16 d16 z16 hk16 hf16 hE16
 have e16_2 := gv (hf16 [6] rfl) rfl
 have hX16 := es_ hX14 hE16
 refine fl_ret ?_
 obtain rfl := (osome hs).symm
 exact hret _ _ _ _ (.inl rfl) d16 (results1_ rfl (RVal.tmp_ e16_2)) ⟨o16, rfl, hX16⟩
theorem snap_Side_w (w : World) (z1 : Int) (r : Int × Bool) (hs : snap_Side z1 = some r) :
  Calls Try.prog 62 #[Zi z1] w fun e w' => ∃ own' : Own, e = .returned (.tuple #[Zi r.1, .bool r.2]) ∧ Evo [] (fun _ => 0) own' w w' := by
 refine fl_enter (n := 9) rfl rfl rfl (Nat.le_of_ble_eq_true rfl) ?_
 intro a0 Q d0 z0 harg hret
 have ha0 := harg 0 _ rfl
 clear harg
 have hE0 : Evo [] (fun _ => 0) (fun _ => 0) w w := Evo.refl _ _ _
 refine rq_seq 9 (fun _ => 0) (bz 2) [dv [] [] 2 (Zi 0), dv [] [] 3 (.bool false)] z0 d0 ?_ ?_
 ·exact sO (or_assign rfl) <| sO (or_assign rfl) <| steps_nil
 intro o19 a19 w19 d19 z19 hk19 hf19 hE19
 have e19_0 := kt hk19 ha0
 have hX19 := es_ hE0 hE19
 refine fl_seq (fun Q20 hn20 hp20 => ?_)
 obtain ⟨r21, hr21, hs⟩ := obind hs
 refine rq_seq 9 o19 (bz 3) [dv [] [0] 4 (Zi z1), dv [0] [] 5 (.bool r21), dv [1] [] 6 (.bool (!r21))] z19 d19 ?_ ?_
 ·exact sM e19_0 <| sF (fun f => or_call cf82 (args1 f.1) (snap_level_w _ z1  r21 hr21) post_val) <| sF (fun f => or_not f.1 rfl) <| steps_nil
 intro o22 a22 w22 d22 z22 hk22 hf22 hE22
 have e22_0 := kt hk22 e19_0
 have e22_6 := gv (hf22 [2] rfl) rfl
 have hX22 := es_ hX19 hE22
 refine fl_cond e22_6 hs (fun c23 hs => ?_) (fun c23 hs => ?_)
 ·refine rq_seq 9 o22 (bz 2) [dv [] [] 2 (Zi 0), dv [] [] 3 (.bool false)] z22 d22 ?_ ?_
  ·exact sO (or_assign rfl) <| sO (or_assign rfl) <| steps_nil
  intro o24 a24 w24 d24 z24 hk24 hf24 hE24
  have e24_2 := gv (hf24 [0] rfl) rfl
  have e24_3 := gv (hf24 [1] rfl) rfl
  have hX24 := es_ hX22 hE24
  refine fl_ret ?_
  refine hp20 _ _ _ rfl ?_
  obtain rfl := osome hs
  exact hret _ _ _ _ (.inl rfl) d24 (results2_ rfl (RVal.tmp_ e24_2) (RVal.tmp_ e24_3)) ⟨o24, rfl, hX24⟩
 refine fl_skip ?_
 refine hn20 _ _ ?_
 obtain ⟨x25, hx25, hs⟩ := obind hs
 refine rq_seq 9 o22 (bz 4) [dv [] [0] 7 (Zi z1), dv [0] [] 8 (Zi x25), dv [1] [] 2 (Zi x25), dv [] [] 3 (.bool true)] z22 d22 ?_ ?_
 ·exact sM e22_0 <| sF (fun f => or_shl rfl f.1 hx25) <| sA <| sO (or_assign rfl) <| steps_nil
 intro o26 a26 w26 d26 z26 hk26 hf26 hE26
 have e26_2 := gv (hf26 [2] rfl) rfl
 have e26_3 := gv (hf26 [3] rfl) rfl
 have hX26 := es_ hX22 hE26
 refine fl_ret ?_
 obtain rfl := osome hs
 exact hret _ _ _ _ (.inl rfl) d26 (results2_ rfl (RVal.tmp_ e26_2) (RVal.tmp_ e26_3)) ⟨o26, rfl, hX26⟩
theorem window_count_w (w : World) (z1 : Int) (r : Int) (hs : window_count z1 = some r) :
  Calls Try.prog 55 #[Zi z1] w fun e w' => ∃ own' : Own, e = .returned (Zi r) ∧ Evo [] (fun _ => 0) own' w w' := by
 refine fl_enter (n := 12) rfl rfl rfl (Nat.le_of_ble_eq_true rfl) ?_
 intro a0 Q d0 z0 harg hret
 have ha0 := harg 0 _ rfl
 clear harg
 have hE0 : Evo [] (fun _ => 0) (fun _ => 0) w w := Evo.refl _ _ _
 refine rq_seq 12 (fun _ => 0) (bz 1) [dv [] [] 2 (Zi 0)] z0 d0 ?_ ?_
 ·exact sO (or_assign rfl) <| steps_nil
 intro o16 a16 w16 d16 z16 hk16 hf16 hE16
 have e16_0 := kt hk16 ha0
 have hX16 := es_ hE0 hE16
 obtain ⟨r17, hr17, hs⟩ := obind hs
 refine rq_seq 12 o16 [0, 1, 3, 7, 7, 15, 63] [dv [] [0] 6 (Zi z1), dv [0] [] 7 (.tuple #[Zi r17.1, .bool r17.2]), dv [1] [] 5 (.tuple #[Zi r17.1, .bool r17.2]), dv [2] [] 8 (Zi r17.1), dv [2] [] 9 (.bool r17.2), dv [3] [] 3 (Zi r17.1), dv [4] [] 4 (.bool r17.2)] z16 d16 ?_ ?_
 ·exact sM e16_0 <| sF (fun f => or_call cf62 (args1 f.1) (snap_Side_w _ z1  r17 hr17) post_val) <| sV <| sF (fun f => ok1 f.1) <| sF (fun f => ok1 f.1) <| sA <| sA <| steps_nil
 intro o18 a18 w18 d18 z18 hk18 hf18 hE18
 have e18_3 := gv (hf18 [5] rfl) rfl
 have hX18 := es_ hX16 hE18
 obtain ⟨x19, hx19, hs⟩ := obind hs
 refine rq_seq 12 o18 (bz 3) [dv [] [3] 10 (Zi r17.1), dv [0] [] 11 (Zi x19), dv [1] [] 2 (Zi x19)] z18 d18 ?_ ?_
 ·exact sM e18_3 <| sF (fun f => or_quo f.1 rfl hx19) <| sA <| steps_nil
 intro o20 a20 w20 d20 z20 hk20 hf20 hE20
 have e20_2 := gv (hf20 [2] rfl) rfl
 have hX20 := es_ hX18 hE20
 refine fl_ret ?_
 obtain rfl := (osome hs).symm
 exact hret _ _ _ _ (.inl rfl) d20 (results1_ rfl (RVal.tmp_ e20_2)) ⟨o20, rfl, hX20⟩
theorem window_Right_w (w : World) (t1 : Int × Int × Int) (r : Bool) (hs : window_Right t1 = some r) :
  Calls Try.prog 45 #[.agg #[Zi t1.1, Zi t1.2.1, Zi t1.2.2]] w fun e w' => ∃ own' : Own, e = .returned (.bool r) ∧ Evo [] (fun _ => 0) own' w w' := by
 refine fl_enter (n := 27) rfl rfl rfl (Nat.le_of_ble_eq_true rfl) ?_
 intro a0 Q d0 z0 harg hret
 have ha0 := harg 0 _ rfl
 clear harg
 have hE0 : Evo [] (fun _ => 0) (fun _ => 0) w w := Evo.refl _ _ _
 refine rq_seq 27 (fun _ => 0) [0, 0] [⟨[], [0], [], Fct.blk 20 1 (fun g => pt g 0) 28 #[Zi t1.1, Zi t1.2.1, Zi t1.2.2]⟩, dv [] [] 2 (.bool false)] z0 d0 ?_ ?_
 ·exact sS (fun s => nw1 (s.1.trans ha0)) <| sO (or_assign rfl) <| steps_nil
 intro o21 a21 w21 d21 z21 hk21 hf21 hE21
 obtain ⟨⟨g19, (e21_1 : a21.eval (.tmp 1) = pt g19 0), (b21_g19 : BlkO o21 20 w21 g19 28 #[Zi t1.1, Zi t1.2.1, Zi t1.2.2])⟩, -⟩ := hf21 [0] rfl
 have hX21 := es_ hE0 hE21
 obtain ⟨r22, hr22, hs⟩ := obind hs
 refine rq_seq 27 o21 (bz 4) [dv [] [1] 4 (pt g19 0), dv [0] [] 5 (Zi t1.1), dv [1] [] 6 (Zi r22), dv [2] [] 3 (Zi r22)] z21 d21 ?_ ?_
 ·exact sS (fun s => or_field fo28_0 (s.1.trans e21_1) (by rfl)) <| sG to3 b21_g19 <| sF (fun f => or_call cf55 (args1 f.1) (window_count_w _ t1.1  r22 hr22) post_val) <| sA <| steps_nil
 intro o23 a23 w23 d23 z23 hk23 hf23 hE23
 have e23_1 := kt hk23 e21_1
 have e23_3 := gv (hf23 [3] rfl) rfl
 have hX23 := es_ hX21 hE23
 have b23_g19 := be_ hE23 b21_g19
 obtain ⟨x24, hx24, hs⟩ := obind hs
 obtain ⟨x25, hx25, hs⟩ := obind hs
 refine rq_seq 27 o23 [0, 1, 3, 7, 15, 31, 15, 127, 255, 511, 1023, 2047, 4095, 8191, 16383, 32767, 65535, 32767, 262143, 524287, 1048575] [dv [] [1] 7 (pt g19 1), dv [0] [] 8 (Zi t1.2.1), dv [1] [] 9 (.bool (decide (0 ≤ t1.2.1))), dv [2] [] 10 (.bool (decide (0 ≤ t1.2.1))), dc [3] [1] (decide (0 ≤ t1.2.1)) 11 (pt g19 1), dc [3, 4] [] (decide (0 ≤ t1.2.1)) 12 (Zi t1.2.1), dc [3] [3] (decide (0 ≤ t1.2.1)) 13 (Zi r22), dc [3, 5, 6] [] (decide (0 ≤ t1.2.1)) 14 (.bool (decide (t1.2.1 < r22))), dv [3, 7] [] 15 (.bool x24), dv [8] [] 16 (.bool x24), dc [9] [1] x24 17 (pt g19 2), dc [9, 10] [] x24 18 (Zi t1.2.2), dc [9, 11] [] x24 19 (.bool (decide (0 ≤ t1.2.2))), dv [9, 12] [] 20 (.bool (x24 && (decide (0 ≤ t1.2.2)))), dv [13] [] 21 (.bool (x24 && (decide (0 ≤ t1.2.2)))), dc [14] [1] (x24 && (decide (0 ≤ t1.2.2))) 22 (pt g19 2), dc [14, 15] [] (x24 && (decide (0 ≤ t1.2.2))) 23 (Zi t1.2.2), dc [14] [3] (x24 && (decide (0 ≤ t1.2.2))) 24 (Zi r22), dc [14, 16, 17] [] (x24 && (decide (0 ≤ t1.2.2))) 25 (.bool (decide (t1.2.2 < r22))), dv [14, 18] [] 26 (.bool x25), dv [19] [] 2 (.bool x25)] z23 d23 ?_ ?_
 ·exact sS (fun s => or_field fo28_1 (s.1.trans e23_1) (by rfl)) <| sG to3 b23_g19 <| sF (fun f => or_geq f.1 rfl rfl) <| sV <| cT (fun _ s _ _ => or_field fo28_1 (s.1.trans e23_1) (by rfl)) <| cT (fun f _ hE hg => ld1 to3 (f.2.1.1 hg) (be_ hE b23_g19)) <| cT (fun _ s _ _ => or_move (s.1.trans e23_3)) <| cT (fun f _ _ hg => or_lss (f.2.1.1 hg) (f.2.2.1.1 hg) rfl) <| sF (fun f => or_and f.1 (fun hx => f.2.1.1 hx) rfl (osome hx24).symm) <| sV <| cT (fun _ s _ _ => or_field fo28_2 (s.1.trans e23_1) (by rfl)) <| cT (fun f _ hE hg => ld1 to3 (f.2.1.1 hg) (be_ hE b23_g19)) <| cT (fun f _ _ hg => or_geq (f.2.1.1 hg) rfl rfl) <| sF (fun f => or_and f.1 (fun hx => f.2.1.1 hx) rfl rfl) <| sV <| cT (fun _ s _ _ => or_field fo28_2 (s.1.trans e23_1) (by rfl)) <| cT (fun f _ hE hg => ld1 to3 (f.2.1.1 hg) (be_ hE b23_g19)) <| cT (fun _ s _ _ => or_move (s.1.trans e23_3)) <| cT (fun f _ _ hg => or_lss (f.2.1.1 hg) (f.2.2.1.1 hg) rfl) <| sF (fun f => or_and f.1 (fun hx => f.2.1.1 hx) rfl (osome hx25).symm) <| sA <| steps_nil
 intro o26 a26 w26 d26 z26 hk26 hf26 hE26
 have e26_2 := gv (hf26 [20] rfl) rfl
 have hX26 := es_ hX23 hE26
 refine fl_ret ?_
 obtain rfl := (osome hs).symm
 exact hret _ _ _ _ (.inl rfl) d26 (results1_ rfl (RVal.tmp_ e26_2)) ⟨o26, rfl, hX26⟩
theorem slices_Clone_pack_Entry_pack_Entry_w (w : World) (own : Own) (s1 : List ((Int × Int × Int) × (List Int))) (As1 : Option Addr) (cs1 : Nat) (hown : ∀ b, own b ≤ 1) (hs1 : RdO own [1] w R30 As1 cs1 s1) (r : List ((Int × Int × Int) × (List Int))) (hs : slices_Clone_pack_Entry_pack_Entry s1 = some r) :
  Calls Try.prog 46 #[sl As1 s1 cs1] w fun e w' => ∃ (own' : Own) (x : Option Addr × Nat), e = .returned (.slice x.1 r.length x.2) ∧ Evo [] own own' w w' ∧ RwO own' 2 [1, 3] w' 30 R30 x.1 x.2 r := by
 refine fl_enter (n := 8) rfl rfl rfl (Nat.le_of_ble_eq_true rfl) ?_
 intro a0 Q d0 z0 harg hret
 have ha0 := harg 0 _ rfl
 clear harg
 have hE0 : Evo [] own own w w := Evo.refl _ _ _
 refine rq_seq 8 own (bz 1) [dv [] [] 2 (.slice none 0 0)] z0 d0 ?_ ?_
 ·exact sO (or_assign rfl) <| steps_nil
 intro o23 a23 w23 d23 z23 hk23 hf23 hE23
 have e23_0 := kt hk23 ha0
 have hX23 := Evo.step hE0 hown hE23 rfl
 refine fl_seq (fun Q24 hn24 hp24 => ?_)
 refine rq_seq 8 o23 (bz 2) [dv [] [0] 3 (sl As1 s1 cs1), dv [0] [] 4 (.bool As1.isNone)] z23 d23 ?_ ?_
 ·exact sM e23_0 <| sF (fun f => or_eqlNil tu23 f.1 rfl) <| steps_nil
 intro o25 a25 w25 d25 z25 hk25 hf25 hE25
 have e25_0 := kt hk25 e23_0
 have e25_4 := gv (hf25 [1] rfl) rfl
 have hX25 := Evo.step hX23 hown hE25 rfl
 refine wpIn_cond_split e25_4 (fun hA26 => ?_) (fun hA26 => ?_)
 ·have hl26 : s1 = [] := RdO.nil_of (RdO.evo rfl hX25 hs1) hA26
  have hs0 : ((app ([] : List ((Int × Int × Int) × (List Int))) s1).bind fun x29 => some x29) = some r := hs
  have hs : (some ([] : List ((Int × Int × Int) × (List Int)))) = some r := by simpa [hl26, app, cut, capB] using hs0
  refine rq_seq 8 o25 (bz 1) [dv [] [] 2 (.slice none 0 0)] z25 d25 ?_ ?_
  ·exact sO (or_assign rfl) <| steps_nil
  intro o33 a33 w33 d33 z33 hk33 hf33 hE33
  have e33_2 := gv (hf33 [0] rfl) rfl
  have hX33 := Evo.step hX25 hown hE33 rfl
  refine fl_ret ?_
  refine hp24 _ _ _ rfl ?_
  obtain rfl := osome hs
  exact hret _ _ _ _ (.inl rfl) d33 (results1_ rfl (RVal.tmp_ e33_2)) ⟨o33, (none, 0), rfl, hX33, RwO.nil_⟩
 refine fl_skip ?_
 refine hn24 _ _ ?_
 obtain ⟨x29, hx29, hs⟩ := obind hs
 refine rp_seq 8 o25 [28] [0, 0, 3, 7] [⟨[], [], [], Fct.row 28 [] 5 30 R30 ([] : List ((Int × Int × Int) × (List Int)))⟩, dv [] [0] 6 (sl As1 s1 cs1), ⟨[0, 1], [], [28], Fct.row 30 [1] 7 30 R30 x29⟩, ⟨[2], [], [], Fct.rel [2, 7] (fun l => ∀ (A31 : Option Addr) (cA31 : Nat), l.getD 1 undef = sl A31 x29 cA31 → l.getD 0 undef = sl A31 x29 cA31)⟩] z25 d25 ?_ ?_
 ·refine sO (or_litN (R := R30) (lab := 28) (L := []) (e := 30) (cs := #[]) (l := ([] : List ((Int × Int × Int) × (List Int)))) (n := 0) [] rfl rfl trivial (by kernel_rfl) rfl (by decide) rfl rfl) <| sM e25_0 ?_
  refine sc (fun own a wx hf hsl hE => ?_) ?_
  ·obtain ⟨⟨⟨A27, cA27⟩, f_5, b_A27⟩, f_6, -⟩ := hf
   exact px (or_append (R := R30) (lab := 28) (lab2 := 30) (L := []) (L3 := [1]) tp23 f_5 b_A27 (by decide) f_6 (RdO.evo rfl hE (RdO.evo rfl hX25 hs1)) hx29 (by decide) (by decide) (mem_of rfl) (.inr ⟨rfl, rfl, by decide, by decide⟩))
  refine sc (fun own a wx hf hsl hE => ?_) ?_
  ·obtain ⟨⟨⟨A31, cA31⟩, (f_7 : a.eval (.tmp 7) = sl A31 x29 cA31), b_A31⟩, -⟩ := hf
   exact px (or_mono (f := Fct.val 2 (sl A31 x29 cA31)) (or_assign f_7) (fun own' a' w' v' hp h => fun _ _ h0' => by cases (f_7.symm.trans ((hp.2 7 (by decide)).symm.trans h0')); exact h))
  exact steps_nil
 intro o32 a32 w32 d32 z32 hk32 hf32 hE32
 obtain ⟨⟨⟨A31, cA31⟩, (f_7 : a32.eval (.tmp 7) = sl A31 x29 cA31), (b32_A31 : RwO o32 30 [1] w32 30 R30 A31 cA31 x29)⟩, (q_2 : ∀ (A31 : Option Addr) (cA31 : Nat), a32.eval (.tmp 7) = sl A31 x29 cA31 → a32.eval (.tmp 2) = sl A31 x29 cA31), -⟩ := hf32 [2, 3] rfl
 have e32_2 := q_2 _ _ f_7
 have hX32 := Evo.step hX25 hown hE32 rfl
 refine fl_ret ?_
 obtain rfl := (osome hs).symm
 exact hret _ _ _ _ (.inl rfl) d32 (results1_ rfl (RVal.tmp_ e32_2)) ⟨(rl [(30, 2)] o32), (A31, cA31), rfl, (Evo.rl_ hX32 hown rfl), (RwO.more (RwO.rl_ b32_A31) (by decide))⟩
theorem math_bits_Len64_w (w : World) (x1 : Int) (r : Int) (hs : math_bits_Len64 x1 = some r) :
  Calls Try.prog 73 #[.int .u64 x1] w fun e w' => ∃ own' : Own, e = .returned (Zi r) ∧ Evo [] (fun _ => 0) own' w w' := by
 refine fl_enter (n := 25) rfl rfl rfl (Nat.le_of_ble_eq_true rfl) ?_
 intro a0 Q d0 z0 harg hret
 have ha0 := harg 0 _ rfl
 clear harg
 have hE0 : Evo [] (fun _ => 0) (fun _ => 0) w w := Evo.refl _ _ _
 refine rq_seq 25 (fun _ => 0) (bz 1) [dv [] [] 2 (Zi 0)] z0 d0 ?_ ?_
 ·exact sO (or_assign rfl) <| steps_nil
 intro o59 a59 w59 d59 z59 hk59 hf59 hE59
 have e59_0 := kt hk59 ha0
 have e59_2 := gv (hf59 [0] rfl) rfl
 have hX59 := es_ hE0 hE59
 refine fl_seq (fun Q60 hn60 hp60 => ?_)
 have K68 : ∀ (a68 : Act) (w68 : World) (o68 : Own) (x66 : Int) (n67 : Int), a68.defers = [] → a68.tmps.size = 25 → a68.eval (.tmp 0) = .int .u64 x66 → a68.eval (.tmp 2) = Zi n67 → Evo [] (fun _ => 0) o68 w w68 → math_bits_Len64_k1 x66 n67 = some r → Q60 .normal a68 w68 := by
  intro a68 w68 o68 x66 n67 d69 z69 e69_0 e69_2 hE69 hs
  refine hn60 _ _ ?_
  refine fl_seq (fun Q70 hn70 hp70 => ?_)
  have K78 : ∀ (a78 : Act) (w78 : World) (o78 : Own) (x76 : Int) (n77 : Int), a78.defers = [] → a78.tmps.size = 25 → a78.eval (.tmp 0) = .int .u64 x76 → a78.eval (.tmp 2) = Zi n77 → Evo [] (fun _ => 0) o78 w w78 → math_bits_Len64_k2 x76 n77 = some r → Q70 .normal a78 w78 := by
   intro a78 w78 o78 x76 n77 d79 z79 e79_0 e79_2 hE79 hs
   refine hn70 _ _ ?_
   refine fl_seq (fun Q80 hn80 hp80 => ?_)
   have K88 : ∀ (a88 : Act) (w88 : World) (o88 : Own) (x86 : Int) (n87 : Int), a88.defers = [] → a88.tmps.size = 25 → a88.eval (.tmp 0) = .int .u64 x86 → a88.eval (.tmp 2) = Zi n87 → Evo [] (fun _ => 0) o88 w w88 → math_bits_Len64_k3 x86 n87 = some r → Q80 .normal a88 w88 := by
    intro a88 w88 o88 x86 n87 d89 z89 e89_0 e89_2 hE89 hs
    refine hn80 _ _ ?_
    obtain ⟨x90, hx90, hs⟩ := obind hs
    refine rq_seq 25 o88 [0, 0, 2, 6, 14, 31, 63] [dv [] [2] 19 (Zi n87), dv [] [0] 20 (.int .u64 x86), dv [1] [] 21 (.int .u8 (IntKind.u8.wrap x86)), dv [2] [] 22 (.int .u8 x90), dv [3] [] 23 (Zi (IntKind.i64.wrap x90)), dv [0, 4] [] 24 (Zi (ad n87 (IntKind.i64.wrap x90))), dv [5] [] 2 (Zi (ad n87 (IntKind.i64.wrap x90)))] z89 d89 ?_ ?_
    ·exact sM e89_2 <| sM e89_0 <| sF (fun f => or_conv f.1 tn26 tn5 rfl) <| sF (fun f => or_indexS tS9 rfl f.1 hx90) <| sF (fun f => or_conv f.1 tn5 tn3 rfl) <| sF (fun f => or_add f.1 f.2.1 rfl) <| sA <| steps_nil
    intro o91 a91 w91 d91 z91 hk91 hf91 hE91
    have e91_2 := gv (hf91 [6] rfl) rfl
    have hX91 := es_ hE89 hE91
    refine fl_ret ?_
    obtain rfl := osome hs
    exact hret _ _ _ _ (.inl rfl) d91 (results1_ rfl (RVal.tmp_ e91_2)) ⟨o91, rfl, hX91⟩
   refine rq_seq 25 o78 (bz 2) [dv [] [0] 13 (.int .u64 x76), dv [0] [] 14 (.bool (decide (256 ≤ x76)))] z79 d79 ?_ ?_
   ·exact sM e79_0 <| sF (fun f => or_geq f.1 rfl rfl) <| steps_nil
   intro o92 a92 w92 d92 z92 hk92 hf92 hE92
   obtain ⟨e92_0, e92_2⟩ := kt2 hk92 e79_0 e79_2
   have e92_14 := gv (hf92 [1] rfl) rfl
   have hX92 := es_ hE79 hE92
   refine fl_cond e92_14 hs (fun c93 hs => ?_) (fun c93 hs => ?_)
   ·obtain ⟨x94, hx94, hs⟩ := obind hs
    refine rq_seq 25 o92 (bz 3) [dv [] [0] 15 (.int .u64 x76), dv [0] [] 16 (.int .u64 x94), dv [1] [] 0 (.int .u64 x94)] z92 d92 ?_ ?_
    ·exact sM e92_0 <| sF (fun f => or_shr f.1 rfl hx94) <| sA <| steps_nil
    intro o95 a95 w95 d95 z95 hk95 hf95 hE95
    have e95_2 := kt hk95 e92_2
    have e95_0 := gv (hf95 [2] rfl) rfl
    have hX95 := es_ hX92 hE95
    refine rq 25 o95 (bz 3) [dv [] [2] 17 (Zi n77), dv [0] [] 18 (Zi (ad n77 8)), dv [1] [] 2 (Zi (ad n77 8))] z95 d95 ?_ ?_
    ·exact sM e95_2 <| sF (fun f => or_add f.1 rfl rfl) <| sA <| steps_nil
    intro o96 a96 w96 d96 z96 hk96 hf96 hE96
    have e96_0 := kt hk96 e95_0
    have e96_2 := gv (hf96 [2] rfl) rfl
    have hX96 := es_ hX95 hE96
    exact (K88 _ _ o96 _ _ d96 z96 e96_0 e96_2 hX96 hs)
   refine fl_skip ?_
   exact (K88 _ _ o92 _ _ d92 z92 e92_0 e92_2 hX92 hs)
  refine rq_seq 25 o68 (bz 2) [dv [] [0] 7 (.int .u64 x66), dv [0] [] 8 (.bool (decide (65536 ≤ x66)))] z69 d69 ?_ ?_
  ·exact sM e69_0 <| sF (fun f => or_geq f.1 rfl rfl) <| steps_nil
  intro o97 a97 w97 d97 z97 hk97 hf97 hE97
  obtain ⟨e97_0, e97_2⟩ := kt2 hk97 e69_0 e69_2
  have e97_8 := gv (hf97 [1] rfl) rfl
  have hX97 := es_ hE69 hE97
  refine fl_cond e97_8 hs (fun c98 hs => ?_) (fun c98 hs => ?_)
  ·obtain ⟨x99, hx99, hs⟩ := obind hs
   refine rq_seq 25 o97 (bz 3) [dv [] [0] 9 (.int .u64 x66), dv [0] [] 10 (.int .u64 x99), dv [1] [] 0 (.int .u64 x99)] z97 d97 ?_ ?_
   ·exact sM e97_0 <| sF (fun f => or_shr f.1 rfl hx99) <| sA <| steps_nil
   intro o100 a100 w100 d100 z100 hk100 hf100 hE100
   have e100_2 := kt hk100 e97_2
   have e100_0 := gv (hf100 [2] rfl) rfl
   have hX100 := es_ hX97 hE100
   refine rq 25 o100 (bz 3) [dv [] [2] 11 (Zi n67), dv [0] [] 12 (Zi (ad n67 16)), dv [1] [] 2 (Zi (ad n67 16))] z100 d100 ?_ ?_
   ·exact sM e100_2 <| sF (fun f => or_add f.1 rfl rfl) <| sA <| steps_nil
   intro o101 a101 w101 d101 z101 hk101 hf101 hE101
   have e101_0 := kt hk101 e100_0
   have e101_2 := gv (hf101 [2] rfl) rfl
   have hX101 := es_ hX100 hE101
   exact (K78 _ _ o101 _ _ d101 z101 e101_0 e101_2 hX101 hs)
  refine fl_skip ?_
  exact (K78 _ _ o97 _ _ d97 z97 e97_0 e97_2 hX97 hs)
 refine rq_seq 25 o59 (bz 2) [dv [] [0] 3 (.int .u64 x1), dv [0] [] 4 (.bool (decide (4294967296 ≤ x1)))] z59 d59 ?_ ?_
 ·exact sM e59_0 <| sF (fun f => or_geq f.1 rfl rfl) <| steps_nil
 intro o102 a102 w102 d102 z102 hk102 hf102 hE102
 obtain ⟨e102_0, e102_2⟩ := kt2 hk102 e59_0 e59_2
 have e102_4 := gv (hf102 [1] rfl) rfl
 have hX102 := es_ hX59 hE102
 refine fl_cond e102_4 hs (fun c103 hs => ?_) (fun c103 hs => ?_)
 ·obtain ⟨x104, hx104, hs⟩ := obind hs
  refine rq_seq 25 o102 (bz 3) [dv [] [0] 5 (.int .u64 x1), dv [0] [] 6 (.int .u64 x104), dv [1] [] 0 (.int .u64 x104)] z102 d102 ?_ ?_
  ·exact sM e102_0 <| sF (fun f => or_shr f.1 rfl hx104) <| sA <| steps_nil
  intro o105 a105 w105 d105 z105 hk105 hf105 hE105
  have e105_0 := gv (hf105 [2] rfl) rfl
  have hX105 := es_ hX102 hE105
  refine rq 25 o105 (bz 1) [dv [] [] 2 (Zi 32)] z105 d105 ?_ ?_
  ·exact sO (or_assign rfl) <| steps_nil
  intro o106 a106 w106 d106 z106 hk106 hf106 hE106
  have e106_0 := kt hk106 e105_0
  have e106_2 := gv (hf106 [0] rfl) rfl
  have hX106 := es_ hX105 hE106
  exact (K68 _ _ o106 _ _ d106 z106 e106_0 e106_2 hX106 hs)
 refine fl_skip ?_
 exact (K68 _ _ o102 _ _ d102 z102 e102_0 e102_2 hX102 hs)
theorem math_bits_Len_w (w : World) (x1 : Int) (r : Int) (hs : math_bits_Len x1 = some r) :
  Calls Try.prog 59 #[.int .u64 x1] w fun e w' => ∃ own' : Own, e = .returned (Zi r) ∧ Evo [] (fun _ => 0) own' w w' := by
 refine fl_enter (n := 8) rfl rfl rfl (Nat.le_of_ble_eq_true rfl) ?_
 intro a0 Q d0 z0 harg hret
 have ha0 := harg 0 _ rfl
 clear harg
 have hE0 : Evo [] (fun _ => 0) (fun _ => 0) w w := Evo.refl _ _ _
 refine rq_seq 8 (fun _ => 0) (bz 1) [dv [] [] 2 (Zi 0)] z0 d0 ?_ ?_
 ·exact sO (or_assign rfl) <| steps_nil
 intro o15 a15 w15 d15 z15 hk15 hf15 hE15
 have e15_0 := kt hk15 ha0
 have hX15 := es_ hE0 hE15
 refine fl_seq (fun Q16 hn16 hp16 => ?_)
 refine fl_f rfl ?_
 refine fl_skip ?_
 refine hn16 _ _ ?_
 obtain ⟨r17, hr17, hs⟩ := obind hs
 refine rq_seq 8 o15 (bz 3) [dv [] [0] 6 (.int .u64 x1), dv [0] [] 7 (Zi r17), dv [1] [] 2 (Zi r17)] z15 d15 ?_ ?_
 ·exact sM e15_0 <| sF (fun f => or_call cf73 (args1 f.1) (math_bits_Len64_w _ x1  r17 hr17) post_val) <| sA <| steps_nil
 intro o18 a18 w18 d18 z18 hk18 hf18 hE18
 have e18_2 := gv (hf18 [2] rfl) rfl
 have hX18 := es_ hX15 hE18
 refine fl_ret ?_
 obtain rfl := (osome hs).symm
 exact hret _ _ _ _ (.inl rfl) d18 (results1_ rfl (RVal.tmp_ e18_2)) ⟨o18, rfl, hX18⟩
theorem sort_insertionSort_func_w (w : World) (own : Own) (Tx : Type) (lf : List Tx → Int → Int → Option Bool) (ca : Value) (sv : Value) (th : Value) (l0 : List Tx) (Jx : Sj (List Tx)) (x1 : Int) (b2 : Int) (hown : ∀ b, own b ≤ 1) (hL : LessS Try.prog 48 ca lf Jx) (hS : SwapS Try.prog 71 sv th Jx) (hJx : SoO Jx own 1 w l0) (r : List Tx) (hs : sort_insertionSort_func Tx lf l0 x1 b2 = some r) :
  Calls Try.prog 74 #[.agg #[.func (.func 48) #[] #[ca], .func (.func 71) #[] #[sv, th]], Zi x1, Zi b2] w fun e w' => ∃ (own' : Own), e = .returned (.tuple #[]) ∧ Evo [1] own own' w w' ∧ SoO Jx own' 1 w' r := by
 refine fl_enter (n := 35) rfl rfl rfl (Nat.le_of_ble_eq_true rfl) ?_
 intro a0 Q d0 z0 harg hret
 have ha0 := harg 0 _ rfl
 have ha1 := harg 1 _ rfl
 have ha2 := harg 2 _ rfl
 clear harg
 have hE0 : Evo [1] own own w w := Evo.refl _ _ _
 refine rq_seq 35 own (bz 1) [⟨[], [0], [], Fct.blk 160 3 (fun g => pt g 0) 122 #[.func (.func 48) #[] #[ca], .func (.func 71) #[] #[sv, th]]⟩] z0 d0 ?_ ?_
 ·exact sS (fun s => nw1 (s.1.trans ha0)) <| steps_nil
 intro o161 a161 w161 d161 z161 hk161 hf161 hE161
 obtain ⟨e161_1, e161_2⟩ := kt2 hk161 ha1 ha2
 obtain ⟨⟨g159, (e161_3 : a161.eval (.tmp 3) = pt g159 0), (b161_g159 : BlkO o161 160 w161 g159 122 #[.func (.func 48) #[] #[ca], .func (.func 71) #[] #[sv, th]])⟩, -⟩ := hf161 [0] rfl
 have hX161 := Evo.step hE0 hown hE161 rfl
 have b161_Jx := SoO.evo (by decide) hE161 hJx
 refine rq_seq 35 o161 (bz 3) [dv [] [1] 8 (Zi x1), dv [0] [] 9 (Zi (ad x1 1)), dv [1] [] 6 (Zi (ad x1 1))] z161 d161 ?_ ?_
 ·exact sM e161_1 <| sF (fun f => or_add f.1 rfl rfl) <| sA <| steps_nil
 intro o162 a162 w162 d162 z162 hk162 hf162 hE162
 obtain ⟨e162_1, e162_2, e162_3⟩ := kt3 hk162 e161_1 e161_2 e161_3
 have e162_6 := gv (hf162 [2] rfl) rfl
 have hX162 := Evo.step hX161 hown hE162 rfl
 have b162_Jx := SoO.evo (by decide) hE162 b161_Jx
 have b162_g159 := be_ hE162 b161_g159
 refine fl_block (fun Q163 hn163 hx163 hp163 => ?_)
 refine fl_loop (body := (fun s => sort_insertionSort_func_b1 Tx lf x1 b2 s.1 s.2)) (z := r) (show loopO _ _ = _ from hs) (fun (s : Int × (List Tx)) a wx => match s with | (i210, l211) => ∃ (ox : Own), a.defers = [] ∧ a.tmps.size = 35 ∧ a.eval (.tmp 1) = Zi x1 ∧ a.eval (.tmp 2) = Zi b2 ∧ a.eval (.tmp 3) = pt g159 0 ∧ a.eval (.tmp 6) = Zi i210 ∧ Evo [1] own ox w wx ∧ BlkO ox 160 wx g159 122 #[.func (.func 48) #[] #[ca], .func (.func 71) #[] #[sv, th]] ∧ SoO Jx ox 212 wx l211) ?_ ?_
 ·exact ⟨(rl [(1, 212)] o162), d162, z162, e162_1, e162_2, e162_3, e162_6, (Evo.rl_ hX162 hown rfl), (BlkO.rl_ b162_g159), (SoO.rl_ b162_Jx)⟩
 ·rintro ⟨i210, l211⟩ zz259 a259 w259 ⟨o259, d260, z260, e260_1, e260_2, e260_3, e260_6, hE260, b260_g159, b260_Jx⟩ hs Q259 hn259 hp259 z259
  have hs : sort_insertionSort_func_b1 Tx lf x1 b2 i210 l211 = some zz259 := hs
  refine fl_seq (fun Q261 hn261 hp261 => ?_)
  refine rq_seq 35 o259 [0, 0, 3] [dv [] [6] 10 (Zi i210), dv [] [2] 11 (Zi b2), dv [0, 1] [] 12 (.bool (decide (i210 < b2)))] z260 d260 ?_ ?_
  ·exact sM e260_6 <| sM e260_2 <| sF (fun f => or_lss f.1 f.2.1 rfl) <| steps_nil
  intro o262 a262 w262 d262 z262 hk262 hf262 hE262
  obtain ⟨e262_1, e262_2, e262_3, e262_6⟩ := kt4 hk262 e260_1 e260_2 e260_3 e260_6
  have e262_12 := gv (hf262 [2] rfl) rfl
  have hX262 := Evo.step hE260 hown hE262 rfl
  have b262_g159 := be_ hE262 b260_g159
  have b262_Jx := SoO.evo (by decide) hE262 b260_Jx
  refine fl_cond e262_12 hs (fun c263 hs => ?_) (fun c263 hs => ?_)
  ·refine fl_skip ?_
   refine hn261 _ _ ?_
   refine fl_seq (fun Q264 hn264 hp264 => ?_)
   refine fl_block (fun Q265 hn265 hx265 hp265 => ?_)
   refine rq_seq 35 o262 (bz 2) [dv [] [6] 15 (Zi i210), dv [0] [] 7 (Zi i210)] z262 d262 ?_ ?_
   ·exact sM e262_6 <| sA <| steps_nil
   intro o266 a266 w266 d266 z266 hk266 hf266 hE266
   obtain ⟨e266_1, e266_2, e266_3, e266_6⟩ := kt4 hk266 e262_1 e262_2 e262_3 e262_6
   have e266_7 := gv (hf266 [1] rfl) rfl
   have hX266 := Evo.step hX262 hown hE266 rfl
   have b266_g159 := be_ hE266 b262_g159
   have b266_Jx := SoO.evo (by decide) hE266 b262_Jx
   refine fl_block (fun Q267 hn267 hx267 hp267 => ?_)
   refine fl_loop (body := (fun s => sort_insertionSort_func_b2 Tx lf x1 i210 s.1 s.2)) (z := zz259) (show loopO _ _ = _ from hs) (fun (s : Int × (List Tx)) a wx => match s with | (j279, l280) => ∃ (ox : Own), a.defers = [] ∧ a.tmps.size = 35 ∧ a.eval (.tmp 1) = Zi x1 ∧ a.eval (.tmp 2) = Zi b2 ∧ a.eval (.tmp 3) = pt g159 0 ∧ a.eval (.tmp 6) = Zi i210 ∧ a.eval (.tmp 7) = Zi j279 ∧ Evo [1] own ox w wx ∧ BlkO ox 160 wx g159 122 #[.func (.func 48) #[] #[ca], .func (.func 71) #[] #[sv, th]] ∧ SoO Jx ox 281 wx l280) ?_ ?_
   ·exact ⟨(rl [(212, 281)] o266), d266, z266, e266_1, e266_2, e266_3, e266_6, e266_7, (Evo.rl_ hX266 hown rfl), (BlkO.rl_ b266_g159), (SoO.rl_ b266_Jx)⟩
   ·rintro ⟨j279, l280⟩ zz293 a293 w293 ⟨o293, d294, z294, e294_1, e294_2, e294_3, e294_6, e294_7, hE294, b294_g159, b294_Jx⟩ hs Q293 hn293 hp293 z293
    have hs : sort_insertionSort_func_b2 Tx lf x1 i210 j279 l280 = some zz293 := hs
    refine fl_seq (fun Q295 hn295 hp295 => ?_)
    obtain ⟨b296, hb296, hs⟩ := obind hs
    refine rq_seq 35 o293 [0, 0, 3, 7, 15, 31, 15, 15, 143, 511, 1023] [dv [] [7] 16 (Zi j279), dv [] [1] 17 (Zi x1), dv [0, 1] [] 18 (.bool (decide (x1 < j279))), dv [2] [] 19 (.bool (decide (x1 < j279))), dc [3] [3] (decide (x1 < j279)) 20 (pt g159 0), dc [3, 4] [] (decide (x1 < j279)) 21 (.func (.func 48) #[] #[ca]), dc [3] [7] (decide (x1 < j279)) 22 (Zi j279), dc [3] [7] (decide (x1 < j279)) 23 (Zi j279), dc [3, 7] [] (decide (x1 < j279)) 24 (Zi (sb j279 1)), dc [3, 5, 6, 8] [] (decide (x1 < j279)) 25 (.bool b296), dv [3, 9] [] 26 (.bool ((decide (x1 < j279)) && b296))] z294 d294 ?_ ?_
    ·exact sM e294_7 <| sM e294_1 <| sF (fun f => or_gtr f.1 f.2.1 rfl) <| sV <| cT (fun _ s _ _ => or_field fo122_0 (s.1.trans e294_3) (by rfl)) <| cT (fun f _ hE hg => ld1 to100 (f.2.1.1 hg) (be_ hE b294_g159)) <| cT (fun _ s _ _ => or_move (s.1.trans e294_7)) <| cT (fun _ s _ _ => or_move (s.1.trans e294_7)) <| cT (fun f _ _ hg => or_sub (f.2.1.1 hg) rfl rfl) <| cT (fun f _ hE hg => or_callf cf48 (f.2.1.1 hg) (args2 (f.2.2.1.1 hg) (f.2.2.2.1.1 hg)) rfl (hL _ _ _ _ _ _ _ (SoO.evo (by decide) hE b294_Jx) (gd_t hb296 hg)) post_val) <| sF (fun f => or_and f.1 (fun hx => f.2.1.1 hx) rfl rfl) <| steps_nil
    intro o297 a297 w297 d297 z297 hk297 hf297 hE297
    obtain ⟨e297_1, e297_2, e297_3, e297_6, e297_7⟩ := kt5 hk297 e294_1 e294_2 e294_3 e294_6 e294_7
    have e297_26 := gv (hf297 [10] rfl) rfl
    have hX297 := Evo.step hE294 hown hE297 rfl
    have b297_g159 := be_ hE297 b294_g159
    have b297_Jx := SoO.evo (by decide) hE297 b294_Jx
    refine fl_cond e297_26 hs (fun c298 hs => ?_) (fun c298 hs => ?_)
    ·refine fl_skip ?_
     refine hn295 _ _ ?_
     refine fl_seq (fun Q299 hn299 hp299 => ?_)
     refine fl_block (fun Q300 hn300 hx300 hp300 => ?_)
     obtain ⟨l301, hl301, hs⟩ := obind hs
     refine rr 35 [Fct.soAt Jx 281 l280] o297 [281] [0, 1, 0, 0, 8, 31] [dv [] [3] 29 (pt g159 1), dv [0] [] 30 (.func (.func 71) #[] #[sv, th]), dv [] [7] 31 (Zi j279), dv [] [7] 32 (Zi j279), dv [3] [] 33 (Zi (sb j279 1)), ⟨[1, 2, 4, 6], [], [281], Fct.so Jx 302 34 l301⟩] z297 d297 (fm1 b297_Jx) ?_ ?_
     ·refine sS (fun s => or_field fo122_1 (s.1.trans e297_3) (by rfl)) <| sG to117 b297_g159 <| sM e297_7 <| sM e297_7 <| sF (fun f => or_sub f.1 rfl rfl) ?_
      refine sc (fun own a wx hf hsl hE => ?_) ?_
      ·obtain ⟨f_30, f_31, f_33, b_Jx, -⟩ := hf
       exact px (or_sswap (lab := 281) (lab2 := 302) f_30 (args2 f_31 f_33) hS b_Jx (by decide) hl301 (mem_of rfl))
      exact steps_nil
     intro o303 a303 w303 d303 z303 hk303 hf303 hE303
     obtain ⟨e303_1, e303_2, e303_3, e303_6, e303_7⟩ := kt5 hk303 e297_1 e297_2 e297_3 e297_6 e297_7
     obtain ⟨⟨(f_34 : a303.eval (.tmp 34) = .tuple #[]), (b303_Jx : SoO Jx o303 302 w303 l301)⟩, -⟩ := hf303 [5] rfl
     have hX303 := Evo.step hX297 hown hE303 rfl
     have b303_g159 := be_ hE303 b297_g159
     refine hn300 _ _ ?_
     refine hn299 _ _ ?_
     refine rq 35 o303 (bz 3) [dv [] [7] 27 (Zi j279), dv [0] [] 28 (Zi (sb j279 1)), dv [1] [] 7 (Zi (sb j279 1))] z303 d303 ?_ ?_
     ·exact sM e303_7 <| sF (fun f => or_sub f.1 rfl rfl) <| sA <| steps_nil
     intro o304 a304 w304 d304 z304 hk304 hf304 hE304
     obtain ⟨e304_1, e304_2, e304_3, e304_6⟩ := kt4 hk304 e303_1 e303_2 e303_3 e303_6
     have e304_7 := gv (hf304 [2] rfl) rfl
     have hX304 := Evo.step hX303 hown hE304 rfl
     have b304_g159 := be_ hE304 b303_g159
     have b304_Jx := SoO.evo (by decide) hE304 b303_Jx
     exact hn293 _ _ _ hs ⟨(rl [(302, 281)] o304), d304, z304, e304_1, e304_2, e304_3, e304_6, e304_7, (Evo.rl_ hX304 hown rfl), (BlkO.rl_ b304_g159), (SoO.rl_ b304_Jx)⟩
    refine fl_exit ?_
    refine hp295 _ _ _ rfl ?_
    replace hs := z293 _ hs
    refine hp293 _ _ _ rfl ?_
    refine hx267 _ _ ?_
    refine hn265 _ _ ?_
    refine hn264 _ _ ?_
    refine rq 35 o297 (bz 3) [dv [] [6] 13 (Zi i210), dv [0] [] 14 (Zi (ad i210 1)), dv [1] [] 6 (Zi (ad i210 1))] z297 d297 ?_ ?_
    ·exact sM e297_6 <| sF (fun f => or_add f.1 rfl rfl) <| sA <| steps_nil
    intro o305 a305 w305 d305 z305 hk305 hf305 hE305
    obtain ⟨e305_1, e305_2, e305_3⟩ := kt3 hk305 e297_1 e297_2 e297_3
    have e305_6 := gv (hf305 [2] rfl) rfl
    have hX305 := Evo.step hX297 hown hE305 rfl
    have b305_g159 := be_ hE305 b297_g159
    have b305_Jx := SoO.evo (by decide) hE305 b297_Jx
    exact hn259 _ _ _ hs ⟨(rl [(281, 212)] o305), d305, z305, e305_1, e305_2, e305_3, e305_6, (Evo.rl_ hX305 hown rfl), (BlkO.rl_ b305_g159), (SoO.rl_ b305_Jx)⟩
  refine fl_exit ?_
  refine hp261 _ _ _ rfl ?_
  replace hs := z259 _ hs
  refine hp259 _ _ _ rfl ?_
  refine hx163 _ _ ?_
  obtain rfl := (osome hs).symm
  exact hret _ _ _ _ (.inr rfl) d262 (results0_ rfl ) ⟨(rl [(212, 1)] o262), rfl, (Evo.rl_ hX262 hown rfl), (SoO.rl_ b262_Jx)⟩
theorem sort_siftDown_func_w (w : World) (own : Own) (Tx : Type) (lf : List Tx → Int → Int → Option Bool) (ca : Value) (sv : Value) (th : Value) (l0 : List Tx) (Jx : Sj (List Tx)) (lo1 : Int) (hi2 : Int) (first3 : Int) (hown : ∀ b, own b ≤ 1) (hL : LessS Try.prog 48 ca lf Jx) (hS : SwapS Try.prog 71 sv th Jx) (hJx : SoO Jx own 1 w l0) (r : List Tx) (hs : sort_siftDown_func Tx lf l0 lo1 hi2 first3 = some r) :
  Calls Try.prog 83 #[.agg #[.func (.func 48) #[] #[ca], .func (.func 71) #[] #[sv, th]], Zi lo1, Zi hi2, Zi first3] w fun e w' => ∃ (own' : Own), e = .returned (.tuple #[]) ∧ Evo [1] own own' w w' ∧ SoO Jx own' 1 w' r := by
 refine fl_enter (n := 55) rfl rfl rfl (Nat.le_of_ble_eq_true rfl) ?_
 intro a0 Q d0 z0 harg hret
 have ha0 := harg 0 _ rfl
 have ha1 := harg 1 _ rfl
 have ha2 := harg 2 _ rfl
 have ha3 := harg 3 _ rfl
 clear harg
 have hE0 : Evo [1] own own w w := Evo.refl _ _ _
 refine rq_seq 55 own (bz 1) [⟨[], [0], [], Fct.blk 110 4 (fun g => pt g 0) 122 #[.func (.func 48) #[] #[ca], .func (.func 71) #[] #[sv, th]]⟩] z0 d0 ?_ ?_
 ·exact sS (fun s => nw1 (s.1.trans ha0)) <| steps_nil
 intro o111 a111 w111 d111 z111 hk111 hf111 hE111
 obtain ⟨e111_1, e111_2, e111_3⟩ := kt3 hk111 ha1 ha2 ha3
 obtain ⟨⟨g109, (e111_4 : a111.eval (.tmp 4) = pt g109 0), (b111_g109 : BlkO o111 110 w111 g109 122 #[.func (.func 48) #[] #[ca], .func (.func 71) #[] #[sv, th]])⟩, -⟩ := hf111 [0] rfl
 have hX111 := Evo.step hE0 hown hE111 rfl
 have b111_Jx := SoO.evo (by decide) hE111 hJx
 refine rq_seq 55 o111 (bz 2) [dv [] [1] 10 (Zi lo1), dv [0] [] 8 (Zi lo1)] z111 d111 ?_ ?_
 ·exact sM e111_1 <| sA <| steps_nil
 intro o112 a112 w112 d112 z112 hk112 hf112 hE112
 obtain ⟨e112_2, e112_3, e112_4⟩ := kt3 hk112 e111_2 e111_3 e111_4
 have e112_8 := gv (hf112 [1] rfl) rfl
 have hX112 := Evo.step hX111 hown hE112 rfl
 have b112_Jx := SoO.evo (by decide) hE112 b111_Jx
 have b112_g109 := be_ hE112 b111_g109
 refine fl_block (fun Q113 hn113 hx113 hp113 => ?_)
 refine fl_loop (body := (fun s => sort_siftDown_func_b1 Tx lf hi2 first3 s.1 s.2)) (z := r) (show loopO _ _ = _ from hs) (fun (s : Int × (List Tx)) a wx => match s with | (root142, l143) => ∃ (ox : Own), a.defers = [] ∧ a.tmps.size = 55 ∧ a.eval (.tmp 2) = Zi hi2 ∧ a.eval (.tmp 3) = Zi first3 ∧ a.eval (.tmp 4) = pt g109 0 ∧ a.eval (.tmp 8) = Zi root142 ∧ Evo [1] own ox w wx ∧ BlkO ox 110 wx g109 122 #[.func (.func 48) #[] #[ca], .func (.func 71) #[] #[sv, th]] ∧ SoO Jx ox 144 wx l143) ?_ ?_
 ·exact ⟨(rl [(1, 144)] o112), d112, z112, e112_2, e112_3, e112_4, e112_8, (Evo.rl_ hX112 hown rfl), (BlkO.rl_ b112_g109), (SoO.rl_ b112_Jx)⟩
 ·rintro ⟨root142, l143⟩ zz175 a175 w175 ⟨o175, d176, z176, e176_2, e176_3, e176_4, e176_8, hE176, b176_g109, b176_Jx⟩ hs Q175 hn175 hp175 z175
  have hs : sort_siftDown_func_b1 Tx lf hi2 first3 root142 l143 = some zz175 := hs
  refine fl_block (fun Q177 hn177 hx177 hp177 => ?_)
  refine rq_seq 55 o175 (bz 4) [dv [] [8] 11 (Zi root142), dv [0] [] 12 (Zi (ml 2 root142)), dv [1] [] 13 (Zi (ad (ml 2 root142) 1)), dv [2] [] 9 (Zi (ad (ml 2 root142) 1))] z176 d176 ?_ ?_
  ·exact sM e176_8 <| sF (fun f => or_mul rfl f.1 rfl) <| sF (fun f => or_add f.1 rfl rfl) <| sA <| steps_nil
  intro o178 a178 w178 d178 z178 hk178 hf178 hE178
  obtain ⟨e178_2, e178_3, e178_4, e178_8⟩ := kt4 hk178 e176_2 e176_3 e176_4 e176_8
  have e178_9 := gv (hf178 [3] rfl) rfl
  have hX178 := Evo.step hE176 hown hE178 rfl
  have b178_g109 := be_ hE178 b176_g109
  have b178_Jx := SoO.evo (by decide) hE178 b176_Jx
  refine fl_seq (fun Q179 hn179 hp179 => ?_)
  refine rq_seq 55 o178 [0, 0, 3] [dv [] [9] 14 (Zi (ad (ml 2 root142) 1)), dv [] [2] 15 (Zi hi2), dv [0, 1] [] 16 (.bool (decide (hi2 ≤ (ad (ml 2 root142) 1))))] z178 d178 ?_ ?_
  ·exact sM e178_9 <| sM e178_2 <| sF (fun f => or_geq f.1 f.2.1 rfl) <| steps_nil
  intro o180 a180 w180 d180 z180 hk180 hf180 hE180
  obtain ⟨e180_2, e180_3, e180_4, e180_8, e180_9⟩ := kt5 hk180 e178_2 e178_3 e178_4 e178_8 e178_9
  have e180_16 := gv (hf180 [2] rfl) rfl
  have hX180 := Evo.step hX178 hown hE180 rfl
  have b180_g109 := be_ hE180 b178_g109
  have b180_Jx := SoO.evo (by decide) hE180 b178_Jx
  refine fl_cond e180_16 hs (fun c181 hs => ?_) (fun c181 hs => ?_)
  ·refine fl_exit ?_
   refine hp179 _ _ _ rfl ?_
   refine hp177 _ _ _ rfl ?_
   replace hs := z175 _ hs
   refine hp175 _ _ _ rfl ?_
   refine hx113 _ _ ?_
   obtain rfl := (osome hs).symm
   exact hret _ _ _ _ (.inr rfl) d180 (results0_ rfl ) ⟨(rl [(144, 1)] o180), rfl, (Evo.rl_ hX180 hown rfl), (SoO.rl_ b180_Jx)⟩
  refine fl_skip ?_
  refine hn179 _ _ ?_
  refine fl_seq (fun Q182 hn182 hp182 => ?_)
  have K190 : ∀ (a190 : Act) (w190 : World) (o190 : Own) (child189 : Int), a190.defers = [] → a190.tmps.size = 55 → a190.eval (.tmp 2) = Zi hi2 → a190.eval (.tmp 3) = Zi first3 → a190.eval (.tmp 4) = pt g109 0 → a190.eval (.tmp 8) = Zi root142 → a190.eval (.tmp 9) = Zi child189 → Evo [1] own o190 w w190 → BlkO o190 110 w190 g109 122 #[.func (.func 48) #[] #[ca], .func (.func 71) #[] #[sv, th]] → SoO Jx o190 144 w190 l143 → sort_siftDown_func_k2 Tx lf first3 root142 l143 child189 = some zz175 → Q182 .normal a190 w190 := by
   intro a190 w190 o190 child189 d191 z191 e191_2 e191_3 e191_4 e191_8 e191_9 hE191 b191_g109 b191_Jx hs
   refine hn182 _ _ ?_
   refine fl_seq (fun Q192 hn192 hp192 => ?_)
   obtain ⟨b193, hb193, hs⟩ := obind hs
   refine rq_seq 55 o190 [0, 1, 0, 0, 12, 0, 0, 96, 255, 511] [dv [] [4] 35 (pt g109 0), dv [0] [] 36 (.func (.func 48) #[] #[ca]), dv [] [3] 37 (Zi first3), dv [] [8] 38 (Zi root142), dv [2, 3] [] 39 (Zi (ad first3 root142)), dv [] [3] 40 (Zi first3), dv [] [9] 41 (Zi child189), dv [5, 6] [] 42 (Zi (ad first3 child189)), dv [1, 4, 7] [] 43 (.bool b193), dv [8] [] 44 (.bool (!b193))] z191 d191 ?_ ?_
   ·exact sS (fun s => or_field fo122_0 (s.1.trans e191_4) (by rfl)) <| sG to100 b191_g109 <| sM e191_3 <| sM e191_8 <| sF (fun f => or_add f.1 f.2.1 rfl) <| sM e191_3 <| sM e191_9 <| sF (fun f => or_add f.1 f.2.1 rfl) <| sFE (fun f hE => or_callf cf48 f.1 (args2 f.2.1 f.2.2.1) rfl (hL _ _ _ _ _ _ _ (SoO.evo (by decide) hE b191_Jx) hb193) post_val) <| sF (fun f => or_not f.1 rfl) <| steps_nil
   intro o194 a194 w194 d194 z194 hk194 hf194 hE194
   obtain ⟨e194_2, e194_3, e194_4, e194_8, e194_9⟩ := kt5 hk194 e191_2 e191_3 e191_4 e191_8 e191_9
   have e194_44 := gv (hf194 [9] rfl) rfl
   have hX194 := Evo.step hE191 hown hE194 rfl
   have b194_g109 := be_ hE194 b191_g109
   have b194_Jx := SoO.evo (by decide) hE194 b191_Jx
   refine fl_cond e194_44 hs (fun c195 hs => ?_) (fun c195 hs => ?_)
   ·refine fl_ret ?_
    refine hp192 _ _ _ rfl ?_
    refine hp177 _ _ _ rfl ?_
    replace hs := z175 _ hs
    refine hp175 _ _ _ rfl ?_
    refine hp113 _ _ _ rfl ?_
    obtain rfl := (osome hs).symm
    exact hret _ _ _ _ (.inl rfl) d194 (results0_ rfl ) ⟨(rl [(144, 1)] o194), rfl, (Evo.rl_ hX194 hown rfl), (SoO.rl_ b194_Jx)⟩
   refine fl_skip ?_
   refine hn192 _ _ ?_
   obtain ⟨l196, hl196, hs⟩ := obind hs
   refine rr_seq 55 [Fct.soAt Jx 144 l143] o194 [144] [0, 1, 0, 0, 12, 0, 0, 96, 255] [dv [] [4] 45 (pt g109 1), dv [0] [] 46 (.func (.func 71) #[] #[sv, th]), dv [] [3] 47 (Zi first3), dv [] [8] 48 (Zi root142), dv [2, 3] [] 49 (Zi (ad first3 root142)), dv [] [3] 50 (Zi first3), dv [] [9] 51 (Zi child189), dv [5, 6] [] 52 (Zi (ad first3 child189)), ⟨[1, 4, 7, 9], [], [144], Fct.so Jx 197 53 l196⟩] z194 d194 (fm1 b194_Jx) ?_ ?_
   ·refine sS (fun s => or_field fo122_1 (s.1.trans e194_4) (by rfl)) <| sG to117 b194_g109 <| sM e194_3 <| sM e194_8 <| sF (fun f => or_add f.1 f.2.1 rfl) <| sM e194_3 <| sM e194_9 <| sF (fun f => or_add f.1 f.2.1 rfl) ?_
    refine sc (fun own a wx hf hsl hE => ?_) ?_
    ·obtain ⟨f_46, f_49, f_52, b_Jx, -⟩ := hf
     exact px (or_sswap (lab := 144) (lab2 := 197) f_46 (args2 f_49 f_52) hS b_Jx (by decide) hl196 (mem_of rfl))
    exact steps_nil
   intro o198 a198 w198 d198 z198 hk198 hf198 hE198
   obtain ⟨e198_2, e198_3, e198_4, e198_9⟩ := kt4 hk198 e194_2 e194_3 e194_4 e194_9
   obtain ⟨⟨(f_53 : a198.eval (.tmp 53) = .tuple #[]), (b198_Jx : SoO Jx o198 197 w198 l196)⟩, -⟩ := hf198 [8] rfl
   have hX198 := Evo.step hX194 hown hE198 rfl
   have b198_g109 := be_ hE198 b194_g109
   refine rq 55 o198 (bz 2) [dv [] [9] 54 (Zi child189), dv [0] [] 8 (Zi child189)] z198 d198 ?_ ?_
   ·exact sM e198_9 <| sA <| steps_nil
   intro o199 a199 w199 d199 z199 hk199 hf199 hE199
   obtain ⟨e199_2, e199_3, e199_4⟩ := kt3 hk199 e198_2 e198_3 e198_4
   have e199_8 := gv (hf199 [1] rfl) rfl
   have hX199 := Evo.step hX198 hown hE199 rfl
   have b199_g109 := be_ hE199 b198_g109
   have b199_Jx := SoO.evo (by decide) hE199 b198_Jx
   refine hn177 _ _ ?_
   exact hn175 _ _ _ hs ⟨(rl [(197, 144)] o199), d199, z199, e199_2, e199_3, e199_4, e199_8, (Evo.rl_ hX199 hown rfl), (BlkO.rl_ b199_g109), (SoO.rl_ b199_Jx)⟩
  obtain ⟨x200, hx200, hs⟩ := obind hs
  obtain ⟨b201, hb201, hs⟩ := obind hs
  obtain ⟨x202, hx202, hs⟩ := obind hs
  refine rq_seq 55 o180 [0, 1, 0, 7, 15, 31, 63, 31, 31, 415, 31, 31, 3103, 7199, 16383, 32767] [dv [] [9] 17 (Zi (ad (ml 2 root142) 1)), dv [0] [] 18 (Zi (ad (ad (ml 2 root142) 1) 1)), dv [] [2] 19 (Zi hi2), dv [1, 2] [] 20 (.bool (decide ((ad (ad (ml 2 root142) 1) 1) < hi2))), dv [3] [] 21 (.bool (decide ((ad (ad (ml 2 root142) 1) 1) < hi2))), dc [4] [4] (decide ((ad (ad (ml 2 root142) 1) 1) < hi2)) 22 (pt g109 0), dc [4, 5] [] (decide ((ad (ad (ml 2 root142) 1) 1) < hi2)) 23 (.func (.func 48) #[] #[ca]), dc [4] [3] (decide ((ad (ad (ml 2 root142) 1) 1) < hi2)) 24 (Zi first3), dc [4] [9] (decide ((ad (ad (ml 2 root142) 1) 1) < hi2)) 25 (Zi (ad (ml 2 root142) 1)), dc [4, 7, 8] [] (decide ((ad (ad (ml 2 root142) 1) 1) < hi2)) 26 (Zi (ad first3 (ad (ml 2 root142) 1))), dc [4] [3] (decide ((ad (ad (ml 2 root142) 1) 1) < hi2)) 27 (Zi first3), dc [4] [9] (decide ((ad (ad (ml 2 root142) 1) 1) < hi2)) 28 (Zi (ad (ml 2 root142) 1)), dc [4, 10, 11] [] (decide ((ad (ad (ml 2 root142) 1) 1) < hi2)) 29 (Zi (ad first3 (ad (ml 2 root142) 1))), dc [4, 12] [] (decide ((ad (ad (ml 2 root142) 1) 1) < hi2)) 30 (Zi x200), dc [4, 6, 9, 13] [] (decide ((ad (ad (ml 2 root142) 1) 1) < hi2)) 31 (.bool b201), dv [4, 14] [] 32 (.bool x202)] z180 d180 ?_ ?_
  ·exact sM e180_9 <| sF (fun f => or_add f.1 rfl rfl) <| sM e180_2 <| sF (fun f => or_lss f.1 f.2.1 rfl) <| sV <| cT (fun _ s _ _ => or_field fo122_0 (s.1.trans e180_4) (by rfl)) <| cT (fun f _ hE hg => ld1 to100 (f.2.1.1 hg) (be_ hE b180_g109)) <| cT (fun _ s _ _ => or_move (s.1.trans e180_3)) <| cT (fun _ s _ _ => or_move (s.1.trans e180_9)) <| cT (fun f _ _ hg => or_add (f.2.1.1 hg) (f.2.2.1.1 hg) rfl) <| cT (fun _ s _ _ => or_move (s.1.trans e180_3)) <| cT (fun _ s _ _ => or_move (s.1.trans e180_9)) <| cT (fun f _ _ hg => or_add (f.2.1.1 hg) (f.2.2.1.1 hg) rfl) <| cT (fun f _ _ hg => or_add (f.2.1.1 hg) rfl (osome hx200).symm) <| cT (fun f _ hE hg => or_callf cf48 (f.2.1.1 hg) (args2 (f.2.2.1.1 hg) (f.2.2.2.1.1 hg)) rfl (hL _ _ _ _ _ _ _ (SoO.evo (by decide) hE b180_Jx) (gd_t hb201 hg)) post_val) <| sF (fun f => or_and f.1 (fun hx => f.2.1.1 hx) rfl (osome hx202).symm) <| steps_nil
  intro o203 a203 w203 d203 z203 hk203 hf203 hE203
  obtain ⟨e203_2, e203_3, e203_4, e203_8, e203_9⟩ := kt5 hk203 e180_2 e180_3 e180_4 e180_8 e180_9
  have e203_32 := gv (hf203 [15] rfl) rfl
  have hX203 := Evo.step hX180 hown hE203 rfl
  have b203_g109 := be_ hE203 b180_g109
  have b203_Jx := SoO.evo (by decide) hE203 b180_Jx
  refine fl_cond e203_32 hs (fun c204 hs => ?_) (fun c204 hs => ?_)
  ·refine rq 55 o203 (bz 3) [dv [] [9] 33 (Zi (ad (ml 2 root142) 1)), dv [0] [] 34 (Zi (ad (ad (ml 2 root142) 1) 1)), dv [1] [] 9 (Zi (ad (ad (ml 2 root142) 1) 1))] z203 d203 ?_ ?_
   ·exact sM e203_9 <| sF (fun f => or_add f.1 rfl rfl) <| sA <| steps_nil
   intro o205 a205 w205 d205 z205 hk205 hf205 hE205
   obtain ⟨e205_2, e205_3, e205_4, e205_8⟩ := kt4 hk205 e203_2 e203_3 e203_4 e203_8
   have e205_9 := gv (hf205 [2] rfl) rfl
   have hX205 := Evo.step hX203 hown hE205 rfl
   have b205_g109 := be_ hE205 b203_g109
   have b205_Jx := SoO.evo (by decide) hE205 b203_Jx
   exact (K190 _ _ o205 _ d205 z205 e205_2 e205_3 e205_4 e205_8 e205_9 hX205 b205_g109 b205_Jx hs)
  refine fl_skip ?_
  exact (K190 _ _ o203 _ d203 z203 e203_2 e203_3 e203_4 e203_8 e203_9 hX203 b203_g109 b203_Jx hs)
theorem sort_heapSort_func_w (w : World) (own : Own) (Tx : Type) (lf : List Tx → Int → Int → Option Bool) (ca : Value) (sv : Value) (th : Value) (l0 : List Tx) (Jx : Sj (List Tx)) (x1 : Int) (b2 : Int) (hown : ∀ b, own b ≤ 1) (hL : LessS Try.prog 48 ca lf Jx) (hS : SwapS Try.prog 71 sv th Jx) (hJx : SoO Jx own 1 w l0) (r : List Tx) (hs : sort_heapSort_func Tx lf l0 x1 b2 = some r) :
  Calls Try.prog 75 #[.agg #[.func (.func 48) #[] #[ca], .func (.func 71) #[] #[sv, th]], Zi x1, Zi b2] w fun e w' => ∃ (own' : Own), e = .returned (.tuple #[]) ∧ Evo [1] own own' w w' ∧ SoO Jx own' 1 w' r := by
 refine fl_enter (n := 45) rfl rfl rfl (Nat.le_of_ble_eq_true rfl) ?_
 intro a0 Q d0 z0 harg hret
 have ha0 := harg 0 _ rfl
 have ha1 := harg 1 _ rfl
 have ha2 := harg 2 _ rfl
 clear harg
 have hE0 : Evo [1] own own w w := Evo.refl _ _ _
 refine rq_seq 45 own (bz 1) [⟨[], [0], [], Fct.blk 102 3 (fun g => pt g 0) 122 #[.func (.func 48) #[] #[ca], .func (.func 71) #[] #[sv, th]]⟩] z0 d0 ?_ ?_
 ·exact sS (fun s => nw1 (s.1.trans ha0)) <| steps_nil
 intro o103 a103 w103 d103 z103 hk103 hf103 hE103
 obtain ⟨e103_1, e103_2⟩ := kt2 hk103 ha1 ha2
 obtain ⟨⟨g101, (e103_3 : a103.eval (.tmp 3) = pt g101 0), (b103_g101 : BlkO o103 102 w103 g101 122 #[.func (.func 48) #[] #[ca], .func (.func 71) #[] #[sv, th]])⟩, -⟩ := hf103 [0] rfl
 have hX103 := Evo.step hE0 hown hE103 rfl
 have b103_Jx := SoO.evo (by decide) hE103 hJx
 refine rq_seq 45 o103 (bz 2) [dv [] [1] 11 (Zi x1), dv [0] [] 6 (Zi x1)] z103 d103 ?_ ?_
 ·exact sM e103_1 <| sA <| steps_nil
 intro o104 a104 w104 d104 z104 hk104 hf104 hE104
 obtain ⟨e104_1, e104_2, e104_3⟩ := kt3 hk104 e103_1 e103_2 e103_3
 have e104_6 := gv (hf104 [1] rfl) rfl
 have hX104 := Evo.step hX103 hown hE104 rfl
 have b104_Jx := SoO.evo (by decide) hE104 b103_Jx
 have b104_g101 := be_ hE104 b103_g101
 refine rq_seq 45 o104 (bz 1) [dv [] [] 7 (Zi 0)] z104 d104 ?_ ?_
 ·exact sO (or_assign rfl) <| steps_nil
 intro o105 a105 w105 d105 z105 hk105 hf105 hE105
 obtain ⟨e105_1, e105_2, e105_3, e105_6⟩ := kt4 hk105 e104_1 e104_2 e104_3 e104_6
 have e105_7 := gv (hf105 [0] rfl) rfl
 have hX105 := Evo.step hX104 hown hE105 rfl
 have b105_Jx := SoO.evo (by decide) hE105 b104_Jx
 have b105_g101 := be_ hE105 b104_g101
 refine rq_seq 45 o105 [0, 0, 3, 7] [dv [] [2] 12 (Zi b2), dv [] [1] 13 (Zi x1), dv [0, 1] [] 14 (Zi (sb b2 x1)), dv [2] [] 8 (Zi (sb b2 x1))] z105 d105 ?_ ?_
 ·exact sM e105_2 <| sM e105_1 <| sF (fun f => or_sub f.1 f.2.1 rfl) <| sA <| steps_nil
 intro o106 a106 w106 d106 z106 hk106 hf106 hE106
 obtain ⟨e106_3, e106_6, e106_7⟩ := kt3 hk106 e105_3 e105_6 e105_7
 have e106_8 := gv (hf106 [3] rfl) rfl
 have hX106 := Evo.step hX105 hown hE106 rfl
 have b106_Jx := SoO.evo (by decide) hE106 b105_Jx
 have b106_g101 := be_ hE106 b105_g101
 refine fl_seq (fun Q107 hn107 hp107 => ?_)
 obtain ⟨x108, hx108, hs⟩ := obind hs
 refine rq_seq 45 o106 (bz 4) [dv [] [8] 15 (Zi (sb b2 x1)), dv [0] [] 16 (Zi (sb (sb b2 x1) 1)), dv [1] [] 17 (Zi x108), dv [2] [] 9 (Zi x108)] z106 d106 ?_ ?_
 ·exact sM e106_8 <| sF (fun f => or_sub f.1 rfl rfl) <| sF (fun f => or_quo f.1 rfl hx108) <| sA <| steps_nil
 intro o109 a109 w109 d109 z109 hk109 hf109 hE109
 obtain ⟨e109_3, e109_6, e109_7, e109_8⟩ := kt4 hk109 e106_3 e106_6 e106_7 e106_8
 have e109_9 := gv (hf109 [3] rfl) rfl
 have hX109 := Evo.step hX106 hown hE109 rfl
 have b109_Jx := SoO.evo (by decide) hE109 b106_Jx
 have b109_g101 := be_ hE109 b106_g101
 refine fl_block (fun Q110 hn110 hx110 hp110 => ?_)
 refine fl_loop (body := (fun s => sort_heapSort_func_b1 Tx lf x1 b2 s.1 s.2)) (z := r) (show loopO _ _ = _ from hs) (fun (s : Int × (List Tx)) a wx => match s with | (i121, l122) => ∃ (ox : Own), a.defers = [] ∧ a.tmps.size = 45 ∧ a.eval (.tmp 3) = pt g101 0 ∧ a.eval (.tmp 6) = Zi x1 ∧ a.eval (.tmp 7) = Zi 0 ∧ a.eval (.tmp 8) = Zi (sb b2 x1) ∧ a.eval (.tmp 9) = Zi i121 ∧ Evo [1] own ox w wx ∧ BlkO ox 102 wx g101 122 #[.func (.func 48) #[] #[ca], .func (.func 71) #[] #[sv, th]] ∧ SoO Jx ox 123 wx l122) ?_ ?_
 ·exact ⟨(rl [(1, 123)] o109), d109, z109, e109_3, e109_6, e109_7, e109_8, e109_9, (Evo.rl_ hX109 hown rfl), (BlkO.rl_ b109_g101), (SoO.rl_ b109_Jx)⟩
 ·rintro ⟨i121, l122⟩ zz134 a134 w134 ⟨o134, d135, z135, e135_3, e135_6, e135_7, e135_8, e135_9, hE135, b135_g101, b135_Jx⟩ hs Q134 hn134 hp134 z134
  have hs : sort_heapSort_func_b1 Tx lf x1 b2 i121 l122 = some zz134 := hs
  refine fl_seq (fun Q136 hn136 hp136 => ?_)
  refine rq_seq 45 o134 (bz 2) [dv [] [9] 18 (Zi i121), dv [0] [] 19 (.bool (decide (0 ≤ i121)))] z135 d135 ?_ ?_
  ·exact sM e135_9 <| sF (fun f => or_geq f.1 rfl rfl) <| steps_nil
  intro o137 a137 w137 d137 z137 hk137 hf137 hE137
  obtain ⟨e137_3, e137_6, e137_7, e137_8, e137_9⟩ := kt5 hk137 e135_3 e135_6 e135_7 e135_8 e135_9
  have e137_19 := gv (hf137 [1] rfl) rfl
  have hX137 := Evo.step hE135 hown hE137 rfl
  have b137_g101 := be_ hE137 b135_g101
  have b137_Jx := SoO.evo (by decide) hE137 b135_Jx
  refine fl_cond e137_19 hs (fun c138 hs => ?_) (fun c138 hs => ?_)
  ·refine fl_skip ?_
   refine hn136 _ _ ?_
   refine fl_seq (fun Q139 hn139 hp139 => ?_)
   refine fl_block (fun Q140 hn140 hx140 hp140 => ?_)
   obtain ⟨r141, hr141, hs⟩ := obind hs
   refine rr 45 [Fct.soAt Jx 123 l122] o137 [123] [0, 0, 0, 0, 15] [dv [] [3] 22 (.agg #[.func (.func 48) #[] #[ca], .func (.func 71) #[] #[sv, th]]), dv [] [9] 23 (Zi i121), dv [] [8] 24 (Zi (sb b2 x1)), dv [] [6] 25 (Zi x1), ⟨[0, 1, 2, 3, 5], [], [123], Fct.mems [142] 26 (fun (_ : Unit) => .tuple #[]) (fun (_ : Unit) own w => SoO Jx own 142 w r141) (fun hk he h => SoO.evo (not_hit hk (by decide)) he h)⟩] z137 d137 (fm1 b137_Jx) ?_ ?_
   ·refine sL ta122 e137_3 b137_g101 <| sM e137_9 <| sM e137_8 <| sM e137_6 ?_
    refine sc (fun own a wx hf hsl hE => ?_) ?_
    ·obtain ⟨f_22, f_23, f_24, f_25, b_Jx, -⟩ := hf
     exact px (or_call cf83 (args4 f_22 f_23 f_24 f_25) (sort_siftDown_func_w _ (forth own (look0 [(123, 1)])) Tx lf ca sv th l122 Jx i121 (sb b2 x1) x1 (look0_le rfl) hL hS (SoO.forth_ (m := (look0 [(123, 1)])) b_Jx) r141 hr141) (post_mems0 (m := (look0 [(123, 1)])) (m' := (look0 [(1, 142)])) (hm_of rfl) (fun own' w' a' h1 h => ⟨(), h1, SoO.back_ h (by decide)⟩)))
    exact steps_nil
   intro o143 a143 w143 d143 z143 hk143 hf143 hE143
   obtain ⟨e143_3, e143_6, e143_7, e143_8, e143_9⟩ := kt5 hk143 e137_3 e137_6 e137_7 e137_8 e137_9
   obtain ⟨⟨_, (f_26 : a143.eval (.tmp 26) = .tuple #[]), (b143_Jx : SoO Jx o143 142 w143 r141)⟩, -⟩ := hf143 [4] rfl
   have hX143 := Evo.step hX137 hown hE143 rfl
   have b143_g101 := be_ hE143 b137_g101
   refine hn140 _ _ ?_
   refine hn139 _ _ ?_
   refine rq 45 o143 (bz 3) [dv [] [9] 20 (Zi i121), dv [0] [] 21 (Zi (sb i121 1)), dv [1] [] 9 (Zi (sb i121 1))] z143 d143 ?_ ?_
   ·exact sM e143_9 <| sF (fun f => or_sub f.1 rfl rfl) <| sA <| steps_nil
   intro o144 a144 w144 d144 z144 hk144 hf144 hE144
   obtain ⟨e144_3, e144_6, e144_7, e144_8⟩ := kt4 hk144 e143_3 e143_6 e143_7 e143_8
   have e144_9 := gv (hf144 [2] rfl) rfl
   have hX144 := Evo.step hX143 hown hE144 rfl
   have b144_g101 := be_ hE144 b143_g101
   have b144_Jx := SoO.evo (by decide) hE144 b143_Jx
   exact hn134 _ _ _ hs ⟨(rl [(142, 123)] o144), d144, z144, e144_3, e144_6, e144_7, e144_8, e144_9, (Evo.rl_ hX144 hown rfl), (BlkO.rl_ b144_g101), (SoO.rl_ b144_Jx)⟩
  refine fl_exit ?_
  refine hp136 _ _ _ rfl ?_
  replace hs := z134 _ hs
  refine hp134 _ _ _ rfl ?_
  refine hx110 _ _ ?_
  refine hn107 _ _ ?_
  refine rq_seq 45 o137 (bz 3) [dv [] [8] 27 (Zi (sb b2 x1)), dv [0] [] 28 (Zi (sb (sb b2 x1) 1)), dv [1] [] 10 (Zi (sb (sb b2 x1) 1))] z137 d137 ?_ ?_
  ·exact sM e137_8 <| sF (fun f => or_sub f.1 rfl rfl) <| sA <| steps_nil
  intro o145 a145 w145 d145 z145 hk145 hf145 hE145
  obtain ⟨e145_3, e145_6, e145_7⟩ := kt3 hk145 e137_3 e137_6 e137_7
  have e145_10 := gv (hf145 [2] rfl) rfl
  have hX145 := Evo.step hX137 hown hE145 rfl
  have b145_g101 := be_ hE145 b137_g101
  have b145_Jx := SoO.evo (by decide) hE145 b137_Jx
  refine fl_block (fun Q146 hn146 hx146 hp146 => ?_)
  refine fl_loop (body := (fun s => sort_heapSort_func_b2 Tx lf x1 s.1 s.2)) (z := r) (show loopO _ _ = _ from hs) (fun (s : Int × (List Tx)) a wx => match s with | (i160, l161) => ∃ (ox : Own), a.defers = [] ∧ a.tmps.size = 45 ∧ a.eval (.tmp 3) = pt g101 0 ∧ a.eval (.tmp 6) = Zi x1 ∧ a.eval (.tmp 7) = Zi 0 ∧ a.eval (.tmp 10) = Zi i160 ∧ Evo [1] own ox w wx ∧ BlkO ox 102 wx g101 122 #[.func (.func 48) #[] #[ca], .func (.func 71) #[] #[sv, th]] ∧ SoO Jx ox 162 wx l161) ?_ ?_
  ·exact ⟨(rl [(123, 162)] o145), d145, z145, e145_3, e145_6, e145_7, e145_10, (Evo.rl_ hX145 hown rfl), (BlkO.rl_ b145_g101), (SoO.rl_ b145_Jx)⟩
  ·rintro ⟨i160, l161⟩ zz176 a176 w176 ⟨o176, d177, z177, e177_3, e177_6, e177_7, e177_10, hE177, b177_g101, b177_Jx⟩ hs Q176 hn176 hp176 z176
   have hs : sort_heapSort_func_b2 Tx lf x1 i160 l161 = some zz176 := hs
   refine fl_seq (fun Q178 hn178 hp178 => ?_)
   refine rq_seq 45 o176 (bz 2) [dv [] [10] 29 (Zi i160), dv [0] [] 30 (.bool (decide (0 ≤ i160)))] z177 d177 ?_ ?_
   ·exact sM e177_10 <| sF (fun f => or_geq f.1 rfl rfl) <| steps_nil
   intro o179 a179 w179 d179 z179 hk179 hf179 hE179
   obtain ⟨e179_3, e179_6, e179_7, e179_10⟩ := kt4 hk179 e177_3 e177_6 e177_7 e177_10
   have e179_30 := gv (hf179 [1] rfl) rfl
   have hX179 := Evo.step hE177 hown hE179 rfl
   have b179_g101 := be_ hE179 b177_g101
   have b179_Jx := SoO.evo (by decide) hE179 b177_Jx
   refine fl_cond e179_30 hs (fun c180 hs => ?_) (fun c180 hs => ?_)
   ·refine fl_skip ?_
    refine hn178 _ _ ?_
    refine fl_seq (fun Q181 hn181 hp181 => ?_)
    refine fl_block (fun Q182 hn182 hx182 hp182 => ?_)
    obtain ⟨l183, hl183, hs⟩ := obind hs
    refine rr_seq 45 [Fct.soAt Jx 162 l161] o179 [162] [0, 1, 0, 0, 0, 24, 63] [dv [] [3] 33 (pt g101 1), dv [0] [] 34 (.func (.func 71) #[] #[sv, th]), dv [] [6] 35 (Zi x1), dv [] [6] 36 (Zi x1), dv [] [10] 37 (Zi i160), dv [3, 4] [] 38 (Zi (ad x1 i160)), ⟨[1, 2, 5, 7], [], [162], Fct.so Jx 184 39 l183⟩] z179 d179 (fm1 b179_Jx) ?_ ?_
    ·refine sS (fun s => or_field fo122_1 (s.1.trans e179_3) (by rfl)) <| sG to117 b179_g101 <| sM e179_6 <| sM e179_6 <| sM e179_10 <| sF (fun f => or_add f.1 f.2.1 rfl) ?_
     refine sc (fun own a wx hf hsl hE => ?_) ?_
     ·obtain ⟨f_34, f_35, f_38, b_Jx, -⟩ := hf
      exact px (or_sswap (lab := 162) (lab2 := 184) f_34 (args2 f_35 f_38) hS b_Jx (by decide) hl183 (mem_of rfl))
     exact steps_nil
    intro o185 a185 w185 d185 z185 hk185 hf185 hE185
    obtain ⟨e185_3, e185_6, e185_7, e185_10⟩ := kt4 hk185 e179_3 e179_6 e179_7 e179_10
    obtain ⟨⟨(f_39 : a185.eval (.tmp 39) = .tuple #[]), (b185_Jx : SoO Jx o185 184 w185 l183)⟩, -⟩ := hf185 [6] rfl
    have hX185 := Evo.step hX179 hown hE185 rfl
    have b185_g101 := be_ hE185 b179_g101
    obtain ⟨r186, hr186, hs⟩ := obind hs
    refine rr 45 [Fct.soAt Jx 184 l183] o185 [184] [0, 0, 0, 0, 15] [dv [] [3] 40 (.agg #[.func (.func 48) #[] #[ca], .func (.func 71) #[] #[sv, th]]), dv [] [7] 41 (Zi 0), dv [] [10] 42 (Zi i160), dv [] [6] 43 (Zi x1), ⟨[0, 1, 2, 3, 5], [], [184], Fct.mems [187] 44 (fun (_ : Unit) => .tuple #[]) (fun (_ : Unit) own w => SoO Jx own 187 w r186) (fun hk he h => SoO.evo (not_hit hk (by decide)) he h)⟩] z185 d185 (fm1 b185_Jx) ?_ ?_
    ·refine sL ta122 e185_3 b185_g101 <| sM e185_7 <| sM e185_10 <| sM e185_6 ?_
     refine sc (fun own a wx hf hsl hE => ?_) ?_
     ·obtain ⟨f_40, f_41, f_42, f_43, b_Jx, -⟩ := hf
      exact px (or_call cf83 (args4 f_40 f_41 f_42 f_43) (sort_siftDown_func_w _ (forth own (look0 [(184, 1)])) Tx lf ca sv th l183 Jx 0 i160 x1 (look0_le rfl) hL hS (SoO.forth_ (m := (look0 [(184, 1)])) b_Jx) r186 hr186) (post_mems0 (m := (look0 [(184, 1)])) (m' := (look0 [(1, 187)])) (hm_of rfl) (fun own' w' a' h1 h => ⟨(), h1, SoO.back_ h (by decide)⟩)))
     exact steps_nil
    intro o188 a188 w188 d188 z188 hk188 hf188 hE188
    obtain ⟨e188_3, e188_6, e188_7, e188_10⟩ := kt4 hk188 e185_3 e185_6 e185_7 e185_10
    obtain ⟨⟨_, (f_44 : a188.eval (.tmp 44) = .tuple #[]), (b188_Jx : SoO Jx o188 187 w188 r186)⟩, -⟩ := hf188 [4] rfl
    have hX188 := Evo.step hX185 hown hE188 rfl
    have b188_g101 := be_ hE188 b185_g101
    refine hn182 _ _ ?_
    refine hn181 _ _ ?_
    refine rq 45 o188 (bz 3) [dv [] [10] 31 (Zi i160), dv [0] [] 32 (Zi (sb i160 1)), dv [1] [] 10 (Zi (sb i160 1))] z188 d188 ?_ ?_
    ·exact sM e188_10 <| sF (fun f => or_sub f.1 rfl rfl) <| sA <| steps_nil
    intro o189 a189 w189 d189 z189 hk189 hf189 hE189
    obtain ⟨e189_3, e189_6, e189_7⟩ := kt3 hk189 e188_3 e188_6 e188_7
    have e189_10 := gv (hf189 [2] rfl) rfl
    have hX189 := Evo.step hX188 hown hE189 rfl
    have b189_g101 := be_ hE189 b188_g101
    have b189_Jx := SoO.evo (by decide) hE189 b188_Jx
    exact hn176 _ _ _ hs ⟨(rl [(187, 162)] o189), d189, z189, e189_3, e189_6, e189_7, e189_10, (Evo.rl_ hX189 hown rfl), (BlkO.rl_ b189_g101), (SoO.rl_ b189_Jx)⟩
   refine fl_exit ?_
   refine hp178 _ _ _ rfl ?_
   replace hs := z176 _ hs
   refine hp176 _ _ _ rfl ?_
   refine hx146 _ _ ?_
   obtain rfl := (osome hs).symm
   exact hret _ _ _ _ (.inr rfl) d179 (results0_ rfl ) ⟨(rl [(162, 1)] o179), rfl, (Evo.rl_ hX179 hown rfl), (SoO.rl_ b179_Jx)⟩
theorem sort_nextPowerOfTwo_w (w : World) (length1 : Int) (r : Int) (hs : sort_nextPowerOfTwo length1 = some r) :
  Calls Try.prog 84 #[Zi length1] w fun e w' => ∃ own' : Own, e = .returned (.int .u64 r) ∧ Evo [] (fun _ => 0) own' w w' := by
 refine fl_enter (n := 10) rfl rfl rfl (Nat.le_of_ble_eq_true rfl) ?_
 intro a0 Q d0 z0 harg hret
 have ha0 := harg 0 _ rfl
 clear harg
 have hE0 : Evo [] (fun _ => 0) (fun _ => 0) w w := Evo.refl _ _ _
 refine rq_seq 10 (fun _ => 0) (bz 1) [dv [] [] 2 (.int .u64 0)] z0 d0 ?_ ?_
 ·exact sO (or_assign rfl) <| steps_nil
 intro o16 a16 w16 d16 z16 hk16 hf16 hE16
 have e16_0 := kt hk16 ha0
 have hX16 := es_ hE0 hE16
 obtain ⟨r17, hr17, hs⟩ := obind hs
 refine rq_seq 10 o16 (bz 5) [dv [] [0] 4 (Zi length1), dv [0] [] 5 (.int .u64 (IntKind.u64.wrap length1)), dv [1] [] 6 (Zi r17), dv [2] [] 7 (.int .u64 (IntKind.u64.wrap r17)), dv [3] [] 3 (.int .u64 (IntKind.u64.wrap r17))] z16 d16 ?_ ?_
 ·exact sM e16_0 <| sF (fun f => or_conv f.1 tn3 tn104 rfl) <| sF (fun f => or_call cf59 (args1 f.1) (math_bits_Len_w _ (IntKind.u64.wrap length1)  r17 hr17) post_val) <| sF (fun f => or_conv f.1 tn3 tn104 rfl) <| sA <| steps_nil
 intro o18 a18 w18 d18 z18 hk18 hf18 hE18
 have e18_3 := gv (hf18 [4] rfl) rfl
 have hX18 := es_ hX16 hE18
 obtain ⟨x19, hx19, hs⟩ := obind hs
 refine rq_seq 10 o18 (bz 3) [dv [] [3] 8 (.int .u64 (IntKind.u64.wrap r17)), dv [0] [] 9 (.int .u64 x19), dv [1] [] 2 (.int .u64 x19)] z18 d18 ?_ ?_
 ·exact sM e18_3 <| sF (fun f => or_shl rfl f.1 hx19) <| sA <| steps_nil
 intro o20 a20 w20 d20 z20 hk20 hf20 hE20
 have e20_2 := gv (hf20 [2] rfl) rfl
 have hX20 := es_ hX18 hE20
 refine fl_ret ?_
 obtain rfl := (osome hs).symm
 exact hret _ _ _ _ (.inl rfl) d20 (results1_ rfl (RVal.tmp_ e20_2)) ⟨o20, rfl, hX20⟩
theorem sort_xorshift_Next_w (w : World) (own : Own) (r1 : Int) (gr1 : Nat) (tr1 : TypeId) (hown : ∀ b, own b ≤ 1) (hgr1 : BlkO own 1 w gr1 tr1 #[.int .u64 r1]) (r : Int × Int) (hs : sort_xorshift_Next r1 = some r) :
  Calls Try.prog 85 #[pt gr1 0] w fun e w' => ∃ (own' : Own), e = .returned (.int .u64 r.1) ∧ Evo [1] own own' w w' ∧ BlkO own' 1 w' gr1 tr1 #[.int .u64 r.2] := by
 refine fl_enter (n := 33) rfl rfl rfl (Nat.le_of_ble_eq_true rfl) ?_
 intro a0 Q d0 z0 harg hret
 have ha0 := harg 0 _ rfl
 clear harg
 have hE0 : Evo [1] own own w w := Evo.refl _ _ _
 refine rq_seq 33 own (bz 1) [dv [] [] 2 (.int .u64 0)] z0 d0 ?_ ?_
 ·exact sO (or_assign rfl) <| steps_nil
 intro o28 a28 w28 d28 z28 hk28 hf28 hE28
 have e28_0 := kt hk28 ha0
 have hX28 := Evo.step hE0 hown hE28 rfl
 have b28_gr1 := be_ hE28 hgr1
 obtain ⟨x30, hx30, hs⟩ := obind hs
 refine rd_seq g_mixed 33 [Fct.at_ 1 gr1 tr1 #[.int .u64 r1]] o28 [1] [0, 1, 3, 0, 8, 24, 56, 127, 255, 511] [dv [] [0] 3 (pt gr1 0), dv [0] [] 4 (pt gr1 0), dv [1, 10] [] 5 (.int .u64 r1), dv [] [0] 6 (pt gr1 0), dv [3] [] 7 (pt gr1 0), dv [4, 10] [] 8 (.int .u64 r1), dv [5] [] 9 (.int .u64 x30), dv [2, 6] [] 10 (.int .u64 (xoK .u64 r1 x30)), dv [0] [] 11 (pt gr1 0), ⟨[8, 7, 10], [], [1], Fct.at_ 31 gr1 tr1 #[.int .u64 (xoK .u64 r1 x30)]⟩] z28 d28 (fm1 b28_gr1) ?_ ?_
 ·refine sM e28_0 <| sF (fun f => ok1 f.1) ?_
  refine sc (fun own a wx hf hsl hE => ?_) ?_
  ·obtain ⟨f_4, (b_gr1 : BlkO own 1 wx gr1 tr1 #[.int .u64 r1]), -⟩ := hf
   exact px (ld1 to139 f_4 b_gr1)
  refine sM e28_0 <| sF (fun f => ok1 f.1) ?_
  refine sc (fun own a wx hf hsl hE => ?_) ?_
  ·obtain ⟨f_7, (b_gr1 : BlkO own 1 wx gr1 tr1 #[.int .u64 r1]), -⟩ := hf
   exact px (ld1 to139 f_7 b_gr1)
  refine sF (fun f => or_shl f.1 rfl hx30) <| sF (fun f => or_bxor f.1 f.2.1 rfl) <| sF (fun f => ok1 f.1) ?_
  refine sc (fun own a wx hf hsl hE => ?_) ?_
  ·obtain ⟨f_11, f_10, b_gr1, -⟩ := hf
   exact px (or_store1 (lab := 1) (lab2 := 31) ts139 f_11 f_10 b_gr1 (by simp) rfl (mem_of rfl) (by decide) rfl (fun own' a' w' ha hb => hb))
  exact steps_nil
 intro o32 a32 w32 d32 z32 hk32 hf32 hE32
 have e32_0 := kt hk32 e28_0
 obtain ⟨(b32_gr1 : BlkO o32 31 w32 gr1 tr1 #[.int .u64 (xoK .u64 r1 x30)]), -⟩ := hf32 [9] rfl
 have hX32 := Evo.step hX28 hown hE32 rfl
 obtain ⟨x34, hx34, hs⟩ := obind hs
 refine rd_seq g_mixed 33 [Fct.at_ 31 gr1 tr1 #[.int .u64 (xoK .u64 r1 x30)]] o32 [31] [0, 1, 3, 0, 8, 24, 56, 127, 255, 511] [dv [] [0] 12 (pt gr1 0), dv [0] [] 13 (pt gr1 0), dv [1, 10] [] 14 (.int .u64 (xoK .u64 r1 x30)), dv [] [0] 15 (pt gr1 0), dv [3] [] 16 (pt gr1 0), dv [4, 10] [] 17 (.int .u64 (xoK .u64 r1 x30)), dv [5] [] 18 (.int .u64 x34), dv [2, 6] [] 19 (.int .u64 (xoK .u64 (xoK .u64 r1 x30) x34)), dv [0] [] 20 (pt gr1 0), ⟨[8, 7, 10], [], [31], Fct.at_ 35 gr1 tr1 #[.int .u64 (xoK .u64 (xoK .u64 r1 x30) x34)]⟩] z32 d32 (fm1 b32_gr1) ?_ ?_
 ·refine sM e32_0 <| sF (fun f => ok1 f.1) ?_
  refine sc (fun own a wx hf hsl hE => ?_) ?_
  ·obtain ⟨f_13, (b_gr1 : BlkO own 31 wx gr1 tr1 #[.int .u64 (xoK .u64 r1 x30)]), -⟩ := hf
   exact px (ld1 to139 f_13 b_gr1)
  refine sM e32_0 <| sF (fun f => ok1 f.1) ?_
  refine sc (fun own a wx hf hsl hE => ?_) ?_
  ·obtain ⟨f_16, (b_gr1 : BlkO own 31 wx gr1 tr1 #[.int .u64 (xoK .u64 r1 x30)]), -⟩ := hf
   exact px (ld1 to139 f_16 b_gr1)
  refine sF (fun f => or_shr f.1 rfl hx34) <| sF (fun f => or_bxor f.1 f.2.1 rfl) <| sF (fun f => ok1 f.1) ?_
  refine sc (fun own a wx hf hsl hE => ?_) ?_
  ·obtain ⟨f_20, f_19, b_gr1, -⟩ := hf
   exact px (or_store1 (lab := 31) (lab2 := 35) ts139 f_20 f_19 b_gr1 (by simp) rfl (mem_of rfl) (by decide) rfl (fun own' a' w' ha hb => hb))
  exact steps_nil
 intro o36 a36 w36 d36 z36 hk36 hf36 hE36
 have e36_0 := kt hk36 e32_0
 obtain ⟨(b36_gr1 : BlkO o36 35 w36 gr1 tr1 #[.int .u64 (xoK .u64 (xoK .u64 r1 x30) x34)]), -⟩ := hf36 [9] rfl
 have hX36 := Evo.step hX32 hown hE36 rfl
 obtain ⟨x39, hx39, hs⟩ := obind hs
 obtain ⟨x40, hx40, hs⟩ := obind hs
 refine rd_seq g_mixed 33 [Fct.at_ 35 gr1 tr1 #[.int .u64 (xoK .u64 (xoK .u64 r1 x30) x34)]] o36 [35] [0, 1, 3, 0, 8, 24, 56, 127, 255, 511] [dv [] [0] 21 (pt gr1 0), dv [0] [] 22 (pt gr1 0), dv [1, 10] [] 23 (.int .u64 (xoK .u64 (xoK .u64 r1 x30) x34)), dv [] [0] 24 (pt gr1 0), dv [3] [] 25 (pt gr1 0), dv [4, 10] [] 26 (.int .u64 (xoK .u64 (xoK .u64 r1 x30) x34)), dv [5] [] 27 (.int .u64 x39), dv [2, 6] [] 28 (.int .u64 x40), dv [0] [] 29 (pt gr1 0), ⟨[8, 7, 10], [], [35], Fct.at_ 41 gr1 tr1 #[.int .u64 x40]⟩] z36 d36 (fm1 b36_gr1) ?_ ?_
 ·refine sM e36_0 <| sF (fun f => ok1 f.1) ?_
  refine sc (fun own a wx hf hsl hE => ?_) ?_
  ·obtain ⟨f_22, (b_gr1 : BlkO own 35 wx gr1 tr1 #[.int .u64 (xoK .u64 (xoK .u64 r1 x30) x34)]), -⟩ := hf
   exact px (ld1 to139 f_22 b_gr1)
  refine sM e36_0 <| sF (fun f => ok1 f.1) ?_
  refine sc (fun own a wx hf hsl hE => ?_) ?_
  ·obtain ⟨f_25, (b_gr1 : BlkO own 35 wx gr1 tr1 #[.int .u64 (xoK .u64 (xoK .u64 r1 x30) x34)]), -⟩ := hf
   exact px (ld1 to139 f_25 b_gr1)
  refine sF (fun f => or_shl f.1 rfl hx39) <| sF (fun f => or_bxor f.1 f.2.1 (osome hx40).symm) <| sF (fun f => ok1 f.1) ?_
  refine sc (fun own a wx hf hsl hE => ?_) ?_
  ·obtain ⟨f_29, f_28, b_gr1, -⟩ := hf
   exact px (or_store1 (lab := 35) (lab2 := 41) ts139 f_29 f_28 b_gr1 (by simp) rfl (mem_of rfl) (by decide) rfl (fun own' a' w' ha hb => hb))
  exact steps_nil
 intro o42 a42 w42 d42 z42 hk42 hf42 hE42
 have e42_0 := kt hk42 e36_0
 obtain ⟨(b42_gr1 : BlkO o42 41 w42 gr1 tr1 #[.int .u64 x40]), -⟩ := hf42 [9] rfl
 have hX42 := Evo.step hX36 hown hE42 rfl
 refine rq_seq 33 o42 (bz 4) [dv [] [0] 30 (pt gr1 0), dv [0] [] 31 (pt gr1 0), dv [1] [] 32 (.int .u64 x40), dv [2] [] 2 (.int .u64 x40)] z42 d42 ?_ ?_
 ·exact sM e42_0 <| sF (fun f => ok1 f.1) <| sG to139 b42_gr1 <| sA <| steps_nil
 intro o43 a43 w43 d43 z43 hk43 hf43 hE43
 have e43_0 := kt hk43 e42_0
 have e43_2 := gv (hf43 [3] rfl) rfl
 have hX43 := Evo.step hX42 hown hE43 rfl
 have b43_gr1 := be_ hE43 b42_gr1
 refine fl_ret ?_
 obtain rfl := osome hs
 exact hret _ _ _ _ (.inl rfl) d43 (results1_ rfl (RVal.tmp_ e43_2)) ⟨(rl [(41, 1)] o43), rfl, (Evo.rl_ hX43 hown rfl), (BlkO.rl_ b43_gr1)⟩
theorem sort_breakPatterns_func_w (w : World) (own : Own) (Tx : Type) (lf : List Tx → Int → Int → Option Bool) (ca : Value) (sv : Value) (th : Value) (l0 : List Tx) (Jx : Sj (List Tx)) (x1 : Int) (b2 : Int) (hown : ∀ b, own b ≤ 1) (hL : LessS Try.prog 48 ca lf Jx) (hS : SwapS Try.prog 71 sv th Jx) (hJx : SoO Jx own 1 w l0) (r : List Tx) (hs : sort_breakPatterns_func Tx lf l0 x1 b2 = some r) :
  Calls Try.prog 76 #[.agg #[.func (.func 48) #[] #[ca], .func (.func 71) #[] #[sv, th]], Zi x1, Zi b2] w fun e w' => ∃ (own' : Own), e = .returned (.tuple #[]) ∧ Evo [1] own own' w w' ∧ SoO Jx own' 1 w' r := by
 refine fl_enter (n := 54) rfl rfl rfl (Nat.le_of_ble_eq_true rfl) ?_
 intro a0 Q d0 z0 harg hret
 have ha0 := harg 0 _ rfl
 have ha1 := harg 1 _ rfl
 have ha2 := harg 2 _ rfl
 clear harg
 have hE0 : Evo [1] own own w w := Evo.refl _ _ _
 refine rq_seq 54 own (bz 1) [⟨[], [0], [], Fct.blk 109 3 (fun g => pt g 0) 122 #[.func (.func 48) #[] #[ca], .func (.func 71) #[] #[sv, th]]⟩] z0 d0 ?_ ?_
 ·exact sS (fun s => nw1 (s.1.trans ha0)) <| steps_nil
 intro o110 a110 w110 d110 z110 hk110 hf110 hE110
 obtain ⟨e110_1, e110_2⟩ := kt2 hk110 ha1 ha2
 obtain ⟨⟨g108, (e110_3 : a110.eval (.tmp 3) = pt g108 0), (b110_g108 : BlkO o110 109 w110 g108 122 #[.func (.func 48) #[] #[ca], .func (.func 71) #[] #[sv, th]])⟩, -⟩ := hf110 [0] rfl
 have hX110 := Evo.step hE0 hown hE110 rfl
 have b110_Jx := SoO.evo (by decide) hE110 hJx
 refine rq_seq 54 o110 [0, 0, 3, 7] [dv [] [2] 11 (Zi b2), dv [] [1] 12 (Zi x1), dv [0, 1] [] 13 (Zi (sb b2 x1)), dv [2] [] 6 (Zi (sb b2 x1))] z110 d110 ?_ ?_
 ·exact sM e110_2 <| sM e110_1 <| sF (fun f => or_sub f.1 f.2.1 rfl) <| sA <| steps_nil
 intro o111 a111 w111 d111 z111 hk111 hf111 hE111
 obtain ⟨e111_1, e111_3⟩ := kt2 hk111 e110_1 e110_3
 have e111_6 := gv (hf111 [3] rfl) rfl
 have hX111 := Evo.step hX110 hown hE111 rfl
 have b111_Jx := SoO.evo (by decide) hE111 b110_Jx
 have b111_g108 := be_ hE111 b110_g108
 refine rq_seq 54 o111 (bz 2) [dv [] [6] 14 (Zi (sb b2 x1)), dv [0] [] 15 (.bool (decide (8 ≤ (sb b2 x1))))] z111 d111 ?_ ?_
 ·exact sM e111_6 <| sF (fun f => or_geq f.1 rfl rfl) <| steps_nil
 intro o112 a112 w112 d112 z112 hk112 hf112 hE112
 obtain ⟨e112_1, e112_3, e112_6⟩ := kt3 hk112 e111_1 e111_3 e111_6
 have e112_15 := gv (hf112 [1] rfl) rfl
 have hX112 := Evo.step hX111 hown hE112 rfl
 have b112_Jx := SoO.evo (by decide) hE112 b111_Jx
 have b112_g108 := be_ hE112 b111_g108
 refine fl_cond e112_15 hs (fun c113 hs => ?_) (fun c113 hs => ?_)
 ·refine rp_seq 54 o112 [115] [0, 1, 0, 7] [dv [] [6] 16 (Zi (sb b2 x1)), dv [0] [] 17 (.int .u64 (IntKind.u64.wrap (sb b2 x1))), ⟨[], [], [], Fct.blk 115 7 (fun g => pt g 0) 139 #[.int .u64 0]⟩, ⟨[2, 1], [], [115], Fct.blk 116 7 (fun g => pt g 0) 139 #[.int .u64 (IntKind.u64.wrap (sb b2 x1))]⟩] z112 d112 ?_ ?_
  ·refine sM e112_6 <| sF (fun f => or_conv f.1 tn3 tn139 rfl) <| sO (nw0) ?_
   refine sc (fun own a wx hf hsl hE => ?_) ?_
   ·obtain ⟨⟨g114, f_7, b_g114⟩, f_17, -⟩ := hf
    exact px (or_store1 (lab := 115) (lab2 := 116) ts139 f_7 f_17 b_g114 (by simp) rfl (mem_of rfl) (by decide) rfl (fun own' a' w' ha hb => ⟨_, (ha 7).trans f_7, hb⟩))
   exact steps_nil
  intro o117 a117 w117 d117 z117 hk117 hf117 hE117
  obtain ⟨e117_1, e117_3, e117_6⟩ := kt3 hk117 e112_1 e112_3 e112_6
  obtain ⟨⟨g114, (e117_7 : a117.eval (.tmp 7) = pt g114 0), (b117_g114 : BlkO o117 116 w117 g114 139 #[.int .u64 (IntKind.u64.wrap (sb b2 x1))])⟩, -⟩ := hf117 [3] rfl
  have hX117 := Evo.step hX112 hown hE117 rfl
  have b117_Jx := SoO.evo (by decide) hE117 b112_Jx
  have b117_g108 := be_ hE117 b112_g108
  obtain ⟨r118, hr118, hs⟩ := obind hs
  refine rq_seq 54 o117 (bz 3) [dv [] [6] 18 (Zi (sb b2 x1)), dv [0] [] 19 (.int .u64 r118), dv [1] [] 8 (.int .u64 r118)] z117 d117 ?_ ?_
  ·exact sM e117_6 <| sF (fun f => or_call cf84 (args1 f.1) (sort_nextPowerOfTwo_w _ (sb b2 x1)  r118 hr118) post_val) <| sA <| steps_nil
  intro o119 a119 w119 d119 z119 hk119 hf119 hE119
  obtain ⟨e119_1, e119_3, e119_6, e119_7⟩ := kt4 hk119 e117_1 e117_3 e117_6 e117_7
  have e119_8 := gv (hf119 [2] rfl) rfl
  have hX119 := Evo.step hX117 hown hE119 rfl
  have b119_Jx := SoO.evo (by decide) hE119 b117_Jx
  obtain ⟨b119_g108, b119_g114⟩ := be2 hE119 b117_g108 b117_g114
  obtain ⟨x120, hx120, hs⟩ := obind hs
  refine rq_seq 54 o119 [0, 0, 2, 6, 15, 31, 63] [dv [] [1] 20 (Zi x1), dv [] [6] 21 (Zi (sb b2 x1)), dv [1] [] 22 (Zi x120), dv [2] [] 23 (Zi (ml x120 2)), dv [0, 3] [] 24 (Zi (ad x1 (ml x120 2))), dv [4] [] 25 (Zi (sb (ad x1 (ml x120 2)) 1)), dv [5] [] 9 (Zi (sb (ad x1 (ml x120 2)) 1))] z119 d119 ?_ ?_
  ·exact sM e119_1 <| sM e119_6 <| sF (fun f => or_quo f.1 rfl hx120) <| sF (fun f => or_mul f.1 rfl rfl) <| sF (fun f => or_add f.1 f.2.1 rfl) <| sF (fun f => or_sub f.1 rfl rfl) <| sA <| steps_nil
  intro o121 a121 w121 d121 z121 hk121 hf121 hE121
  obtain ⟨e121_1, e121_3, e121_6, e121_7, e121_8⟩ := kt5 hk121 e119_1 e119_3 e119_6 e119_7 e119_8
  have e121_9 := gv (hf121 [6] rfl) rfl
  have hX121 := Evo.step hX119 hown hE121 rfl
  have b121_Jx := SoO.evo (by decide) hE121 b119_Jx
  obtain ⟨b121_g108, b121_g114⟩ := be2 hE121 b119_g108 b119_g114
  refine fl_block (fun Q122 hn122 hx122 hp122 => ?_)
  refine fl_loop (body := (fun s => sort_breakPatterns_func_b1 Tx x1 b2 r118 s.1 s.2.1 s.2.2)) (z := r) (show loopO _ _ = _ from hs) (fun (s : Int × Int × (List Tx)) a wx => match s with | (random149, idx150, l151) => ∃ (ox : Own), a.defers = [] ∧ a.tmps.size = 54 ∧ a.eval (.tmp 1) = Zi x1 ∧ a.eval (.tmp 3) = pt g108 0 ∧ a.eval (.tmp 6) = Zi (sb b2 x1) ∧ a.eval (.tmp 7) = pt g114 0 ∧ a.eval (.tmp 8) = .int .u64 r118 ∧ a.eval (.tmp 9) = Zi idx150 ∧ Evo [1] own ox w wx ∧ BlkO ox 109 wx g108 122 #[.func (.func 48) #[] #[ca], .func (.func 71) #[] #[sv, th]] ∧ BlkO ox 148 wx g114 139 #[.int .u64 random149] ∧ SoO Jx ox 152 wx l151) ?_ ?_
  ·exact ⟨(rl [(1, 152), (116, 148)] o121), d121, z121, e121_1, e121_3, e121_6, e121_7, e121_8, e121_9, (Evo.rl_ hX121 hown rfl), (BlkO.rl_ b121_g108), (BlkO.rl_ b121_g114), (SoO.rl_ b121_Jx)⟩
  ·rintro ⟨random149, idx150, l151⟩ zz178 a178 w178 ⟨o178, d179, z179, e179_1, e179_3, e179_6, e179_7, e179_8, e179_9, hE179, b179_g108, b179_g114, b179_Jx⟩ hs Q178 hn178 hp178 z178
   have hs : sort_breakPatterns_func_b1 Tx x1 b2 r118 random149 idx150 l151 = some zz178 := hs
   refine fl_seq (fun Q180 hn180 hp180 => ?_)
   obtain ⟨x181, hx181, hs⟩ := obind hs
   refine rq_seq 54 o178 [0, 0, 0, 4, 12, 30, 62, 127] [dv [] [9] 26 (Zi idx150), dv [] [1] 27 (Zi x1), dv [] [6] 28 (Zi (sb b2 x1)), dv [2] [] 29 (Zi x181), dv [3] [] 30 (Zi (ml x181 2)), dv [1, 4] [] 31 (Zi (ad x1 (ml x181 2))), dv [5] [] 32 (Zi (ad (ad x1 (ml x181 2)) 1)), dv [0, 6] [] 33 (.bool (decide (idx150 ≤ (ad (ad x1 (ml x181 2)) 1))))] z179 d179 ?_ ?_
   ·exact sM e179_9 <| sM e179_1 <| sM e179_6 <| sF (fun f => or_quo f.1 rfl hx181) <| sF (fun f => or_mul f.1 rfl rfl) <| sF (fun f => or_add f.1 f.2.1 rfl) <| sF (fun f => or_add f.1 rfl rfl) <| sF (fun f => or_leq f.1 f.2.1 rfl) <| steps_nil
   intro o182 a182 w182 d182 z182 hk182 hf182 hE182
   obtain ⟨e182_1, e182_3, e182_6, e182_7, e182_8, e182_9⟩ := kt6 hk182 e179_1 e179_3 e179_6 e179_7 e179_8 e179_9
   have e182_33 := gv (hf182 [7] rfl) rfl
   have hX182 := Evo.step hE179 hown hE182 rfl
   obtain ⟨b182_g108, b182_g114⟩ := be2 hE182 b179_g108 b179_g114
   have b182_Jx := SoO.evo (by decide) hE182 b179_Jx
   refine fl_cond e182_33 hs (fun c183 hs => ?_) (fun c183 hs => ?_)
   ·refine fl_skip ?_
    refine hn180 _ _ ?_
    refine fl_seq (fun Q184 hn184 hp184 => ?_)
    refine fl_block (fun Q185 hn185 hx185 hp185 => ?_)
    obtain ⟨r186, hr186, hs⟩ := obind hs
    obtain ⟨x188, hx188, hs⟩ := obind hs
    refine rr_seq 54 [Fct.at_ 148 g114 139 #[.int .u64 random149]] o182 [148] [0, 0, 2, 7, 15, 31] [⟨[6], [7], [148], Fct.mems [187] 36 (fun (_ : Unit) => .int .u64 r186.1) (fun (_ : Unit) own w => BlkO own 187 w g114 139 #[.int .u64 r186.2]) (fun hk he h => BlkO.evo (not_hit hk (by decide)) he h)⟩, dv [] [8] 37 (.int .u64 r118), dv [1] [] 38 (.int .u64 (sbK .u64 r118 1)), dv [0, 2] [] 39 (.int .u64 (anK .u64 r186.1 (sbK .u64 r118 1))), dv [3] [] 40 (Zi x188), dv [4] [] 10 (Zi x188)] z182 d182 (fm1 b182_g114) ?_ ?_
    ·refine sc (fun own a wx hf hsl hE => ?_) ?_
     ·obtain ⟨b_g114, -⟩ := hf
      obtain ⟨s_7, -⟩ := hsl
      exact px (or_call cf85 (args1 (s_7.trans e182_7)) (sort_xorshift_Next_w _ (forth own (look0 [(148, 1)])) random149 g114 139 (look0_le rfl) (BlkO.forth_ (m := (look0 [(148, 1)])) b_g114) r186 hr186) (post_mems0 (m := (look0 [(148, 1)])) (m' := (look0 [(1, 187)])) (hm_of rfl) (fun own' w' a' h1 h => ⟨(), h1, BlkO.back_ h (by decide)⟩)))
     refine sM e182_8 <| sF (fun f => or_sub f.1 rfl rfl) ?_
     refine sc (fun own a wx hf hsl hE => ?_) ?_
     ·obtain ⟨⟨_, f_36, b_g114⟩, f_38, -⟩ := hf
      exact px (or_band f_36 f_38 rfl)
     exact sF (fun f => or_conv f.1 tn104 tn3 (osome hx188).symm) <| sA <| steps_nil
    intro o189 a189 w189 d189 z189 hk189 hf189 hE189
    obtain ⟨e189_1, e189_3, e189_6, e189_7, e189_8, e189_9⟩ := kt6 hk189 e182_1 e182_3 e182_6 e182_7 e182_8 e182_9
    have e189_10 := gv (hf189 [5] rfl) rfl
    obtain ⟨⟨_, (f_36 : a189.eval (.tmp 36) = .int .u64 r186.1), (b189_g114 : BlkO o189 187 w189 g114 139 #[.int .u64 r186.2])⟩, -⟩ := hf189 [0] rfl
    have hX189 := Evo.step hX182 hown hE189 rfl
    have b189_g108 := be_ hE189 b182_g108
    have b189_Jx := SoO.evo (by decide) hE189 b182_Jx
    refine fl_seq (fun Q190 hn190 hp190 => ?_)
    have K195 : ∀ (a195 : Act) (w195 : World) (o195 : Own) (other194 : Int), a195.defers = [] → a195.tmps.size = 54 → a195.eval (.tmp 1) = Zi x1 → a195.eval (.tmp 3) = pt g108 0 → a195.eval (.tmp 6) = Zi (sb b2 x1) → a195.eval (.tmp 7) = pt g114 0 → a195.eval (.tmp 8) = .int .u64 r118 → a195.eval (.tmp 9) = Zi idx150 → a195.eval (.tmp 10) = Zi other194 → Evo [1] own o195 w w195 → BlkO o195 109 w195 g108 122 #[.func (.func 48) #[] #[ca], .func (.func 71) #[] #[sv, th]] → BlkO o195 187 w195 g114 139 #[.int .u64 r186.2] → SoO Jx o195 152 w195 l151 → sort_breakPatterns_func_k2 Tx x1 idx150 l151 r186 other194 = some zz178 → Q190 .normal a195 w195 := by
     intro a195 w195 o195 other194 d196 z196 e196_1 e196_3 e196_6 e196_7 e196_8 e196_9 e196_10 hE196 b196_g108 b196_g114 b196_Jx hs
     refine hn190 _ _ ?_
     obtain ⟨l197, hl197, hs⟩ := obind hs
     refine rr 54 [Fct.soAt Jx 152 l151] o195 [152] [0, 1, 0, 0, 0, 24, 63] [dv [] [3] 47 (pt g108 1), dv [0] [] 48 (.func (.func 71) #[] #[sv, th]), dv [] [9] 49 (Zi idx150), dv [] [1] 50 (Zi x1), dv [] [10] 51 (Zi other194), dv [3, 4] [] 52 (Zi (ad x1 other194)), ⟨[1, 2, 5, 7], [], [152], Fct.so Jx 198 53 l197⟩] z196 d196 (fm1 b196_Jx) ?_ ?_
     ·refine sS (fun s => or_field fo122_1 (s.1.trans e196_3) (by rfl)) <| sG to117 b196_g108 <| sM e196_9 <| sM e196_1 <| sM e196_10 <| sF (fun f => or_add f.1 f.2.1 rfl) ?_
      refine sc (fun own a wx hf hsl hE => ?_) ?_
      ·obtain ⟨f_48, f_49, f_52, b_Jx, -⟩ := hf
       exact px (or_sswap (lab := 152) (lab2 := 198) f_48 (args2 f_49 f_52) hS b_Jx (by decide) hl197 (mem_of rfl))
      exact steps_nil
     intro o199 a199 w199 d199 z199 hk199 hf199 hE199
     obtain ⟨e199_1, e199_3, e199_6, e199_7, e199_8, e199_9⟩ := kt6 hk199 e196_1 e196_3 e196_6 e196_7 e196_8 e196_9
     obtain ⟨⟨(f_53 : a199.eval (.tmp 53) = .tuple #[]), (b199_Jx : SoO Jx o199 198 w199 l197)⟩, -⟩ := hf199 [6] rfl
     have hX199 := Evo.step hE196 hown hE199 rfl
     obtain ⟨b199_g108, b199_g114⟩ := be2 hE199 b196_g108 b196_g114
     refine hn185 _ _ ?_
     refine hn184 _ _ ?_
     refine rq 54 o199 (bz 3) [dv [] [9] 34 (Zi idx150), dv [0] [] 35 (Zi (ad idx150 1)), dv [1] [] 9 (Zi (ad idx150 1))] z199 d199 ?_ ?_
     ·exact sM e199_9 <| sF (fun f => or_add f.1 rfl rfl) <| sA <| steps_nil
     intro o200 a200 w200 d200 z200 hk200 hf200 hE200
     obtain ⟨e200_1, e200_3, e200_6, e200_7, e200_8⟩ := kt5 hk200 e199_1 e199_3 e199_6 e199_7 e199_8
     have e200_9 := gv (hf200 [2] rfl) rfl
     have hX200 := Evo.step hX199 hown hE200 rfl
     obtain ⟨b200_g108, b200_g114⟩ := be2 hE200 b199_g108 b199_g114
     have b200_Jx := SoO.evo (by decide) hE200 b199_Jx
     exact hn178 _ _ _ hs ⟨(rl [(187, 148), (198, 152)] o200), d200, z200, e200_1, e200_3, e200_6, e200_7, e200_8, e200_9, (Evo.rl_ hX200 hown rfl), (BlkO.rl_ b200_g108), (BlkO.rl_ b200_g114), (SoO.rl_ b200_Jx)⟩
    refine rq_seq 54 o189 [0, 0, 3] [dv [] [10] 41 (Zi x188), dv [] [6] 42 (Zi (sb b2 x1)), dv [0, 1] [] 43 (.bool (decide ((sb b2 x1) ≤ x188)))] z189 d189 ?_ ?_
    ·exact sM e189_10 <| sM e189_6 <| sF (fun f => or_geq f.1 f.2.1 rfl) <| steps_nil
    intro o201 a201 w201 d201 z201 hk201 hf201 hE201
    obtain ⟨e201_1, e201_3, e201_6, e201_7, e201_8, e201_9, e201_10⟩ := kt7 hk201 e189_1 e189_3 e189_6 e189_7 e189_8 e189_9 e189_10
    have e201_43 := gv (hf201 [2] rfl) rfl
    have hX201 := Evo.step hX189 hown hE201 rfl
    have b201_g108 := be_ hE201 b189_g108
    have b201_Jx := SoO.evo (by decide) hE201 b189_Jx
    have b201_g114 := be_ hE201 b189_g114
    refine fl_cond e201_43 hs (fun c202 hs => ?_) (fun c202 hs => ?_)
    ·refine rq 54 o201 [0, 0, 3, 7] [dv [] [10] 44 (Zi x188), dv [] [6] 45 (Zi (sb b2 x1)), dv [0, 1] [] 46 (Zi (sb x188 (sb b2 x1))), dv [2] [] 10 (Zi (sb x188 (sb b2 x1)))] z201 d201 ?_ ?_
     ·exact sM e201_10 <| sM e201_6 <| sF (fun f => or_sub f.1 f.2.1 rfl) <| sA <| steps_nil
     intro o203 a203 w203 d203 z203 hk203 hf203 hE203
     obtain ⟨e203_1, e203_3, e203_6, e203_7, e203_8, e203_9⟩ := kt6 hk203 e201_1 e201_3 e201_6 e201_7 e201_8 e201_9
     have e203_10 := gv (hf203 [3] rfl) rfl
     have hX203 := Evo.step hX201 hown hE203 rfl
     have b203_g108 := be_ hE203 b201_g108
     have b203_Jx := SoO.evo (by decide) hE203 b201_Jx
     have b203_g114 := be_ hE203 b201_g114
     exact (K195 _ _ o203 _ d203 z203 e203_1 e203_3 e203_6 e203_7 e203_8 e203_9 e203_10 hX203 b203_g108 b203_g114 b203_Jx hs)
    refine fl_skip ?_
    exact (K195 _ _ o201 _ d201 z201 e201_1 e201_3 e201_6 e201_7 e201_8 e201_9 e201_10 hX201 b201_g108 b201_g114 b201_Jx hs)
   refine fl_exit ?_
   refine hp180 _ _ _ rfl ?_
   replace hs := z178 _ hs
   refine hp178 _ _ _ rfl ?_
   refine hx122 _ _ ?_
   obtain rfl := (osome hs).symm
   exact hret _ _ _ _ (.inr rfl) d182 (results0_ rfl ) ⟨(rl [(152, 1)] o182), rfl, (Evo.rl_ hX182 hown rfl), (SoO.rl_ b182_Jx)⟩
 refine fl_skip ?_
 obtain rfl := (osome hs).symm
 exact hret _ _ _ _ (.inr rfl) d112 (results0_ rfl ) ⟨o112, rfl, hX112, b112_Jx⟩
end Go.Proofs.Ytnmkonlfnpcoiaa
