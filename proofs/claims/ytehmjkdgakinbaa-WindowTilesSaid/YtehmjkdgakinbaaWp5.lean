/-
  Chapter 20. The walks.
-/
import Derived.Test.YtehmjkdgakinbaaWp2
import Derived.Test.YtehmjkdgakinbaaWp3
import Derived.Test.YtehmjkdgakinbaaSp5
namespace Go.Proofs.Ytehmjkdgakinbaa
open Go.RowKit
set_option linter.unusedVariables false
theorem ref16_Level_w (w : World) (z1 : Int) (r : Bool) (hs : ref16_Level z1 = some r) :
    Calls Try.prog 38 #[.int .i64 z1] w fun e w' => ∃ own' : Own, e = .returned (.bool r) ∧ Evo [] (fun _ => 0) own' w w' := by
  refine fl_enter (n := 9) rfl rfl rfl (Nat.le_of_ble_eq_true rfl) ?_
  intro a0 Q hd0 hz0 harg hret
  have ha0 := harg 0 _ rfl
  clear harg
  have hE0 : Evo [] (fun _ => 0) (fun _ => 0) w w := Evo.refl _ _ _
  refine rg_plain_seq (n := 9) (rs := []) (own0 := (fun _ => 0)) (K := [])
      (bs := [0])
      (ds := [⟨[], [], [], Fct.val 2 (.bool false)⟩]) (by kernel_rfl) hz0 hd0 (fun _ h => nomatch h) ?_ ?_
  · refine steps_cons (fun own a wx hf hsl hE => ?_) ?_
    · exact sg_plain rfl rfl (or_assign rfl)
    exact steps_nil
  intro own14 a14 w14 hd14 hz14 hk14 hf14 hE14
  have e14_0 : a14.eval (.tmp 0) = .int .i64 z1 := (hk14 0 rfl).trans ha0
  have hX14 := Evo.step hE0 (fun _ => Nat.le_refl 0) hE14 rfl
  obtain ⟨x15, hx15, hs⟩ := obind hs
  refine rg_plain_seq (n := 9) (rs := []) (own0 := own14) (K := [])
      (bs := [0, 1, 3, 7, 15, 31, 63])
      (ds := [⟨[], [0], [], Fct.val 3 (.int .i64 z1)⟩,
      ⟨[0], [], [], Fct.val 4 (.bool (decide (0 ≤ z1)))⟩,
      ⟨[1], [], [], Fct.val 5 (.bool (decide (0 ≤ z1)))⟩,
      ⟨[2], [0], [], Fct.cond (decide (0 ≤ z1)) (some 6) (Fct.val 6 (.int .i64 z1))⟩,
      ⟨[2, 3], [], [], Fct.cond (decide (0 ≤ z1)) (some 7) (Fct.val 7 (.bool (decide (z1 ≤ 4))))⟩,
      ⟨[2, 4], [], [], Fct.val 8 (.bool x15)⟩,
      ⟨[5], [], [], Fct.val 2 (.bool x15)⟩]) (by kernel_rfl) hz14 hd14 (fun _ h => nomatch h) ?_ ?_
  · refine steps_cons (fun own a wx hf hsl hE => ?_) ?_
    · obtain ⟨s_0, -⟩ := hsl
      exact sg_plain rfl rfl (or_move (s_0.trans e14_0))
    refine steps_cons (fun own a wx hf hsl hE => ?_) ?_
    · obtain ⟨(f_3 : a.eval (.tmp 3) = .int .i64 z1), -⟩ := hf
      exact sg_plain rfl rfl (or_geq f_3 rfl rfl)
    refine steps_cons (fun own a wx hf hsl hE => ?_) ?_
    · obtain ⟨(f_4 : a.eval (.tmp 4) = .bool (decide (0 ≤ z1))), -⟩ := hf
      exact sg_plain rfl rfl (or_move f_4)
    refine steps_cons (fun own a wx hf hsl hE => ?_) ?_
    · obtain ⟨(f_5 : a.eval (.tmp 5) = .bool (decide (0 ≤ z1))), -⟩ := hf
      obtain ⟨s_0, -⟩ := hsl
      refine sg_t rfl rfl rfl f_5 (fun hg => ?_)
      exact or_move (s_0.trans e14_0)
    refine steps_cons (fun own a wx hf hsl hE => ?_) ?_
    · obtain ⟨(f_5 : a.eval (.tmp 5) = .bool (decide (0 ≤ z1))), c_6, -⟩ := hf
      refine sg_t rfl rfl rfl f_5 (fun hg => ?_)
      have f_6 : a.eval (.tmp 6) = .int .i64 z1 := c_6.1 hg
      exact or_leq f_6 rfl rfl
    refine steps_cons (fun own a wx hf hsl hE => ?_) ?_
    · obtain ⟨(f_5 : a.eval (.tmp 5) = .bool (decide (0 ≤ z1))), c_7, -⟩ := hf
      exact sg_plain rfl rfl (or_and f_5 (fun hx => c_7.1 hx) rfl (osome hx15).symm)
    refine steps_cons (fun own a wx hf hsl hE => ?_) ?_
    · obtain ⟨(f_8 : a.eval (.tmp 8) = .bool x15), -⟩ := hf
      exact sg_plain rfl rfl (or_assign f_8)
    exact steps_nil
  intro own16 a16 w16 hd16 hz16 hk16 hf16 hE16
  obtain ⟨(f_2 : a16.eval (.tmp 2) = .bool x15), -⟩ := hf16 [6] rfl
  have e16_2 := f_2
  have hX16 := Evo.step hX14 (fun _ => Nat.le_refl 0) hE16 rfl
  refine fl_ret ?_
  obtain rfl := (osome hs).symm
  exact hret _ _ _ _ (.inl rfl) hd16 (results1_ rfl (RVal.tmp_ e16_2)) ⟨own16, rfl, hX16⟩

theorem ref01_Power_w (w : World) (s1 : Int) (r : Int) (hs : ref01_Power s1 = some r) :
    Calls Try.prog 39 #[.int .i64 s1] w fun e w' => ∃ own' : Own, e = .returned (.int .i64 r) ∧ Evo [] (fun _ => 0) own' w w' := by
  refine fl_enter (n := 13) rfl rfl rfl (Nat.le_of_ble_eq_true rfl) ?_
  intro a0 Q hd0 hz0 harg hret
  have ha0 := harg 0 _ rfl
  clear harg
  have hE0 : Evo [] (fun _ => 0) (fun _ => 0) w w := Evo.refl _ _ _
  refine rg_plain_seq (n := 13) (rs := []) (own0 := (fun _ => 0)) (K := [])
      (bs := [0])
      (ds := [⟨[], [], [], Fct.val 2 (.int .i64 0)⟩]) (by kernel_rfl) hz0 hd0 (fun _ h => nomatch h) ?_ ?_
  · refine steps_cons (fun own a wx hf hsl hE => ?_) ?_
    · exact sg_plain rfl rfl (or_assign rfl)
    exact steps_nil
  intro own44 a44 w44 hd44 hz44 hk44 hf44 hE44
  have e44_0 : a44.eval (.tmp 0) = .int .i64 s1 := (hk44 0 rfl).trans ha0
  have hX44 := Evo.step hE0 (fun _ => Nat.le_refl 0) hE44 rfl
  refine rg_plain_seq (n := 13) (rs := []) (own0 := own44) (K := [])
      (bs := [0])
      (ds := [⟨[], [], [], Fct.val 3 (.int .i64 1)⟩]) (by kernel_rfl) hz44 hd44 (fun _ h => nomatch h) ?_ ?_
  · refine steps_cons (fun own a wx hf hsl hE => ?_) ?_
    · exact sg_plain rfl rfl (or_assign rfl)
    exact steps_nil
  intro own45 a45 w45 hd45 hz45 hk45 hf45 hE45
  have e45_0 : a45.eval (.tmp 0) = .int .i64 s1 := (hk45 0 rfl).trans e44_0
  obtain ⟨(f_3 : a45.eval (.tmp 3) = .int .i64 1), -⟩ := hf45 [0] rfl
  have e45_3 := f_3
  have hX45 := Evo.step hX44 (fun _ => Nat.le_refl 0) hE45 rfl
  refine fl_seq (fun Q46 hn46 hp46 => ?_)
  refine rg_plain_seq (n := 13) (rs := []) (own0 := own45) (K := [])
      (bs := [0])
      (ds := [⟨[], [], [], Fct.val 4 (.int .i64 0)⟩]) (by kernel_rfl) hz45 hd45 (fun _ h => nomatch h) ?_ ?_
  · refine steps_cons (fun own a wx hf hsl hE => ?_) ?_
    · exact sg_plain rfl rfl (or_assign rfl)
    exact steps_nil
  intro own47 a47 w47 hd47 hz47 hk47 hf47 hE47
  have e47_0 : a47.eval (.tmp 0) = .int .i64 s1 := (hk47 0 rfl).trans e45_0
  have e47_3 : a47.eval (.tmp 3) = .int .i64 1 := (hk47 3 rfl).trans e45_3
  obtain ⟨(f_4 : a47.eval (.tmp 4) = .int .i64 0), -⟩ := hf47 [0] rfl
  have e47_4 := f_4
  have hX47 := Evo.step hX45 (fun _ => Nat.le_refl 0) hE47 rfl
  refine fl_block (fun Q48 hn48 hx48 hp48 => ?_)
  refine fl_loop (body := (fun s => ref01_Power_b1 s1 s.1 s.2)) (z := r) (show loopO _ _ = _ from hs) (fun (s : Int × Int) a wx => match s with | (n57, i58) => ∃ (ox : Own), a.defers = [] ∧ a.tmps.size = 13 ∧ a.eval (.tmp 0) = .int .i64 s1 ∧ a.eval (.tmp 3) = .int .i64 n57 ∧ a.eval (.tmp 4) = .int .i64 i58 ∧ Evo [] (fun _ => 0) ox w wx) ?_ ?_
  · exact ⟨own47, hd47, hz47, e47_0, e47_3, e47_4, hX47⟩
  · rintro ⟨n57, i58⟩ zz67 a67 w67 ⟨own67, hd68, hz68, e68_0, e68_3, e68_4, hE68⟩ hs Q67 hn67 hp67 hz67
    have hs : ref01_Power_b1 s1 n57 i58 = some zz67 := hs
    refine fl_seq (fun Q69 hn69 hp69 => ?_)
    refine rg_plain_seq (n := 13) (rs := []) (own0 := own67) (K := [])
        (bs := [0, 0, 3])
        (ds := [⟨[], [4], [], Fct.val 5 (.int .i64 i58)⟩,
        ⟨[], [0], [], Fct.val 6 (.int .i64 s1)⟩,
        ⟨[0, 1], [], [], Fct.val 7 (.bool (decide (i58 < s1)))⟩]) (by kernel_rfl) hz68 hd68 (fun _ h => nomatch h) ?_ ?_
    · refine steps_cons (fun own a wx hf hsl hE => ?_) ?_
      · obtain ⟨s_4, -⟩ := hsl
        exact sg_plain rfl rfl (or_move (s_4.trans e68_4))
      refine steps_cons (fun own a wx hf hsl hE => ?_) ?_
      · obtain ⟨s_0, -⟩ := hsl
        exact sg_plain rfl rfl (or_move (s_0.trans e68_0))
      refine steps_cons (fun own a wx hf hsl hE => ?_) ?_
      · obtain ⟨(f_5 : a.eval (.tmp 5) = .int .i64 i58), (f_6 : a.eval (.tmp 6) = .int .i64 s1), -⟩ := hf
        exact sg_plain rfl rfl (or_lss f_5 f_6 rfl)
      exact steps_nil
    intro own70 a70 w70 hd70 hz70 hk70 hf70 hE70
    have e70_0 : a70.eval (.tmp 0) = .int .i64 s1 := (hk70 0 rfl).trans e68_0
    have e70_3 : a70.eval (.tmp 3) = .int .i64 n57 := (hk70 3 rfl).trans e68_3
    have e70_4 : a70.eval (.tmp 4) = .int .i64 i58 := (hk70 4 rfl).trans e68_4
    obtain ⟨(f_7 : a70.eval (.tmp 7) = .bool (decide (i58 < s1))), -⟩ := hf70 [2] rfl
    have e70_7 := f_7
    have hX70 := Evo.step hE68 (fun _ => Nat.le_refl 0) hE70 rfl
    refine fl_cond e70_7 hs (fun c71 hs => ?_) (fun c71 hs => ?_)
    · refine fl_skip ?_
      refine hn69 _ _ ?_
      refine fl_seq (fun Q72 hn72 hp72 => ?_)
      refine fl_block (fun Q73 hn73 hx73 hp73 => ?_)
      refine rg_plain (n := 13) (rs := []) (own0 := own70) (K := [])
          (bs := [0, 1, 3])
          (ds := [⟨[], [3], [], Fct.val 10 (.int .i64 n57)⟩,
          ⟨[0], [], [], Fct.val 11 (.int .i64 (ml 2 n57))⟩,
          ⟨[1], [], [], Fct.val 3 (.int .i64 (ml 2 n57))⟩]) (by kernel_rfl) hz70 hd70 (fun _ h => nomatch h) ?_ ?_
      · refine steps_cons (fun own a wx hf hsl hE => ?_) ?_
        · obtain ⟨s_3, -⟩ := hsl
          exact sg_plain rfl rfl (or_move (s_3.trans e70_3))
        refine steps_cons (fun own a wx hf hsl hE => ?_) ?_
        · obtain ⟨(f_10 : a.eval (.tmp 10) = .int .i64 n57), -⟩ := hf
          exact sg_plain rfl rfl (or_mul rfl f_10 rfl)
        refine steps_cons (fun own a wx hf hsl hE => ?_) ?_
        · obtain ⟨(f_11 : a.eval (.tmp 11) = .int .i64 (ml 2 n57)), -⟩ := hf
          exact sg_plain rfl rfl (or_assign f_11)
        exact steps_nil
      intro own74 a74 w74 hd74 hz74 hk74 hf74 hE74
      have e74_0 : a74.eval (.tmp 0) = .int .i64 s1 := (hk74 0 rfl).trans e70_0
      have e74_4 : a74.eval (.tmp 4) = .int .i64 i58 := (hk74 4 rfl).trans e70_4
      obtain ⟨(f_3 : a74.eval (.tmp 3) = .int .i64 (ml 2 n57)), -⟩ := hf74 [2] rfl
      have e74_3 := f_3
      have hX74 := Evo.step hX70 (fun _ => Nat.le_refl 0) hE74 rfl
      refine hn73 _ _ ?_
      refine hn72 _ _ ?_
      refine rg_plain (n := 13) (rs := []) (own0 := own74) (K := [])
          (bs := [0, 1, 3])
          (ds := [⟨[], [4], [], Fct.val 8 (.int .i64 i58)⟩,
          ⟨[0], [], [], Fct.val 9 (.int .i64 (ad i58 1))⟩,
          ⟨[1], [], [], Fct.val 4 (.int .i64 (ad i58 1))⟩]) (by kernel_rfl) hz74 hd74 (fun _ h => nomatch h) ?_ ?_
      · refine steps_cons (fun own a wx hf hsl hE => ?_) ?_
        · obtain ⟨s_4, -⟩ := hsl
          exact sg_plain rfl rfl (or_move (s_4.trans e74_4))
        refine steps_cons (fun own a wx hf hsl hE => ?_) ?_
        · obtain ⟨(f_8 : a.eval (.tmp 8) = .int .i64 i58), -⟩ := hf
          exact sg_plain rfl rfl (or_add f_8 rfl rfl)
        refine steps_cons (fun own a wx hf hsl hE => ?_) ?_
        · obtain ⟨(f_9 : a.eval (.tmp 9) = .int .i64 (ad i58 1)), -⟩ := hf
          exact sg_plain rfl rfl (or_assign f_9)
        exact steps_nil
      intro own75 a75 w75 hd75 hz75 hk75 hf75 hE75
      have e75_0 : a75.eval (.tmp 0) = .int .i64 s1 := (hk75 0 rfl).trans e74_0
      have e75_3 : a75.eval (.tmp 3) = .int .i64 (ml 2 n57) := (hk75 3 rfl).trans e74_3
      obtain ⟨(f_4 : a75.eval (.tmp 4) = .int .i64 (ad i58 1)), -⟩ := hf75 [2] rfl
      have e75_4 := f_4
      have hX75 := Evo.step hX74 (fun _ => Nat.le_refl 0) hE75 rfl
      exact hn67 _ _ _ hs ⟨own75, hd75, hz75, e75_0, e75_3, e75_4, hX75⟩
    refine fl_exit ?_
    refine hp69 _ _ _ rfl ?_
    replace hs := hz67 _ hs
    refine hp67 _ _ _ rfl ?_
    refine hx48 _ _ ?_
    refine hn46 _ _ ?_
    refine rg_plain_seq (n := 13) (rs := []) (own0 := own70) (K := [])
        (bs := [0, 1])
        (ds := [⟨[], [3], [], Fct.val 12 (.int .i64 n57)⟩,
        ⟨[0], [], [], Fct.val 2 (.int .i64 n57)⟩]) (by kernel_rfl) hz70 hd70 (fun _ h => nomatch h) ?_ ?_
    · refine steps_cons (fun own a wx hf hsl hE => ?_) ?_
      · obtain ⟨s_3, -⟩ := hsl
        exact sg_plain rfl rfl (or_move (s_3.trans e70_3))
      refine steps_cons (fun own a wx hf hsl hE => ?_) ?_
      · obtain ⟨(f_12 : a.eval (.tmp 12) = .int .i64 n57), -⟩ := hf
        exact sg_plain rfl rfl (or_assign f_12)
      exact steps_nil
    intro own76 a76 w76 hd76 hz76 hk76 hf76 hE76
    obtain ⟨(f_2 : a76.eval (.tmp 2) = .int .i64 n57), -⟩ := hf76 [1] rfl
    have e76_2 := f_2
    have hX76 := Evo.step hX70 (fun _ => Nat.le_refl 0) hE76 rfl
    refine fl_ret ?_
    obtain rfl := (osome hs).symm
    exact hret _ _ _ _ (.inl rfl) hd76 (results1_ rfl (RVal.tmp_ e76_2)) ⟨own76, rfl, hX76⟩

theorem ref20_Right_w (w : World) (t1 : Int × Int × Int) (r : Bool) (hs : ref20_Right t1 = some r) :
    Calls Try.prog 21 #[.agg #[.int .i64 t1.1, .int .i64 t1.2.1, .int .i64 t1.2.2]] w fun e w' => ∃ own' : Own, e = .returned (.bool r) ∧ Evo [] (fun _ => 0) own' w w' := by
  refine fl_enter (n := 32) rfl rfl rfl (Nat.le_of_ble_eq_true rfl) ?_
  intro a0 Q hd0 hz0 harg hret
  have ha0 := harg 0 _ rfl
  clear harg
  have hE0 : Evo [] (fun _ => 0) (fun _ => 0) w w := Evo.refl _ _ _
  refine rg_plain_seq (n := 32) (rs := []) (own0 := (fun _ => 0)) (K := [])
      (bs := [0, 0])
      (ds := [⟨[], [0], [], Fct.blk 21 1 (fun g => .pointer (some ⟨g, 0, none⟩)) 30 #[.int .i64 t1.1, .int .i64 t1.2.1, .int .i64 t1.2.2]⟩,
      ⟨[], [], [], Fct.val 2 (.bool false)⟩]) (by kernel_rfl) hz0 hd0 (fun _ h => nomatch h) ?_ ?_
  · refine steps_cons (fun own a wx hf hsl hE => ?_) ?_
    · obtain ⟨s_0, -⟩ := hsl
      exact sg_plain rfl rfl (or_new [(0, .agg #[.int .i64 t1.1, .int .i64 t1.2.1, .int .i64 t1.2.2])] rfl rfl ⟨(s_0.trans ha0), trivial⟩ (by kernel_rfl))
    refine steps_cons (fun own a wx hf hsl hE => ?_) ?_
    · exact sg_plain rfl rfl (or_assign rfl)
    exact steps_nil
  intro own22 a22 w22 hd22 hz22 hk22 hf22 hE22
  obtain ⟨⟨g20, (f_1 : a22.eval (.tmp 1) = .pointer (some ⟨g20, 0, none⟩)), (b_g20 : BlkO own22 21 w22 g20 30 #[.int .i64 t1.1, .int .i64 t1.2.1, .int .i64 t1.2.2])⟩, -⟩ := hf22 [0] rfl
  have e22_1 := f_1
  have hX22 := Evo.step hE0 (fun _ => Nat.le_refl 0) hE22 rfl
  have b22_g20 := b_g20
  obtain ⟨r23, hr23, hs⟩ := obind hs
  obtain ⟨r24, hr24, hs⟩ := obind hs
  obtain ⟨x25, hx25, hs⟩ := obind hs
  obtain ⟨r26, hr26, hs⟩ := obind hs
  obtain ⟨x27, hx27, hs⟩ := obind hs
  refine rg_draw_seq g_mixed (n := 32) (rs := []) (own0 := own22) (K := [])
      (bs := [0, 1, 3, 7, 15, 31, 63, 127, 255, 511, 1023, 511, 2559, 6655, 16383, 32767, 65535, 131071, 262143, 524287, 1048575, 2097151, 4194303, 8388607, 4194303, 20971519, 54525951, 134217727, 268435455, 536870911])
      (ds := [⟨[], [1], [], Fct.val 3 (.pointer (some ⟨g20, 0, none⟩))⟩,
      ⟨[0], [], [], Fct.val 4 (.int .i64 t1.1)⟩,
      ⟨[1], [], [], Fct.val 5 (.bool r23)⟩,
      ⟨[2], [], [], Fct.val 6 (.bool r23)⟩,
      ⟨[3], [1], [], Fct.cond r23 (some 7) (Fct.val 7 (.pointer (some ⟨g20, 1, none⟩)))⟩,
      ⟨[3, 4], [], [], Fct.cond r23 (some 8) (Fct.val 8 (.int .i64 t1.2.1))⟩,
      ⟨[3, 5], [], [], Fct.cond r23 (some 9) (Fct.val 9 (.bool (decide (0 ≤ t1.2.1))))⟩,
      ⟨[3, 6], [], [], Fct.val 10 (.bool (r23 && (decide (0 ≤ t1.2.1))))⟩,
      ⟨[7], [], [], Fct.val 11 (.bool (r23 && (decide (0 ≤ t1.2.1))))⟩,
      ⟨[8], [1], [], Fct.cond (r23 && (decide (0 ≤ t1.2.1))) (some 12) (Fct.val 12 (.pointer (some ⟨g20, 1, none⟩)))⟩,
      ⟨[8, 9], [], [], Fct.cond (r23 && (decide (0 ≤ t1.2.1))) (some 13) (Fct.val 13 (.int .i64 t1.2.1))⟩,
      ⟨[8], [1], [], Fct.cond (r23 && (decide (0 ≤ t1.2.1))) (some 14) (Fct.val 14 (.pointer (some ⟨g20, 0, none⟩)))⟩,
      ⟨[8, 11], [], [], Fct.cond (r23 && (decide (0 ≤ t1.2.1))) (some 15) (Fct.val 15 (.int .i64 t1.1))⟩,
      ⟨[8, 12], [], [], Fct.cond (r23 && (decide (0 ≤ t1.2.1))) (some 16) (Fct.val 16 (.int .i64 r24))⟩,
      ⟨[8, 10, 13], [], [], Fct.cond (r23 && (decide (0 ≤ t1.2.1))) (some 17) (Fct.val 17 (.bool (decide (t1.2.1 < r24))))⟩,
      ⟨[8, 14], [], [], Fct.val 18 (.bool x25)⟩,
      ⟨[15], [], [], Fct.val 19 (.bool x25)⟩,
      ⟨[16], [1], [], Fct.cond x25 (some 20) (Fct.val 20 (.pointer (some ⟨g20, 2, none⟩)))⟩,
      ⟨[16, 17], [], [], Fct.cond x25 (some 21) (Fct.val 21 (.int .i64 t1.2.2))⟩,
      ⟨[16, 18], [], [], Fct.cond x25 (some 22) (Fct.val 22 (.bool (decide (0 ≤ t1.2.2))))⟩,
      ⟨[16, 19], [], [], Fct.val 23 (.bool (x25 && (decide (0 ≤ t1.2.2))))⟩,
      ⟨[20], [], [], Fct.val 24 (.bool (x25 && (decide (0 ≤ t1.2.2))))⟩,
      ⟨[21], [1], [], Fct.cond (x25 && (decide (0 ≤ t1.2.2))) (some 25) (Fct.val 25 (.pointer (some ⟨g20, 2, none⟩)))⟩,
      ⟨[21, 22], [], [], Fct.cond (x25 && (decide (0 ≤ t1.2.2))) (some 26) (Fct.val 26 (.int .i64 t1.2.2))⟩,
      ⟨[21], [1], [], Fct.cond (x25 && (decide (0 ≤ t1.2.2))) (some 27) (Fct.val 27 (.pointer (some ⟨g20, 0, none⟩)))⟩,
      ⟨[21, 24], [], [], Fct.cond (x25 && (decide (0 ≤ t1.2.2))) (some 28) (Fct.val 28 (.int .i64 t1.1))⟩,
      ⟨[21, 25], [], [], Fct.cond (x25 && (decide (0 ≤ t1.2.2))) (some 29) (Fct.val 29 (.int .i64 r26))⟩,
      ⟨[21, 23, 26], [], [], Fct.cond (x25 && (decide (0 ≤ t1.2.2))) (some 30) (Fct.val 30 (.bool (decide (t1.2.2 < r26))))⟩,
      ⟨[21, 27], [], [], Fct.val 31 (.bool x27)⟩,
      ⟨[28], [], [], Fct.val 2 (.bool x27)⟩]) (by kernel_rfl) hz22 hd22 (fun _ h => nomatch h) ?_ ?_
  · refine steps_cons (fun own a wx hf hsl hE => ?_) ?_
    · obtain ⟨s_1, -⟩ := hsl
      exact sg_plain rfl rfl (or_field fo30_0 (s_1.trans e22_1) (by rfl))
    refine steps_cons (fun own a wx hf hsl hE => ?_) ?_
    · obtain ⟨(f_3 : a.eval (.tmp 3) = .pointer (some ⟨g20, 0, none⟩)), -⟩ := hf
      exact sg_plain rfl rfl (or_load1 to3 f_3 (Blk.at_ (BlkO.evo (by decide) hE b22_g20).2 0 rfl))
    refine steps_cons (fun own a wx hf hsl hE => ?_) ?_
    · obtain ⟨(f_4 : a.eval (.tmp 4) = .int .i64 t1.1), -⟩ := hf
      exact sg_plain rfl rfl (or_call cf38 (args1 f_4) (ref16_Level_w _ t1.1  r23 hr23) post_val)
    refine steps_cons (fun own a wx hf hsl hE => ?_) ?_
    · obtain ⟨(f_5 : a.eval (.tmp 5) = .bool r23), -⟩ := hf
      exact sg_plain rfl rfl (or_move f_5)
    refine steps_cons (fun own a wx hf hsl hE => ?_) ?_
    · obtain ⟨(f_6 : a.eval (.tmp 6) = .bool r23), -⟩ := hf
      obtain ⟨s_1, -⟩ := hsl
      refine sg_t rfl rfl rfl f_6 (fun hg => ?_)
      exact or_field fo30_1 (s_1.trans e22_1) (by rfl)
    refine steps_cons (fun own a wx hf hsl hE => ?_) ?_
    · obtain ⟨(f_6 : a.eval (.tmp 6) = .bool r23), c_7, -⟩ := hf
      refine sg_t rfl rfl rfl f_6 (fun hg => ?_)
      have f_7 : a.eval (.tmp 7) = .pointer (some ⟨g20, 1, none⟩) := c_7.1 hg
      exact or_load1 to3 f_7 (Blk.at_ (BlkO.evo (by decide) hE b22_g20).2 1 rfl)
    refine steps_cons (fun own a wx hf hsl hE => ?_) ?_
    · obtain ⟨(f_6 : a.eval (.tmp 6) = .bool r23), c_8, -⟩ := hf
      refine sg_t rfl rfl rfl f_6 (fun hg => ?_)
      have f_8 : a.eval (.tmp 8) = .int .i64 t1.2.1 := c_8.1 hg
      exact or_geq f_8 rfl rfl
    refine steps_cons (fun own a wx hf hsl hE => ?_) ?_
    · obtain ⟨(f_6 : a.eval (.tmp 6) = .bool r23), c_9, -⟩ := hf
      exact sg_plain rfl rfl (or_and f_6 (fun hx => c_9.1 hx) rfl rfl)
    refine steps_cons (fun own a wx hf hsl hE => ?_) ?_
    · obtain ⟨(f_10 : a.eval (.tmp 10) = .bool (r23 && (decide (0 ≤ t1.2.1)))), -⟩ := hf
      exact sg_plain rfl rfl (or_move f_10)
    refine steps_cons (fun own a wx hf hsl hE => ?_) ?_
    · obtain ⟨(f_11 : a.eval (.tmp 11) = .bool (r23 && (decide (0 ≤ t1.2.1)))), -⟩ := hf
      obtain ⟨s_1, -⟩ := hsl
      refine sg_t rfl rfl rfl f_11 (fun hg => ?_)
      exact or_field fo30_1 (s_1.trans e22_1) (by rfl)
    refine steps_cons (fun own a wx hf hsl hE => ?_) ?_
    · obtain ⟨(f_11 : a.eval (.tmp 11) = .bool (r23 && (decide (0 ≤ t1.2.1)))), c_12, -⟩ := hf
      refine sg_t rfl rfl rfl f_11 (fun hg => ?_)
      have f_12 : a.eval (.tmp 12) = .pointer (some ⟨g20, 1, none⟩) := c_12.1 hg
      exact or_load1 to3 f_12 (Blk.at_ (BlkO.evo (by decide) hE b22_g20).2 1 rfl)
    refine steps_cons (fun own a wx hf hsl hE => ?_) ?_
    · obtain ⟨(f_11 : a.eval (.tmp 11) = .bool (r23 && (decide (0 ≤ t1.2.1)))), -⟩ := hf
      obtain ⟨s_1, -⟩ := hsl
      refine sg_t rfl rfl rfl f_11 (fun hg => ?_)
      exact or_field fo30_0 (s_1.trans e22_1) (by rfl)
    refine steps_cons (fun own a wx hf hsl hE => ?_) ?_
    · obtain ⟨(f_11 : a.eval (.tmp 11) = .bool (r23 && (decide (0 ≤ t1.2.1)))), c_14, -⟩ := hf
      refine sg_t rfl rfl rfl f_11 (fun hg => ?_)
      have f_14 : a.eval (.tmp 14) = .pointer (some ⟨g20, 0, none⟩) := c_14.1 hg
      exact or_load1 to3 f_14 (Blk.at_ (BlkO.evo (by decide) hE b22_g20).2 0 rfl)
    refine steps_cons (fun own a wx hf hsl hE => ?_) ?_
    · obtain ⟨(f_11 : a.eval (.tmp 11) = .bool (r23 && (decide (0 ≤ t1.2.1)))), c_15, -⟩ := hf
      refine sg_t rfl rfl rfl f_11 (fun hg => ?_)
      have f_15 : a.eval (.tmp 15) = .int .i64 t1.1 := c_15.1 hg
      exact or_call cf39 (args1 f_15) (ref01_Power_w _ t1.1  r24 (gd_t hr24 hg)) post_val
    refine steps_cons (fun own a wx hf hsl hE => ?_) ?_
    · obtain ⟨(f_11 : a.eval (.tmp 11) = .bool (r23 && (decide (0 ≤ t1.2.1)))), c_13, c_16, -⟩ := hf
      refine sg_t rfl rfl rfl f_11 (fun hg => ?_)
      have f_13 : a.eval (.tmp 13) = .int .i64 t1.2.1 := c_13.1 hg
      have f_16 : a.eval (.tmp 16) = .int .i64 r24 := c_16.1 hg
      exact or_lss f_13 f_16 rfl
    refine steps_cons (fun own a wx hf hsl hE => ?_) ?_
    · obtain ⟨(f_11 : a.eval (.tmp 11) = .bool (r23 && (decide (0 ≤ t1.2.1)))), c_17, -⟩ := hf
      exact sg_plain rfl rfl (or_and f_11 (fun hx => c_17.1 hx) rfl (osome hx25).symm)
    refine steps_cons (fun own a wx hf hsl hE => ?_) ?_
    · obtain ⟨(f_18 : a.eval (.tmp 18) = .bool x25), -⟩ := hf
      exact sg_plain rfl rfl (or_move f_18)
    refine steps_cons (fun own a wx hf hsl hE => ?_) ?_
    · obtain ⟨(f_19 : a.eval (.tmp 19) = .bool x25), -⟩ := hf
      obtain ⟨s_1, -⟩ := hsl
      refine sg_t rfl rfl rfl f_19 (fun hg => ?_)
      exact or_field fo30_2 (s_1.trans e22_1) (by rfl)
    refine steps_cons (fun own a wx hf hsl hE => ?_) ?_
    · obtain ⟨(f_19 : a.eval (.tmp 19) = .bool x25), c_20, -⟩ := hf
      refine sg_t rfl rfl rfl f_19 (fun hg => ?_)
      have f_20 : a.eval (.tmp 20) = .pointer (some ⟨g20, 2, none⟩) := c_20.1 hg
      exact or_load1 to3 f_20 (Blk.at_ (BlkO.evo (by decide) hE b22_g20).2 2 rfl)
    refine steps_cons (fun own a wx hf hsl hE => ?_) ?_
    · obtain ⟨(f_19 : a.eval (.tmp 19) = .bool x25), c_21, -⟩ := hf
      refine sg_t rfl rfl rfl f_19 (fun hg => ?_)
      have f_21 : a.eval (.tmp 21) = .int .i64 t1.2.2 := c_21.1 hg
      exact or_geq f_21 rfl rfl
    refine steps_cons (fun own a wx hf hsl hE => ?_) ?_
    · obtain ⟨(f_19 : a.eval (.tmp 19) = .bool x25), c_22, -⟩ := hf
      exact sg_plain rfl rfl (or_and f_19 (fun hx => c_22.1 hx) rfl rfl)
    refine steps_cons (fun own a wx hf hsl hE => ?_) ?_
    · obtain ⟨(f_23 : a.eval (.tmp 23) = .bool (x25 && (decide (0 ≤ t1.2.2)))), -⟩ := hf
      exact sg_plain rfl rfl (or_move f_23)
    refine steps_cons (fun own a wx hf hsl hE => ?_) ?_
    · obtain ⟨(f_24 : a.eval (.tmp 24) = .bool (x25 && (decide (0 ≤ t1.2.2)))), -⟩ := hf
      obtain ⟨s_1, -⟩ := hsl
      refine sg_t rfl rfl rfl f_24 (fun hg => ?_)
      exact or_field fo30_2 (s_1.trans e22_1) (by rfl)
    refine steps_cons (fun own a wx hf hsl hE => ?_) ?_
    · obtain ⟨(f_24 : a.eval (.tmp 24) = .bool (x25 && (decide (0 ≤ t1.2.2)))), c_25, -⟩ := hf
      refine sg_t rfl rfl rfl f_24 (fun hg => ?_)
      have f_25 : a.eval (.tmp 25) = .pointer (some ⟨g20, 2, none⟩) := c_25.1 hg
      exact or_load1 to3 f_25 (Blk.at_ (BlkO.evo (by decide) hE b22_g20).2 2 rfl)
    refine steps_cons (fun own a wx hf hsl hE => ?_) ?_
    · obtain ⟨(f_24 : a.eval (.tmp 24) = .bool (x25 && (decide (0 ≤ t1.2.2)))), -⟩ := hf
      obtain ⟨s_1, -⟩ := hsl
      refine sg_t rfl rfl rfl f_24 (fun hg => ?_)
      exact or_field fo30_0 (s_1.trans e22_1) (by rfl)
    refine steps_cons (fun own a wx hf hsl hE => ?_) ?_
    · obtain ⟨(f_24 : a.eval (.tmp 24) = .bool (x25 && (decide (0 ≤ t1.2.2)))), c_27, -⟩ := hf
      refine sg_t rfl rfl rfl f_24 (fun hg => ?_)
      have f_27 : a.eval (.tmp 27) = .pointer (some ⟨g20, 0, none⟩) := c_27.1 hg
      exact or_load1 to3 f_27 (Blk.at_ (BlkO.evo (by decide) hE b22_g20).2 0 rfl)
    refine steps_cons (fun own a wx hf hsl hE => ?_) ?_
    · obtain ⟨(f_24 : a.eval (.tmp 24) = .bool (x25 && (decide (0 ≤ t1.2.2)))), c_28, -⟩ := hf
      refine sg_t rfl rfl rfl f_24 (fun hg => ?_)
      have f_28 : a.eval (.tmp 28) = .int .i64 t1.1 := c_28.1 hg
      exact or_call cf39 (args1 f_28) (ref01_Power_w _ t1.1  r26 (gd_t hr26 hg)) post_val
    refine steps_cons (fun own a wx hf hsl hE => ?_) ?_
    · obtain ⟨(f_24 : a.eval (.tmp 24) = .bool (x25 && (decide (0 ≤ t1.2.2)))), c_26, c_29, -⟩ := hf
      refine sg_t rfl rfl rfl f_24 (fun hg => ?_)
      have f_26 : a.eval (.tmp 26) = .int .i64 t1.2.2 := c_26.1 hg
      have f_29 : a.eval (.tmp 29) = .int .i64 r26 := c_29.1 hg
      exact or_lss f_26 f_29 rfl
    refine steps_cons (fun own a wx hf hsl hE => ?_) ?_
    · obtain ⟨(f_24 : a.eval (.tmp 24) = .bool (x25 && (decide (0 ≤ t1.2.2)))), c_30, -⟩ := hf
      exact sg_plain rfl rfl (or_and f_24 (fun hx => c_30.1 hx) rfl (osome hx27).symm)
    refine steps_cons (fun own a wx hf hsl hE => ?_) ?_
    · obtain ⟨(f_31 : a.eval (.tmp 31) = .bool x27), -⟩ := hf
      exact sg_plain rfl rfl (or_assign f_31)
    exact steps_nil
  intro own28 a28 w28 hd28 hz28 hk28 hf28 hE28
  obtain ⟨(f_2 : a28.eval (.tmp 2) = .bool x27), -⟩ := hf28 [29] rfl
  have e28_2 := f_2
  have hX28 := Evo.step hX22 (fun _ => Nat.le_refl 0) hE28 rfl
  refine fl_ret ?_
  obtain rfl := (osome hs).symm
  exact hret _ _ _ _ (.inl rfl) hd28 (results1_ rfl (RVal.tmp_ e28_2)) ⟨own28, rfl, hX28⟩

theorem ref20_Window_w (w : World) (t1 : Int × Int × Int) (b2 : Int) (r : ((Int × Int) × (Int × Int)) × Bool) (hs : ref20_Window t1 b2 = some r) :
    Calls Try.prog 19 #[.agg #[.int .i64 t1.1, .int .i64 t1.2.1, .int .i64 t1.2.2], .int .i64 b2] w fun e w' => ∃ own' : Own, e = .returned (.tuple #[.agg #[.int .i64 r.1.1.1, .int .i64 r.1.1.2, .int .i64 r.1.2.1, .int .i64 r.1.2.2], .bool r.2]) ∧ Evo [] (fun _ => 0) own' w w' := by
  refine fl_enter (n := 43) rfl rfl rfl (Nat.le_of_ble_eq_true rfl) ?_
  intro a0 Q hd0 hz0 harg hret
  have ha0 := harg 0 _ rfl
  have ha1 := harg 1 _ rfl
  clear harg
  have hE0 : Evo [] (fun _ => 0) (fun _ => 0) w w := Evo.refl _ _ _
  refine rg_plain_seq (n := 43) (rs := []) (own0 := (fun _ => 0)) (K := [])
      (bs := [0, 0, 0])
      (ds := [⟨[], [0], [], Fct.blk 26 2 (fun g => .pointer (some ⟨g, 0, none⟩)) 30 #[.int .i64 t1.1, .int .i64 t1.2.1, .int .i64 t1.2.2]⟩,
      ⟨[], [], [], Fct.blk 28 4 (fun g => .pointer (some ⟨g, 0, none⟩)) 41 #[.int .i64 0, .int .i64 0, .int .i64 0, .int .i64 0]⟩,
      ⟨[], [], [], Fct.val 5 (.bool false)⟩]) (by kernel_rfl) hz0 hd0 (fun _ h => nomatch h) ?_ ?_
  · refine steps_cons (fun own a wx hf hsl hE => ?_) ?_
    · obtain ⟨s_0, -⟩ := hsl
      exact sg_plain rfl rfl (or_new [(0, .agg #[.int .i64 t1.1, .int .i64 t1.2.1, .int .i64 t1.2.2])] rfl rfl ⟨(s_0.trans ha0), trivial⟩ (by kernel_rfl))
    refine steps_cons (fun own a wx hf hsl hE => ?_) ?_
    · exact sg_plain rfl rfl (or_new [] rfl rfl trivial (by kernel_rfl))
    refine steps_cons (fun own a wx hf hsl hE => ?_) ?_
    · exact sg_plain rfl rfl (or_assign rfl)
    exact steps_nil
  intro own29 a29 w29 hd29 hz29 hk29 hf29 hE29
  have e29_1 : a29.eval (.tmp 1) = .int .i64 b2 := (hk29 1 rfl).trans ha1
  obtain ⟨⟨g25, (f_2 : a29.eval (.tmp 2) = .pointer (some ⟨g25, 0, none⟩)), (b_g25 : BlkO own29 26 w29 g25 30 #[.int .i64 t1.1, .int .i64 t1.2.1, .int .i64 t1.2.2])⟩, ⟨g27, (f_4 : a29.eval (.tmp 4) = .pointer (some ⟨g27, 0, none⟩)), (b_g27 : BlkO own29 28 w29 g27 41 #[.int .i64 0, .int .i64 0, .int .i64 0, .int .i64 0])⟩, -⟩ := hf29 [0, 1] rfl
  have e29_2 := f_2
  have e29_4 := f_4
  have hX29 := Evo.step hE0 (fun _ => Nat.le_refl 0) hE29 rfl
  have b29_g25 := b_g25
  have b29_g27 := b_g27
  refine fl_seq (fun Q30 hn30 hp30 => ?_)
  obtain ⟨r31, hr31, hs⟩ := obind hs
  obtain ⟨x32, hx32, hs⟩ := obind hs
  refine rg_plain_seq (n := 43) (rs := []) (own0 := own29) (K := [])
      (bs := [0, 1, 3, 7, 15, 31, 63, 127, 255, 511, 1023])
      (ds := [⟨[], [2], [], Fct.val 6 (.agg #[.int .i64 t1.1, .int .i64 t1.2.1, .int .i64 t1.2.2])⟩,
      ⟨[0], [], [], Fct.val 7 (.bool r31)⟩,
      ⟨[1], [], [], Fct.val 8 (.bool (!r31))⟩,
      ⟨[2], [], [], Fct.val 9 (.bool (!r31))⟩,
      ⟨[3], [1], [], Fct.cond (!(!r31)) (some 10) (Fct.val 10 (.int .i64 b2))⟩,
      ⟨[3, 4], [], [], Fct.cond (!(!r31)) (some 11) (Fct.val 11 (.bool (decide (b2 < 0))))⟩,
      ⟨[3, 5], [], [], Fct.val 12 (.bool ((!r31) || (decide (b2 < 0))))⟩,
      ⟨[6], [], [], Fct.val 13 (.bool ((!r31) || (decide (b2 < 0))))⟩,
      ⟨[7], [1], [], Fct.cond (!((!r31) || (decide (b2 < 0)))) (some 14) (Fct.val 14 (.int .i64 b2))⟩,
      ⟨[7, 8], [], [], Fct.cond (!((!r31) || (decide (b2 < 0)))) (some 15) (Fct.val 15 (.bool (decide (2047 < b2))))⟩,
      ⟨[7, 9], [], [], Fct.val 16 (.bool x32)⟩]) (by kernel_rfl) hz29 hd29 (fun _ h => nomatch h) ?_ ?_
  · refine steps_cons (fun own a wx hf hsl hE => ?_) ?_
    · obtain ⟨s_2, -⟩ := hsl
      exact sg_plain rfl rfl (or_load (l := [.int .i64 t1.1, .int .i64 t1.2.1, .int .i64 t1.2.2]) ta30 (s_2.trans e29_2) (Blk.cellsFrom (BlkO.evo (by decide) hE b29_g25).2 0 rfl) rfl)
    refine steps_cons (fun own a wx hf hsl hE => ?_) ?_
    · obtain ⟨(f_6 : a.eval (.tmp 6) = .agg #[.int .i64 t1.1, .int .i64 t1.2.1, .int .i64 t1.2.2]), -⟩ := hf
      exact sg_plain rfl rfl (or_call cf21 (args1 f_6) (ref20_Right_w _ t1  r31 hr31) post_val)
    refine steps_cons (fun own a wx hf hsl hE => ?_) ?_
    · obtain ⟨(f_7 : a.eval (.tmp 7) = .bool r31), -⟩ := hf
      exact sg_plain rfl rfl (or_not f_7 rfl)
    refine steps_cons (fun own a wx hf hsl hE => ?_) ?_
    · obtain ⟨(f_8 : a.eval (.tmp 8) = .bool (!r31)), -⟩ := hf
      exact sg_plain rfl rfl (or_move f_8)
    refine steps_cons (fun own a wx hf hsl hE => ?_) ?_
    · obtain ⟨(f_9 : a.eval (.tmp 9) = .bool (!r31)), -⟩ := hf
      obtain ⟨s_1, -⟩ := hsl
      refine sg_f rfl rfl rfl f_9 (fun hg => ?_)
      exact or_move (s_1.trans e29_1)
    refine steps_cons (fun own a wx hf hsl hE => ?_) ?_
    · obtain ⟨(f_9 : a.eval (.tmp 9) = .bool (!r31)), c_10, -⟩ := hf
      refine sg_f rfl rfl rfl f_9 (fun hg => ?_)
      have f_10 : a.eval (.tmp 10) = .int .i64 b2 := c_10.1 hg
      exact or_lss f_10 rfl rfl
    refine steps_cons (fun own a wx hf hsl hE => ?_) ?_
    · obtain ⟨(f_9 : a.eval (.tmp 9) = .bool (!r31)), c_11, -⟩ := hf
      exact sg_plain rfl rfl (or_or f_9 rfl (fun hx => c_11.1 hx) rfl)
    refine steps_cons (fun own a wx hf hsl hE => ?_) ?_
    · obtain ⟨(f_12 : a.eval (.tmp 12) = .bool ((!r31) || (decide (b2 < 0)))), -⟩ := hf
      exact sg_plain rfl rfl (or_move f_12)
    refine steps_cons (fun own a wx hf hsl hE => ?_) ?_
    · obtain ⟨(f_13 : a.eval (.tmp 13) = .bool ((!r31) || (decide (b2 < 0)))), -⟩ := hf
      obtain ⟨s_1, -⟩ := hsl
      refine sg_f rfl rfl rfl f_13 (fun hg => ?_)
      exact or_move (s_1.trans e29_1)
    refine steps_cons (fun own a wx hf hsl hE => ?_) ?_
    · obtain ⟨(f_13 : a.eval (.tmp 13) = .bool ((!r31) || (decide (b2 < 0)))), c_14, -⟩ := hf
      refine sg_f rfl rfl rfl f_13 (fun hg => ?_)
      have f_14 : a.eval (.tmp 14) = .int .i64 b2 := c_14.1 hg
      exact or_gtr f_14 rfl rfl
    refine steps_cons (fun own a wx hf hsl hE => ?_) ?_
    · obtain ⟨(f_13 : a.eval (.tmp 13) = .bool ((!r31) || (decide (b2 < 0)))), c_15, -⟩ := hf
      exact sg_plain rfl rfl (or_or f_13 rfl (fun hx => c_15.1 hx) (osome hx32).symm)
    exact steps_nil
  intro own33 a33 w33 hd33 hz33 hk33 hf33 hE33
  have e33_1 : a33.eval (.tmp 1) = .int .i64 b2 := (hk33 1 rfl).trans e29_1
  have e33_2 : a33.eval (.tmp 2) = .pointer (some ⟨g25, 0, none⟩) := (hk33 2 rfl).trans e29_2
  have e33_4 : a33.eval (.tmp 4) = .pointer (some ⟨g27, 0, none⟩) := (hk33 4 rfl).trans e29_4
  obtain ⟨(f_16 : a33.eval (.tmp 16) = .bool x32), -⟩ := hf33 [10] rfl
  have e33_16 := f_16
  have hX33 := Evo.step hX29 (fun _ => Nat.le_refl 0) hE33 rfl
  have b33_g25 := BlkO.evo (by decide) hE33 b29_g25
  have b33_g27 := BlkO.evo (by decide) hE33 b29_g27
  refine fl_cond e33_16 hs (fun c34 hs => ?_) (fun c34 hs => ?_)
  · refine rg_plain_seq (n := 43) (rs := [Fct.at_ 28 g27 41 #[.int .i64 0, .int .i64 0, .int .i64 0, .int .i64 0]]) (own0 := own33) (K := [28])
        (bs := [0, 1, 3])
        (ds := [⟨[], [], [], Fct.val 17 (.agg #[.int .i64 0, .int .i64 0, .int .i64 0, .int .i64 0])⟩,
        ⟨[0, 3], [4], [28], Fct.at_ 35 g27 41 #[.int .i64 0, .int .i64 0, .int .i64 0, .int .i64 0]⟩,
        ⟨[], [], [], Fct.val 5 (.bool false)⟩]) (by kernel_rfl) hz33 hd33 (by simp only [List.forall_mem_cons]; exact ⟨b33_g27, fun _ h => nomatch h⟩) ?_ ?_
    · refine steps_cons (fun own a wx hf hsl hE => ?_) ?_
      · exact sg_plain rfl rfl (or_k [] rfl rfl trivial (by kernel_rfl))
      refine steps_cons (fun own a wx hf hsl hE => ?_) ?_
      · obtain ⟨(f_17 : a.eval (.tmp 17) = .agg #[.int .i64 0, .int .i64 0, .int .i64 0, .int .i64 0]), (b_g27 : BlkO own 28 wx g27 41 #[.int .i64 0, .int .i64 0, .int .i64 0, .int .i64 0]), -⟩ := hf
        obtain ⟨s_4, -⟩ := hsl
        exact sg_plain rfl rfl (or_store (l := #[.int .i64 0, .int .i64 0, .int .i64 0, .int .i64 0]) (lab := 28) (lab2 := 35) ts41 (s_4.trans e33_4) f_17 b_g27 (by simp) (by kernel_rfl) (mem_of rfl) (by decide) (by kernel_rfl) (fun own' a' w' ha hb => hb))
      refine steps_cons (fun own a wx hf hsl hE => ?_) ?_
      · exact sg_plain rfl rfl (or_assign rfl)
      exact steps_nil
    intro own36 a36 w36 hd36 hz36 hk36 hf36 hE36
    have e36_4 : a36.eval (.tmp 4) = .pointer (some ⟨g27, 0, none⟩) := (hk36 4 rfl).trans e33_4
    obtain ⟨(f_5 : a36.eval (.tmp 5) = .bool false), (b_g27 : BlkO own36 35 w36 g27 41 #[.int .i64 0, .int .i64 0, .int .i64 0, .int .i64 0]), -⟩ := hf36 [2, 1] rfl
    have e36_5 := f_5
    have hX36 := Evo.step hX33 (fun _ => Nat.le_refl 0) hE36 rfl
    have b36_g27 := b_g27
    refine fl_ret ?_
    refine hp30 _ _ _ rfl ?_
    obtain rfl := osome hs
    exact hret _ _ _ _ (.inl rfl) hd36 (results2_ rfl (RVal.cell_ e36_4 (run_loadVarAgg (l := [.int .i64 0, .int .i64 0, .int .i64 0, .int .i64 0]) ta41 (Blk.cellsFrom b36_g27.2 0 rfl) rfl)) (RVal.tmp_ e36_5)) ⟨own36, rfl, hX36⟩
  refine fl_skip ?_
  refine hn30 _ _ ?_
  refine rg_plain_seq (n := 43) (rs := [Fct.at_ 28 g27 41 #[.int .i64 0, .int .i64 0, .int .i64 0, .int .i64 0]]) (own0 := own33) (K := [28])
      (bs := [0, 1, 3, 0, 15, 0, 32, 96, 0, 480, 1023, 0, 2048, 6144, 14336, 0, 63488, 0, 131072, 393216, 917504, 0, 4063232, 8386560, 16777215, 33554431, 67108863])
      (ds := [⟨[], [2], [], Fct.val 18 (.pointer (some ⟨g25, 1, none⟩))⟩,
      ⟨[0], [], [], Fct.val 19 (.int .i64 t1.2.1)⟩,
      ⟨[1], [], [], Fct.val 20 (.int .i64 (ml 4096 t1.2.1))⟩,
      ⟨[], [1], [], Fct.val 21 (.int .i64 b2)⟩,
      ⟨[2, 3], [], [], Fct.val 22 (.int .i64 (sb (ml 4096 t1.2.1) b2))⟩,
      ⟨[], [2], [], Fct.val 23 (.pointer (some ⟨g25, 2, none⟩))⟩,
      ⟨[5], [], [], Fct.val 24 (.int .i64 t1.2.2)⟩,
      ⟨[6], [], [], Fct.val 25 (.int .i64 (ml 4096 t1.2.2))⟩,
      ⟨[], [1], [], Fct.val 26 (.int .i64 b2)⟩,
      ⟨[7, 8], [], [], Fct.val 27 (.int .i64 (sb (ml 4096 t1.2.2) b2))⟩,
      ⟨[4, 9], [], [], Fct.val 28 (.agg #[.int .i64 (sb (ml 4096 t1.2.1) b2), .int .i64 (sb (ml 4096 t1.2.2) b2)])⟩,
      ⟨[], [2], [], Fct.val 29 (.pointer (some ⟨g25, 1, none⟩))⟩,
      ⟨[11], [], [], Fct.val 30 (.int .i64 t1.2.1)⟩,
      ⟨[12], [], [], Fct.val 31 (.int .i64 (ml 4096 t1.2.1))⟩,
      ⟨[13], [], [], Fct.val 32 (.int .i64 (ad (ml 4096 t1.2.1) 4096))⟩,
      ⟨[], [1], [], Fct.val 33 (.int .i64 b2)⟩,
      ⟨[14, 15], [], [], Fct.val 34 (.int .i64 (ad (ad (ml 4096 t1.2.1) 4096) b2))⟩,
      ⟨[], [2], [], Fct.val 35 (.pointer (some ⟨g25, 2, none⟩))⟩,
      ⟨[17], [], [], Fct.val 36 (.int .i64 t1.2.2)⟩,
      ⟨[18], [], [], Fct.val 37 (.int .i64 (ml 4096 t1.2.2))⟩,
      ⟨[19], [], [], Fct.val 38 (.int .i64 (ad (ml 4096 t1.2.2) 4096))⟩,
      ⟨[], [1], [], Fct.val 39 (.int .i64 b2)⟩,
      ⟨[20, 21], [], [], Fct.val 40 (.int .i64 (ad (ad (ml 4096 t1.2.2) 4096) b2))⟩,
      ⟨[16, 22], [], [], Fct.val 41 (.agg #[.int .i64 (ad (ad (ml 4096 t1.2.1) 4096) b2), .int .i64 (ad (ad (ml 4096 t1.2.2) 4096) b2)])⟩,
      ⟨[10, 23], [], [], Fct.val 42 (.agg #[.int .i64 (sb (ml 4096 t1.2.1) b2), .int .i64 (sb (ml 4096 t1.2.2) b2), .int .i64 (ad (ad (ml 4096 t1.2.1) 4096) b2), .int .i64 (ad (ad (ml 4096 t1.2.2) 4096) b2)])⟩,
      ⟨[24, 27], [4], [28], Fct.at_ 37 g27 41 #[.int .i64 (sb (ml 4096 t1.2.1) b2), .int .i64 (sb (ml 4096 t1.2.2) b2), .int .i64 (ad (ad (ml 4096 t1.2.1) 4096) b2), .int .i64 (ad (ad (ml 4096 t1.2.2) 4096) b2)]⟩,
      ⟨[], [], [], Fct.val 5 (.bool true)⟩]) (by kernel_rfl) hz33 hd33 (by simp only [List.forall_mem_cons]; exact ⟨b33_g27, fun _ h => nomatch h⟩) ?_ ?_
  · refine steps_cons (fun own a wx hf hsl hE => ?_) ?_
    · obtain ⟨s_2, -⟩ := hsl
      exact sg_plain rfl rfl (or_field fo30_1 (s_2.trans e33_2) (by rfl))
    refine steps_cons (fun own a wx hf hsl hE => ?_) ?_
    · obtain ⟨(f_18 : a.eval (.tmp 18) = .pointer (some ⟨g25, 1, none⟩)), -⟩ := hf
      exact sg_plain rfl rfl (or_load1 to3 f_18 (Blk.at_ (BlkO.evo (by decide) hE b33_g25).2 1 rfl))
    refine steps_cons (fun own a wx hf hsl hE => ?_) ?_
    · obtain ⟨(f_19 : a.eval (.tmp 19) = .int .i64 t1.2.1), -⟩ := hf
      exact sg_plain rfl rfl (or_mul rfl f_19 rfl)
    refine steps_cons (fun own a wx hf hsl hE => ?_) ?_
    · obtain ⟨s_1, -⟩ := hsl
      exact sg_plain rfl rfl (or_move (s_1.trans e33_1))
    refine steps_cons (fun own a wx hf hsl hE => ?_) ?_
    · obtain ⟨(f_20 : a.eval (.tmp 20) = .int .i64 (ml 4096 t1.2.1)), (f_21 : a.eval (.tmp 21) = .int .i64 b2), -⟩ := hf
      exact sg_plain rfl rfl (or_sub f_20 f_21 rfl)
    refine steps_cons (fun own a wx hf hsl hE => ?_) ?_
    · obtain ⟨s_2, -⟩ := hsl
      exact sg_plain rfl rfl (or_field fo30_2 (s_2.trans e33_2) (by rfl))
    refine steps_cons (fun own a wx hf hsl hE => ?_) ?_
    · obtain ⟨(f_23 : a.eval (.tmp 23) = .pointer (some ⟨g25, 2, none⟩)), -⟩ := hf
      exact sg_plain rfl rfl (or_load1 to3 f_23 (Blk.at_ (BlkO.evo (by decide) hE b33_g25).2 2 rfl))
    refine steps_cons (fun own a wx hf hsl hE => ?_) ?_
    · obtain ⟨(f_24 : a.eval (.tmp 24) = .int .i64 t1.2.2), -⟩ := hf
      exact sg_plain rfl rfl (or_mul rfl f_24 rfl)
    refine steps_cons (fun own a wx hf hsl hE => ?_) ?_
    · obtain ⟨s_1, -⟩ := hsl
      exact sg_plain rfl rfl (or_move (s_1.trans e33_1))
    refine steps_cons (fun own a wx hf hsl hE => ?_) ?_
    · obtain ⟨(f_25 : a.eval (.tmp 25) = .int .i64 (ml 4096 t1.2.2)), (f_26 : a.eval (.tmp 26) = .int .i64 b2), -⟩ := hf
      exact sg_plain rfl rfl (or_sub f_25 f_26 rfl)
    refine steps_cons (fun own a wx hf hsl hE => ?_) ?_
    · obtain ⟨(f_22 : a.eval (.tmp 22) = .int .i64 (sb (ml 4096 t1.2.1) b2)), (f_27 : a.eval (.tmp 27) = .int .i64 (sb (ml 4096 t1.2.2) b2)), -⟩ := hf
      exact sg_plain rfl rfl (or_k [(22, .int .i64 (sb (ml 4096 t1.2.1) b2)), (27, .int .i64 (sb (ml 4096 t1.2.2) b2))] rfl rfl ⟨f_22, f_27, trivial⟩ (by kernel_rfl))
    refine steps_cons (fun own a wx hf hsl hE => ?_) ?_
    · obtain ⟨s_2, -⟩ := hsl
      exact sg_plain rfl rfl (or_field fo30_1 (s_2.trans e33_2) (by rfl))
    refine steps_cons (fun own a wx hf hsl hE => ?_) ?_
    · obtain ⟨(f_29 : a.eval (.tmp 29) = .pointer (some ⟨g25, 1, none⟩)), -⟩ := hf
      exact sg_plain rfl rfl (or_load1 to3 f_29 (Blk.at_ (BlkO.evo (by decide) hE b33_g25).2 1 rfl))
    refine steps_cons (fun own a wx hf hsl hE => ?_) ?_
    · obtain ⟨(f_30 : a.eval (.tmp 30) = .int .i64 t1.2.1), -⟩ := hf
      exact sg_plain rfl rfl (or_mul rfl f_30 rfl)
    refine steps_cons (fun own a wx hf hsl hE => ?_) ?_
    · obtain ⟨(f_31 : a.eval (.tmp 31) = .int .i64 (ml 4096 t1.2.1)), -⟩ := hf
      exact sg_plain rfl rfl (or_add f_31 rfl rfl)
    refine steps_cons (fun own a wx hf hsl hE => ?_) ?_
    · obtain ⟨s_1, -⟩ := hsl
      exact sg_plain rfl rfl (or_move (s_1.trans e33_1))
    refine steps_cons (fun own a wx hf hsl hE => ?_) ?_
    · obtain ⟨(f_32 : a.eval (.tmp 32) = .int .i64 (ad (ml 4096 t1.2.1) 4096)), (f_33 : a.eval (.tmp 33) = .int .i64 b2), -⟩ := hf
      exact sg_plain rfl rfl (or_add f_32 f_33 rfl)
    refine steps_cons (fun own a wx hf hsl hE => ?_) ?_
    · obtain ⟨s_2, -⟩ := hsl
      exact sg_plain rfl rfl (or_field fo30_2 (s_2.trans e33_2) (by rfl))
    refine steps_cons (fun own a wx hf hsl hE => ?_) ?_
    · obtain ⟨(f_35 : a.eval (.tmp 35) = .pointer (some ⟨g25, 2, none⟩)), -⟩ := hf
      exact sg_plain rfl rfl (or_load1 to3 f_35 (Blk.at_ (BlkO.evo (by decide) hE b33_g25).2 2 rfl))
    refine steps_cons (fun own a wx hf hsl hE => ?_) ?_
    · obtain ⟨(f_36 : a.eval (.tmp 36) = .int .i64 t1.2.2), -⟩ := hf
      exact sg_plain rfl rfl (or_mul rfl f_36 rfl)
    refine steps_cons (fun own a wx hf hsl hE => ?_) ?_
    · obtain ⟨(f_37 : a.eval (.tmp 37) = .int .i64 (ml 4096 t1.2.2)), -⟩ := hf
      exact sg_plain rfl rfl (or_add f_37 rfl rfl)
    refine steps_cons (fun own a wx hf hsl hE => ?_) ?_
    · obtain ⟨s_1, -⟩ := hsl
      exact sg_plain rfl rfl (or_move (s_1.trans e33_1))
    refine steps_cons (fun own a wx hf hsl hE => ?_) ?_
    · obtain ⟨(f_38 : a.eval (.tmp 38) = .int .i64 (ad (ml 4096 t1.2.2) 4096)), (f_39 : a.eval (.tmp 39) = .int .i64 b2), -⟩ := hf
      exact sg_plain rfl rfl (or_add f_38 f_39 rfl)
    refine steps_cons (fun own a wx hf hsl hE => ?_) ?_
    · obtain ⟨(f_34 : a.eval (.tmp 34) = .int .i64 (ad (ad (ml 4096 t1.2.1) 4096) b2)), (f_40 : a.eval (.tmp 40) = .int .i64 (ad (ad (ml 4096 t1.2.2) 4096) b2)), -⟩ := hf
      exact sg_plain rfl rfl (or_k [(34, .int .i64 (ad (ad (ml 4096 t1.2.1) 4096) b2)), (40, .int .i64 (ad (ad (ml 4096 t1.2.2) 4096) b2))] rfl rfl ⟨f_34, f_40, trivial⟩ (by kernel_rfl))
    refine steps_cons (fun own a wx hf hsl hE => ?_) ?_
    · obtain ⟨(f_28 : a.eval (.tmp 28) = .agg #[.int .i64 (sb (ml 4096 t1.2.1) b2), .int .i64 (sb (ml 4096 t1.2.2) b2)]), (f_41 : a.eval (.tmp 41) = .agg #[.int .i64 (ad (ad (ml 4096 t1.2.1) 4096) b2), .int .i64 (ad (ad (ml 4096 t1.2.2) 4096) b2)]), -⟩ := hf
      exact sg_plain rfl rfl (or_k [(28, .agg #[.int .i64 (sb (ml 4096 t1.2.1) b2), .int .i64 (sb (ml 4096 t1.2.2) b2)]), (41, .agg #[.int .i64 (ad (ad (ml 4096 t1.2.1) 4096) b2), .int .i64 (ad (ad (ml 4096 t1.2.2) 4096) b2)])] rfl rfl ⟨f_28, f_41, trivial⟩ (by kernel_rfl))
    refine steps_cons (fun own a wx hf hsl hE => ?_) ?_
    · obtain ⟨(f_42 : a.eval (.tmp 42) = .agg #[.int .i64 (sb (ml 4096 t1.2.1) b2), .int .i64 (sb (ml 4096 t1.2.2) b2), .int .i64 (ad (ad (ml 4096 t1.2.1) 4096) b2), .int .i64 (ad (ad (ml 4096 t1.2.2) 4096) b2)]), (b_g27 : BlkO own 28 wx g27 41 #[.int .i64 0, .int .i64 0, .int .i64 0, .int .i64 0]), -⟩ := hf
      obtain ⟨s_4, -⟩ := hsl
      exact sg_plain rfl rfl (or_store (l := #[.int .i64 (sb (ml 4096 t1.2.1) b2), .int .i64 (sb (ml 4096 t1.2.2) b2), .int .i64 (ad (ad (ml 4096 t1.2.1) 4096) b2), .int .i64 (ad (ad (ml 4096 t1.2.2) 4096) b2)]) (lab := 28) (lab2 := 37) ts41 (s_4.trans e33_4) f_42 b_g27 (by simp) (by kernel_rfl) (mem_of rfl) (by decide) (by kernel_rfl) (fun own' a' w' ha hb => hb))
    refine steps_cons (fun own a wx hf hsl hE => ?_) ?_
    · exact sg_plain rfl rfl (or_assign rfl)
    exact steps_nil
  intro own38 a38 w38 hd38 hz38 hk38 hf38 hE38
  have e38_4 : a38.eval (.tmp 4) = .pointer (some ⟨g27, 0, none⟩) := (hk38 4 rfl).trans e33_4
  obtain ⟨(f_5 : a38.eval (.tmp 5) = .bool true), (b_g27 : BlkO own38 37 w38 g27 41 #[.int .i64 (sb (ml 4096 t1.2.1) b2), .int .i64 (sb (ml 4096 t1.2.2) b2), .int .i64 (ad (ad (ml 4096 t1.2.1) 4096) b2), .int .i64 (ad (ad (ml 4096 t1.2.2) 4096) b2)]), -⟩ := hf38 [26, 25] rfl
  have e38_5 := f_5
  have hX38 := Evo.step hX33 (fun _ => Nat.le_refl 0) hE38 rfl
  have b38_g27 := b_g27
  refine fl_ret ?_
  obtain rfl := osome hs
  exact hret _ _ _ _ (.inl rfl) hd38 (results2_ rfl (RVal.cell_ e38_4 (run_loadVarAgg (l := [.int .i64 (sb (ml 4096 t1.2.1) b2), .int .i64 (sb (ml 4096 t1.2.2) b2), .int .i64 (ad (ad (ml 4096 t1.2.1) 4096) b2), .int .i64 (ad (ad (ml 4096 t1.2.2) 4096) b2)]) ta41 (Blk.cellsFrom b38_g27.2 0 rfl) rfl)) (RVal.tmp_ e38_5)) ⟨own38, rfl, hX38⟩

theorem ref20_All_w (w : World) (z1 : Int) (r : List (Int × Int × Int)) (hs : ref20_All z1 = some r) :
    Calls Try.prog 25 #[.int .i64 z1] w fun e w' => ∃ (own' : Own) (x : Option Addr × Nat), e = .returned (.slice x.1 r.length x.2) ∧ Evo [] (fun _ => 0) own' w w' ∧ RwO own' 1 [] w' 30 R30 x.1 x.2 r := by
  refine fl_enter (n := 29) rfl rfl rfl (Nat.le_of_ble_eq_true rfl) ?_
  intro a0 Q hd0 hz0 harg hret
  have ha0 := harg 0 _ rfl
  clear harg
  have hE0 : Evo [] (fun _ => 0) (fun _ => 0) w w := Evo.refl _ _ _
  refine rg_plain_seq (n := 29) (rs := []) (own0 := (fun _ => 0)) (K := [])
      (bs := [0])
      (ds := [⟨[], [], [], Fct.val 2 (.slice none 0 0)⟩]) (by kernel_rfl) hz0 hd0 (fun _ h => nomatch h) ?_ ?_
  · refine steps_cons (fun own a wx hf hsl hE => ?_) ?_
    · exact sg_plain rfl rfl (or_assign rfl)
    exact steps_nil
  intro own219 a219 w219 hd219 hz219 hk219 hf219 hE219
  have e219_0 : a219.eval (.tmp 0) = .int .i64 z1 := (hk219 0 rfl).trans ha0
  have hX219 := Evo.step hE0 (fun _ => Nat.le_refl 0) hE219 rfl
  refine rg_plain_seq (n := 29) (rs := []) (own0 := own219) (K := [])
      (bs := [0])
      (ds := [⟨[], [], [], Fct.val 3 (.slice none 0 0)⟩]) (by kernel_rfl) hz219 hd219 (fun _ h => nomatch h) ?_ ?_
  · refine steps_cons (fun own a wx hf hsl hE => ?_) ?_
    · exact sg_plain rfl rfl (or_assign rfl)
    exact steps_nil
  intro own220 a220 w220 hd220 hz220 hk220 hf220 hE220
  have e220_0 : a220.eval (.tmp 0) = .int .i64 z1 := (hk220 0 rfl).trans e219_0
  obtain ⟨(f_3 : a220.eval (.tmp 3) = .slice none 0 0), -⟩ := hf220 [0] rfl
  have e220_3 := f_3
  have hX220 := Evo.step hX219 (fun _ => Nat.le_refl 0) hE220 rfl
  refine fl_seq (fun Q221 hn221 hp221 => ?_)
  obtain ⟨r222, hr222, hs⟩ := obind hs
  refine rg_plain_seq (n := 29) (rs := []) (own0 := own220) (K := [])
      (bs := [0, 1, 3])
      (ds := [⟨[], [0], [], Fct.val 6 (.int .i64 z1)⟩,
      ⟨[0], [], [], Fct.val 7 (.bool r222)⟩,
      ⟨[1], [], [], Fct.val 8 (.bool (!r222))⟩]) (by kernel_rfl) hz220 hd220 (fun _ h => nomatch h) ?_ ?_
  · refine steps_cons (fun own a wx hf hsl hE => ?_) ?_
    · obtain ⟨s_0, -⟩ := hsl
      exact sg_plain rfl rfl (or_move (s_0.trans e220_0))
    refine steps_cons (fun own a wx hf hsl hE => ?_) ?_
    · obtain ⟨(f_6 : a.eval (.tmp 6) = .int .i64 z1), -⟩ := hf
      exact sg_plain rfl rfl (or_call cf38 (args1 f_6) (ref16_Level_w _ z1  r222 hr222) post_val)
    refine steps_cons (fun own a wx hf hsl hE => ?_) ?_
    · obtain ⟨(f_7 : a.eval (.tmp 7) = .bool r222), -⟩ := hf
      exact sg_plain rfl rfl (or_not f_7 rfl)
    exact steps_nil
  intro own223 a223 w223 hd223 hz223 hk223 hf223 hE223
  have e223_0 : a223.eval (.tmp 0) = .int .i64 z1 := (hk223 0 rfl).trans e220_0
  have e223_3 : a223.eval (.tmp 3) = .slice none 0 0 := (hk223 3 rfl).trans e220_3
  obtain ⟨(f_8 : a223.eval (.tmp 8) = .bool (!r222)), -⟩ := hf223 [2] rfl
  have e223_8 := f_8
  have hX223 := Evo.step hX220 (fun _ => Nat.le_refl 0) hE223 rfl
  refine fl_cond e223_8 hs (fun c224 hs => ?_) (fun c224 hs => ?_)
  · refine rg_plain_seq (n := 29) (rs := []) (own0 := own223) (K := [])
        (bs := [0])
        (ds := [⟨[], [], [], Fct.val 2 (.slice none 0 0)⟩]) (by kernel_rfl) hz223 hd223 (fun _ h => nomatch h) ?_ ?_
    · refine steps_cons (fun own a wx hf hsl hE => ?_) ?_
      · exact sg_plain rfl rfl (or_assign rfl)
      exact steps_nil
    intro own225 a225 w225 hd225 hz225 hk225 hf225 hE225
    obtain ⟨(f_2 : a225.eval (.tmp 2) = .slice none 0 0), -⟩ := hf225 [0] rfl
    have e225_2 := f_2
    have hX225 := Evo.step hX223 (fun _ => Nat.le_refl 0) hE225 rfl
    refine fl_ret ?_
    refine hp221 _ _ _ rfl ?_
    obtain rfl := osome hs
    exact hret _ _ _ _ (.inl rfl) hd225 (results1_ rfl (RVal.tmp_ e225_2)) ⟨own225, (none, 0), rfl, hX225, RwO.nil_⟩
  refine fl_skip ?_
  refine hn221 _ _ ?_
  refine fl_seq (fun Q226 hn226 hp226 => ?_)
  refine rg_plain_seq (n := 29) (rs := []) (own0 := own223) (K := [])
      (bs := [0])
      (ds := [⟨[], [], [], Fct.val 4 (.int .i64 0)⟩]) (by kernel_rfl) hz223 hd223 (fun _ h => nomatch h) ?_ ?_
  · refine steps_cons (fun own a wx hf hsl hE => ?_) ?_
    · exact sg_plain rfl rfl (or_assign rfl)
    exact steps_nil
  intro own227 a227 w227 hd227 hz227 hk227 hf227 hE227
  have e227_0 : a227.eval (.tmp 0) = .int .i64 z1 := (hk227 0 rfl).trans e223_0
  have e227_3 : a227.eval (.tmp 3) = .slice none 0 0 := (hk227 3 rfl).trans e223_3
  obtain ⟨(f_4 : a227.eval (.tmp 4) = .int .i64 0), -⟩ := hf227 [0] rfl
  have e227_4 := f_4
  have hX227 := Evo.step hX223 (fun _ => Nat.le_refl 0) hE227 rfl
  refine fl_block (fun Q228 hn228 hx228 hp228 => ?_)
  refine fl_loop (body := (fun s => ref20_All_b1 z1 s.1 s.2)) (z := r) (show loopO _ _ = _ from hs) (fun (s : (List (Int × Int × Int)) × Int) a wx => match s with | (out294, x296) => ∃ (ox : Own) (A292 : Option Addr) (c293 : Nat), a.defers = [] ∧ a.tmps.size = 29 ∧ a.eval (.tmp 0) = .int .i64 z1 ∧ a.eval (.tmp 3) = .slice A292 out294.length c293 ∧ a.eval (.tmp 4) = .int .i64 x296 ∧ Evo [] (fun _ => 0) ox w wx ∧ RwO ox 295 [] wx 30 R30 A292 c293 out294) ?_ ?_
  · exact ⟨own227, none, 0, hd227, hz227, e227_0, e227_3, e227_4, hX227, RwO.nil_⟩
  · rintro ⟨out294, x296⟩ zz361 a361 w361 ⟨own361, A292, c293, hd362, hz362, e362_0, e362_3, e362_4, hE362, b362_A292⟩ hs Q361 hn361 hp361 hz361
    have hs : ref20_All_b1 z1 out294 x296 = some zz361 := hs
    refine fl_seq (fun Q363 hn363 hp363 => ?_)
    obtain ⟨r364, hr364, hs⟩ := obind hs
    refine rg_plain_seq (n := 29) (rs := []) (own0 := own361) (K := [])
        (bs := [0, 0, 2, 7])
        (ds := [⟨[], [4], [], Fct.val 9 (.int .i64 x296)⟩,
        ⟨[], [0], [], Fct.val 10 (.int .i64 z1)⟩,
        ⟨[1], [], [], Fct.val 11 (.int .i64 r364)⟩,
        ⟨[0, 2], [], [], Fct.val 12 (.bool (decide (x296 < r364)))⟩]) (by kernel_rfl) hz362 hd362 (fun _ h => nomatch h) ?_ ?_
    · refine steps_cons (fun own a wx hf hsl hE => ?_) ?_
      · obtain ⟨s_4, -⟩ := hsl
        exact sg_plain rfl rfl (or_move (s_4.trans e362_4))
      refine steps_cons (fun own a wx hf hsl hE => ?_) ?_
      · obtain ⟨s_0, -⟩ := hsl
        exact sg_plain rfl rfl (or_move (s_0.trans e362_0))
      refine steps_cons (fun own a wx hf hsl hE => ?_) ?_
      · obtain ⟨(f_10 : a.eval (.tmp 10) = .int .i64 z1), -⟩ := hf
        exact sg_plain rfl rfl (or_call cf39 (args1 f_10) (ref01_Power_w _ z1  r364 hr364) post_val)
      refine steps_cons (fun own a wx hf hsl hE => ?_) ?_
      · obtain ⟨(f_9 : a.eval (.tmp 9) = .int .i64 x296), (f_11 : a.eval (.tmp 11) = .int .i64 r364), -⟩ := hf
        exact sg_plain rfl rfl (or_lss f_9 f_11 rfl)
      exact steps_nil
    intro own365 a365 w365 hd365 hz365 hk365 hf365 hE365
    have e365_0 : a365.eval (.tmp 0) = .int .i64 z1 := (hk365 0 rfl).trans e362_0
    have e365_3 : a365.eval (.tmp 3) = .slice A292 out294.length c293 := (hk365 3 rfl).trans e362_3
    have e365_4 : a365.eval (.tmp 4) = .int .i64 x296 := (hk365 4 rfl).trans e362_4
    obtain ⟨(f_12 : a365.eval (.tmp 12) = .bool (decide (x296 < r364))), -⟩ := hf365 [3] rfl
    have e365_12 := f_12
    have hX365 := Evo.step hE362 (fun _ => Nat.le_refl 0) hE365 rfl
    have b365_A292 := RwO.evo rfl hE365 b362_A292
    refine fl_cond e365_12 hs (fun c366 hs => ?_) (fun c366 hs => ?_)
    · refine fl_skip ?_
      refine hn363 _ _ ?_
      refine fl_seq (fun Q367 hn367 hp367 => ?_)
      refine fl_block (fun Q368 hn368 hx368 hp368 => ?_)
      refine rg_plain_seq (n := 29) (rs := []) (own0 := own365) (K := [])
          (bs := [0])
          (ds := [⟨[], [], [], Fct.val 5 (.int .i64 0)⟩]) (by kernel_rfl) hz365 hd365 (fun _ h => nomatch h) ?_ ?_
      · refine steps_cons (fun own a wx hf hsl hE => ?_) ?_
        · exact sg_plain rfl rfl (or_assign rfl)
        exact steps_nil
      intro own369 a369 w369 hd369 hz369 hk369 hf369 hE369
      have e369_0 : a369.eval (.tmp 0) = .int .i64 z1 := (hk369 0 rfl).trans e365_0
      have e369_3 : a369.eval (.tmp 3) = .slice A292 out294.length c293 := (hk369 3 rfl).trans e365_3
      have e369_4 : a369.eval (.tmp 4) = .int .i64 x296 := (hk369 4 rfl).trans e365_4
      obtain ⟨(f_5 : a369.eval (.tmp 5) = .int .i64 0), -⟩ := hf369 [0] rfl
      have e369_5 := f_5
      have hX369 := Evo.step hX365 (fun _ => Nat.le_refl 0) hE369 rfl
      have b369_A292 := RwO.evo rfl hE369 b365_A292
      refine fl_block (fun Q370 hn370 hx370 hp370 => ?_)
      refine fl_loop (body := (fun s => ref20_All_b2 z1 x296 s.1 s.2)) (z := zz361) (show loopO _ _ = _ from hs) (fun (s : (List (Int × Int × Int)) × Int) a wx => match s with | (out389, y391) => ∃ (ox : Own) (A387 : Option Addr) (c388 : Nat), a.defers = [] ∧ a.tmps.size = 29 ∧ a.eval (.tmp 0) = .int .i64 z1 ∧ a.eval (.tmp 3) = .slice A387 out389.length c388 ∧ a.eval (.tmp 4) = .int .i64 x296 ∧ a.eval (.tmp 5) = .int .i64 y391 ∧ Evo [] (fun _ => 0) ox w wx ∧ RwO ox 390 [] wx 30 R30 A387 c388 out389) ?_ ?_
      · exact ⟨(rl [(295, 390)] own369), A292, c293, hd369, hz369, e369_0, e369_3, e369_4, e369_5, (Evo.rl_ hX369 (fun _ => Nat.le_refl 0) rfl), (RwO.rl_ (mm := [(295, 390)]) b369_A292)⟩
      · rintro ⟨out389, y391⟩ zz408 a408 w408 ⟨own408, A387, c388, hd409, hz409, e409_0, e409_3, e409_4, e409_5, hE409, b409_A387⟩ hs Q408 hn408 hp408 hz408
        have hs : ref20_All_b2 z1 x296 out389 y391 = some zz408 := hs
        refine fl_seq (fun Q410 hn410 hp410 => ?_)
        obtain ⟨r411, hr411, hs⟩ := obind hs
        refine rg_plain_seq (n := 29) (rs := []) (own0 := own408) (K := [])
            (bs := [0, 0, 2, 7])
            (ds := [⟨[], [5], [], Fct.val 15 (.int .i64 y391)⟩,
            ⟨[], [0], [], Fct.val 16 (.int .i64 z1)⟩,
            ⟨[1], [], [], Fct.val 17 (.int .i64 r411)⟩,
            ⟨[0, 2], [], [], Fct.val 18 (.bool (decide (y391 < r411)))⟩]) (by kernel_rfl) hz409 hd409 (fun _ h => nomatch h) ?_ ?_
        · refine steps_cons (fun own a wx hf hsl hE => ?_) ?_
          · obtain ⟨s_5, -⟩ := hsl
            exact sg_plain rfl rfl (or_move (s_5.trans e409_5))
          refine steps_cons (fun own a wx hf hsl hE => ?_) ?_
          · obtain ⟨s_0, -⟩ := hsl
            exact sg_plain rfl rfl (or_move (s_0.trans e409_0))
          refine steps_cons (fun own a wx hf hsl hE => ?_) ?_
          · obtain ⟨(f_16 : a.eval (.tmp 16) = .int .i64 z1), -⟩ := hf
            exact sg_plain rfl rfl (or_call cf39 (args1 f_16) (ref01_Power_w _ z1  r411 hr411) post_val)
          refine steps_cons (fun own a wx hf hsl hE => ?_) ?_
          · obtain ⟨(f_15 : a.eval (.tmp 15) = .int .i64 y391), (f_17 : a.eval (.tmp 17) = .int .i64 r411), -⟩ := hf
            exact sg_plain rfl rfl (or_lss f_15 f_17 rfl)
          exact steps_nil
        intro own412 a412 w412 hd412 hz412 hk412 hf412 hE412
        have e412_0 : a412.eval (.tmp 0) = .int .i64 z1 := (hk412 0 rfl).trans e409_0
        have e412_3 : a412.eval (.tmp 3) = .slice A387 out389.length c388 := (hk412 3 rfl).trans e409_3
        have e412_4 : a412.eval (.tmp 4) = .int .i64 x296 := (hk412 4 rfl).trans e409_4
        have e412_5 : a412.eval (.tmp 5) = .int .i64 y391 := (hk412 5 rfl).trans e409_5
        obtain ⟨(f_18 : a412.eval (.tmp 18) = .bool (decide (y391 < r411))), -⟩ := hf412 [3] rfl
        have e412_18 := f_18
        have hX412 := Evo.step hE409 (fun _ => Nat.le_refl 0) hE412 rfl
        have b412_A387 := RwO.evo rfl hE412 b409_A387
        refine fl_cond e412_18 hs (fun c413 hs => ?_) (fun c413 hs => ?_)
        · refine fl_skip ?_
          refine hn410 _ _ ?_
          refine fl_seq (fun Q414 hn414 hp414 => ?_)
          refine fl_block (fun Q415 hn415 hx415 hp415 => ?_)
          obtain ⟨x420, hx420, hs⟩ := obind hs
          refine rg_plain (n := 29) (rs := [Fct.rowAt 390 [] 30 R30 A387 c388 out389]) (own0 := own412) (K := [390])
              (bs := [0, 0, 0, 0, 14, 30, 63, 127])
              (ds := [⟨[], [3], [], Fct.val 21 (.slice A387 out389.length c388)⟩,
              ⟨[], [0], [], Fct.val 22 (.int .i64 z1)⟩,
              ⟨[], [4], [], Fct.val 23 (.int .i64 x296)⟩,
              ⟨[], [5], [], Fct.val 24 (.int .i64 y391)⟩,
              ⟨[1, 2, 3], [], [], Fct.val 25 (.agg #[.int .i64 z1, .int .i64 x296, .int .i64 y391])⟩,
              ⟨[4], [], [], Fct.row 419 [] 26 30 R30 [(z1, x296, y391)]⟩,
              ⟨[0, 5, 8], [], [390], Fct.row 421 [] 27 30 R30 x420⟩,
              ⟨[6], [], [], Fct.rel [3, 27] (fun l => ∀ (A422 : Option Addr) (cA422 : Nat), l.getD 1 undef = .slice A422 x420.length cA422 → l.getD 0 undef = .slice A422 x420.length cA422)⟩]) (by kernel_rfl) hz412 hd412 (by simp only [List.forall_mem_cons]; exact ⟨b412_A387, fun _ h => nomatch h⟩) ?_ ?_
          · refine steps_cons (fun own a wx hf hsl hE => ?_) ?_
            · obtain ⟨s_3, -⟩ := hsl
              exact sg_plain rfl rfl (or_move (s_3.trans e412_3))
            refine steps_cons (fun own a wx hf hsl hE => ?_) ?_
            · obtain ⟨s_0, -⟩ := hsl
              exact sg_plain rfl rfl (or_move (s_0.trans e412_0))
            refine steps_cons (fun own a wx hf hsl hE => ?_) ?_
            · obtain ⟨s_4, -⟩ := hsl
              exact sg_plain rfl rfl (or_move (s_4.trans e412_4))
            refine steps_cons (fun own a wx hf hsl hE => ?_) ?_
            · obtain ⟨s_5, -⟩ := hsl
              exact sg_plain rfl rfl (or_move (s_5.trans e412_5))
            refine steps_cons (fun own a wx hf hsl hE => ?_) ?_
            · obtain ⟨(f_22 : a.eval (.tmp 22) = .int .i64 z1), (f_23 : a.eval (.tmp 23) = .int .i64 x296), (f_24 : a.eval (.tmp 24) = .int .i64 y391), -⟩ := hf
              exact sg_plain rfl rfl (or_k [(22, .int .i64 z1), (23, .int .i64 x296), (24, .int .i64 y391)] rfl rfl ⟨f_22, f_23, f_24, trivial⟩ (by kernel_rfl))
            refine steps_cons (fun own a wx hf hsl hE => ?_) ?_
            · obtain ⟨(f_25 : a.eval (.tmp 25) = .agg #[.int .i64 z1, .int .i64 x296, .int .i64 y391]), -⟩ := hf
              exact sg_plain rfl rfl (or_lit (lab := 419) (e := 30) (cs := #[.int .i64 z1, .int .i64 x296, .int .i64 y391]) (F := E30) (or_new [(25, .agg #[.int .i64 z1, .int .i64 x296, .int .i64 y391])] rfl rfl ⟨f_25, trivial⟩ (by kernel_rfl)) rfl rfl (show 1 ≤ maxLen by decide))
            refine steps_cons (fun own a wx hf hsl hE => ?_) ?_
            · obtain ⟨(f_21 : a.eval (.tmp 21) = .slice A387 out389.length c388), ⟨⟨A418, cA418⟩, (f_26 : a.eval (.tmp 26) = .slice A418 [(z1, x296, y391)].length cA418), (b_A418 : RwO own 419 [] wx 30 R30 A418 cA418 [(z1, x296, y391)])⟩, (b_A387 : RwO own 390 [] wx 30 R30 A387 c388 out389), -⟩ := hf
              exact sg_plain rfl rfl (or_append (R := R30) (lab := 390) (lab2 := 421) (L := []) (L3 := []) tp38 f_21 b_A387 (by decide) f_26 (RwO.rd b_A418) hx420 (by decide) (by decide) (mem_of rfl) (.inl (Rep.fl_flat _)))
            refine steps_cons (fun own a wx hf hsl hE => ?_) ?_
            · obtain ⟨⟨⟨A422, cA422⟩, (f_27 : a.eval (.tmp 27) = .slice A422 x420.length cA422), (b_A422 : RwO own 421 [] wx 30 R30 A422 cA422 x420)⟩, -⟩ := hf
              exact sg_plain rfl rfl (or_mono (f := Fct.val 3 (.slice A422 x420.length cA422)) (or_assign f_27) (fun own' a' w' v' hp h => fun _ _ h0' => by cases (f_27.symm.trans ((hp.2 27 (by decide)).symm.trans h0')); exact h))
            exact steps_nil
          intro own423 a423 w423 hd423 hz423 hk423 hf423 hE423
          have e423_0 : a423.eval (.tmp 0) = .int .i64 z1 := (hk423 0 rfl).trans e412_0
          have e423_4 : a423.eval (.tmp 4) = .int .i64 x296 := (hk423 4 rfl).trans e412_4
          have e423_5 : a423.eval (.tmp 5) = .int .i64 y391 := (hk423 5 rfl).trans e412_5
          obtain ⟨⟨⟨A422, cA422⟩, (f_27 : a423.eval (.tmp 27) = .slice A422 x420.length cA422), (b_A422 : RwO own423 421 [] w423 30 R30 A422 cA422 x420)⟩, (q_3 : ∀ (A422 : Option Addr) (cA422 : Nat), a423.eval (.tmp 27) = .slice A422 x420.length cA422 → a423.eval (.tmp 3) = .slice A422 x420.length cA422), -⟩ := hf423 [6, 7] rfl
          have f_3 := q_3 _ _ f_27
          have e423_3 := f_3
          have hX423 := Evo.step hX412 (fun _ => Nat.le_refl 0) hE423 rfl
          have b423_A422 := b_A422
          refine hn415 _ _ ?_
          refine hn414 _ _ ?_
          refine rg_plain (n := 29) (rs := []) (own0 := own423) (K := [])
              (bs := [0, 1, 3])
              (ds := [⟨[], [5], [], Fct.val 19 (.int .i64 y391)⟩,
              ⟨[0], [], [], Fct.val 20 (.int .i64 (ad y391 1))⟩,
              ⟨[1], [], [], Fct.val 5 (.int .i64 (ad y391 1))⟩]) (by kernel_rfl) hz423 hd423 (fun _ h => nomatch h) ?_ ?_
          · refine steps_cons (fun own a wx hf hsl hE => ?_) ?_
            · obtain ⟨s_5, -⟩ := hsl
              exact sg_plain rfl rfl (or_move (s_5.trans e423_5))
            refine steps_cons (fun own a wx hf hsl hE => ?_) ?_
            · obtain ⟨(f_19 : a.eval (.tmp 19) = .int .i64 y391), -⟩ := hf
              exact sg_plain rfl rfl (or_add f_19 rfl rfl)
            refine steps_cons (fun own a wx hf hsl hE => ?_) ?_
            · obtain ⟨(f_20 : a.eval (.tmp 20) = .int .i64 (ad y391 1)), -⟩ := hf
              exact sg_plain rfl rfl (or_assign f_20)
            exact steps_nil
          intro own424 a424 w424 hd424 hz424 hk424 hf424 hE424
          have e424_0 : a424.eval (.tmp 0) = .int .i64 z1 := (hk424 0 rfl).trans e423_0
          have e424_3 : a424.eval (.tmp 3) = .slice A422 x420.length cA422 := (hk424 3 rfl).trans e423_3
          have e424_4 : a424.eval (.tmp 4) = .int .i64 x296 := (hk424 4 rfl).trans e423_4
          obtain ⟨(f_5 : a424.eval (.tmp 5) = .int .i64 (ad y391 1)), -⟩ := hf424 [2] rfl
          have e424_5 := f_5
          have hX424 := Evo.step hX423 (fun _ => Nat.le_refl 0) hE424 rfl
          have b424_A422 := RwO.evo rfl hE424 b423_A422
          exact hn408 _ _ _ hs ⟨(rl [(421, 390)] own424), A422, cA422, hd424, hz424, e424_0, e424_3, e424_4, e424_5, (Evo.rl_ hX424 (fun _ => Nat.le_refl 0) rfl), (RwO.rl_ (mm := [(421, 390)]) b424_A422)⟩
        refine fl_exit ?_
        refine hp410 _ _ _ rfl ?_
        replace hs := hz408 _ hs
        refine hp408 _ _ _ rfl ?_
        refine hx370 _ _ ?_
        refine hn368 _ _ ?_
        refine hn367 _ _ ?_
        refine rg_plain (n := 29) (rs := []) (own0 := own412) (K := [])
            (bs := [0, 1, 3])
            (ds := [⟨[], [4], [], Fct.val 13 (.int .i64 x296)⟩,
            ⟨[0], [], [], Fct.val 14 (.int .i64 (ad x296 1))⟩,
            ⟨[1], [], [], Fct.val 4 (.int .i64 (ad x296 1))⟩]) (by kernel_rfl) hz412 hd412 (fun _ h => nomatch h) ?_ ?_
        · refine steps_cons (fun own a wx hf hsl hE => ?_) ?_
          · obtain ⟨s_4, -⟩ := hsl
            exact sg_plain rfl rfl (or_move (s_4.trans e412_4))
          refine steps_cons (fun own a wx hf hsl hE => ?_) ?_
          · obtain ⟨(f_13 : a.eval (.tmp 13) = .int .i64 x296), -⟩ := hf
            exact sg_plain rfl rfl (or_add f_13 rfl rfl)
          refine steps_cons (fun own a wx hf hsl hE => ?_) ?_
          · obtain ⟨(f_14 : a.eval (.tmp 14) = .int .i64 (ad x296 1)), -⟩ := hf
            exact sg_plain rfl rfl (or_assign f_14)
          exact steps_nil
        intro own425 a425 w425 hd425 hz425 hk425 hf425 hE425
        have e425_0 : a425.eval (.tmp 0) = .int .i64 z1 := (hk425 0 rfl).trans e412_0
        have e425_3 : a425.eval (.tmp 3) = .slice A387 out389.length c388 := (hk425 3 rfl).trans e412_3
        obtain ⟨(f_4 : a425.eval (.tmp 4) = .int .i64 (ad x296 1)), -⟩ := hf425 [2] rfl
        have e425_4 := f_4
        have hX425 := Evo.step hX412 (fun _ => Nat.le_refl 0) hE425 rfl
        have b425_A387 := RwO.evo rfl hE425 b412_A387
        exact hn361 _ _ _ hs ⟨(rl [(390, 295)] own425), A387, c388, hd425, hz425, e425_0, e425_3, e425_4, (Evo.rl_ hX425 (fun _ => Nat.le_refl 0) rfl), (RwO.rl_ (mm := [(390, 295)]) b425_A387)⟩
    refine fl_exit ?_
    refine hp363 _ _ _ rfl ?_
    replace hs := hz361 _ hs
    refine hp361 _ _ _ rfl ?_
    refine hx228 _ _ ?_
    refine hn226 _ _ ?_
    refine rg_plain_seq (n := 29) (rs := []) (own0 := own365) (K := [])
        (bs := [0, 1])
        (ds := [⟨[], [3], [], Fct.val 28 (.slice A292 out294.length c293)⟩,
        ⟨[0], [], [], Fct.val 2 (.slice A292 out294.length c293)⟩]) (by kernel_rfl) hz365 hd365 (fun _ h => nomatch h) ?_ ?_
    · refine steps_cons (fun own a wx hf hsl hE => ?_) ?_
      · obtain ⟨s_3, -⟩ := hsl
        exact sg_plain rfl rfl (or_move (s_3.trans e365_3))
      refine steps_cons (fun own a wx hf hsl hE => ?_) ?_
      · obtain ⟨(f_28 : a.eval (.tmp 28) = .slice A292 out294.length c293), -⟩ := hf
        exact sg_plain rfl rfl (or_assign f_28)
      exact steps_nil
    intro own426 a426 w426 hd426 hz426 hk426 hf426 hE426
    obtain ⟨(f_2 : a426.eval (.tmp 2) = .slice A292 out294.length c293), -⟩ := hf426 [1] rfl
    have e426_2 := f_2
    have hX426 := Evo.step hX365 (fun _ => Nat.le_refl 0) hE426 rfl
    have b426_A292 := RwO.evo rfl hE426 b365_A292
    refine fl_ret ?_
    obtain rfl := (osome hs).symm
    exact hret _ _ _ _ (.inl rfl) hd426 (results1_ rfl (RVal.tmp_ e426_2)) ⟨(rl [(295, 1)] own426), (A292, c293), rfl, (Evo.rl_ hX426 (fun _ => Nat.le_refl 0) rfl), (RwO.rl_ (mm := [(295, 1)]) b426_A292)⟩

theorem law20_same_w (w : World) (l1 : List (Int × Int × Int)) (Al1 : Option Addr) (cl1 : Nat) (x2 : List (Int × Int × Int)) (Ax2 : Option Addr) (cx2 : Nat) (hl1 : RdO (fun _ => 0) [0] w R27 Al1 cl1 l1) (hx2 : RdO (fun _ => 0) [0] w R30 Ax2 cx2 x2) (r : Bool) (hs : law20_same l1 x2 = some r) :
    Calls Try.prog 11 #[.slice Al1 l1.length cl1, .slice Ax2 x2.length cx2] w fun e w' => ∃ own' : Own, e = .returned (.bool r) ∧ Evo [] (fun _ => 0) own' w w' := by
  refine fl_enter (n := 26) rfl rfl rfl (Nat.le_of_ble_eq_true rfl) ?_
  intro a0 Q hd0 hz0 harg hret
  have ha0 := harg 0 _ rfl
  have ha1 := harg 1 _ rfl
  clear harg
  have hE0 : Evo [] (fun _ => 0) (fun _ => 0) w w := Evo.refl _ _ _
  refine rg_plain_seq (n := 26) (rs := []) (own0 := (fun _ => 0)) (K := [])
      (bs := [0])
      (ds := [⟨[], [], [], Fct.val 4 (.bool false)⟩]) (by kernel_rfl) hz0 hd0 (fun _ h => nomatch h) ?_ ?_
  · refine steps_cons (fun own a wx hf hsl hE => ?_) ?_
    · exact sg_plain rfl rfl (or_assign rfl)
    exact steps_nil
  intro own58 a58 w58 hd58 hz58 hk58 hf58 hE58
  have e58_0 : a58.eval (.tmp 0) = .slice Al1 l1.length cl1 := (hk58 0 rfl).trans ha0
  have e58_1 : a58.eval (.tmp 1) = .slice Ax2 x2.length cx2 := (hk58 1 rfl).trans ha1
  have hX58 := Evo.step hE0 (fun _ => Nat.le_refl 0) hE58 rfl
  have b58_Al1 := RdO.evo rfl hE58 hl1
  have b58_Ax2 := RdO.evo rfl hE58 hx2
  refine fl_seq (fun Q59 hn59 hp59 => ?_)
  refine rg_plain_seq (n := 26) (rs := []) (own0 := own58) (K := [])
      (bs := [0, 1, 0, 4, 15])
      (ds := [⟨[], [0], [], Fct.val 6 (.slice Al1 l1.length cl1)⟩,
      ⟨[0], [], [], Fct.val 7 (.int .i64 (l1.length : Int))⟩,
      ⟨[], [1], [], Fct.val 8 (.slice Ax2 x2.length cx2)⟩,
      ⟨[2], [], [], Fct.val 9 (.int .i64 (x2.length : Int))⟩,
      ⟨[1, 3], [], [], Fct.val 10 (.bool (!decide ((l1.length : Int) = (x2.length : Int))))⟩]) (by kernel_rfl) hz58 hd58 (fun _ h => nomatch h) ?_ ?_
  · refine steps_cons (fun own a wx hf hsl hE => ?_) ?_
    · obtain ⟨s_0, -⟩ := hsl
      exact sg_plain rfl rfl (or_move (s_0.trans e58_0))
    refine steps_cons (fun own a wx hf hsl hE => ?_) ?_
    · obtain ⟨(f_6 : a.eval (.tmp 6) = .slice Al1 l1.length cl1), -⟩ := hf
      exact sg_plain rfl rfl (or_len tu35 f_6 rfl)
    refine steps_cons (fun own a wx hf hsl hE => ?_) ?_
    · obtain ⟨s_1, -⟩ := hsl
      exact sg_plain rfl rfl (or_move (s_1.trans e58_1))
    refine steps_cons (fun own a wx hf hsl hE => ?_) ?_
    · obtain ⟨(f_8 : a.eval (.tmp 8) = .slice Ax2 x2.length cx2), -⟩ := hf
      exact sg_plain rfl rfl (or_len tu38 f_8 rfl)
    refine steps_cons (fun own a wx hf hsl hE => ?_) ?_
    · obtain ⟨(f_7 : a.eval (.tmp 7) = .int .i64 (l1.length : Int)), (f_9 : a.eval (.tmp 9) = .int .i64 (x2.length : Int)), -⟩ := hf
      exact sg_plain rfl rfl (or_neq f_7 f_9 rfl)
    exact steps_nil
  intro own60 a60 w60 hd60 hz60 hk60 hf60 hE60
  have e60_0 : a60.eval (.tmp 0) = .slice Al1 l1.length cl1 := (hk60 0 rfl).trans e58_0
  have e60_1 : a60.eval (.tmp 1) = .slice Ax2 x2.length cx2 := (hk60 1 rfl).trans e58_1
  obtain ⟨(f_10 : a60.eval (.tmp 10) = .bool (!decide ((l1.length : Int) = (x2.length : Int)))), -⟩ := hf60 [4] rfl
  have e60_10 := f_10
  have hX60 := Evo.step hX58 (fun _ => Nat.le_refl 0) hE60 rfl
  have b60_Al1 := RdO.evo rfl hE60 b58_Al1
  have b60_Ax2 := RdO.evo rfl hE60 b58_Ax2
  refine fl_cond e60_10 hs (fun c61 hs => ?_) (fun c61 hs => ?_)
  · refine rg_plain_seq (n := 26) (rs := []) (own0 := own60) (K := [])
        (bs := [0])
        (ds := [⟨[], [], [], Fct.val 4 (.bool false)⟩]) (by kernel_rfl) hz60 hd60 (fun _ h => nomatch h) ?_ ?_
    · refine steps_cons (fun own a wx hf hsl hE => ?_) ?_
      · exact sg_plain rfl rfl (or_assign rfl)
      exact steps_nil
    intro own62 a62 w62 hd62 hz62 hk62 hf62 hE62
    obtain ⟨(f_4 : a62.eval (.tmp 4) = .bool false), -⟩ := hf62 [0] rfl
    have e62_4 := f_4
    have hX62 := Evo.step hX60 (fun _ => Nat.le_refl 0) hE62 rfl
    refine fl_ret ?_
    refine hp59 _ _ _ rfl ?_
    obtain rfl := osome hs
    exact hret _ _ _ _ (.inl rfl) hd62 (results1_ rfl (RVal.tmp_ e62_4)) ⟨own62, rfl, hX62⟩
  refine fl_skip ?_
  refine hn59 _ _ ?_
  refine fl_seq (fun Q63 hn63 hp63 => ?_)
  refine rg_plain_seq (n := 26) (rs := []) (own0 := own60) (K := [])
      (bs := [0])
      (ds := [⟨[], [], [], Fct.val 5 (.int .i64 0)⟩]) (by kernel_rfl) hz60 hd60 (fun _ h => nomatch h) ?_ ?_
  · refine steps_cons (fun own a wx hf hsl hE => ?_) ?_
    · exact sg_plain rfl rfl (or_assign rfl)
    exact steps_nil
  intro own64 a64 w64 hd64 hz64 hk64 hf64 hE64
  have e64_0 : a64.eval (.tmp 0) = .slice Al1 l1.length cl1 := (hk64 0 rfl).trans e60_0
  have e64_1 : a64.eval (.tmp 1) = .slice Ax2 x2.length cx2 := (hk64 1 rfl).trans e60_1
  obtain ⟨(f_5 : a64.eval (.tmp 5) = .int .i64 0), -⟩ := hf64 [0] rfl
  have e64_5 := f_5
  have hX64 := Evo.step hX60 (fun _ => Nat.le_refl 0) hE64 rfl
  have b64_Al1 := RdO.evo rfl hE64 b60_Al1
  have b64_Ax2 := RdO.evo rfl hE64 b60_Ax2
  refine fl_block (fun Q65 hn65 hx65 hp65 => ?_)
  refine fl_loop (body := (fun s => law20_same_b1 l1 x2 s)) (z := r) (show loopO _ _ = _ from hs) (fun (i78 : Int) a wx => ∃ (ox : Own), a.defers = [] ∧ a.tmps.size = 26 ∧ a.eval (.tmp 0) = .slice Al1 l1.length cl1 ∧ a.eval (.tmp 1) = .slice Ax2 x2.length cx2 ∧ a.eval (.tmp 5) = .int .i64 i78 ∧ Evo [] (fun _ => 0) ox w wx ∧ RdO ox [0] wx R27 Al1 cl1 l1 ∧ RdO ox [0] wx R30 Ax2 cx2 x2) ?_ ?_
  · exact ⟨own64, hd64, hz64, e64_0, e64_1, e64_5, hX64, b64_Al1, b64_Ax2⟩
  · rintro i78 zz91 a91 w91 ⟨own91, hd92, hz92, e92_0, e92_1, e92_5, hE92, b92_Al1, b92_Ax2⟩ hs Q91 hn91 hp91 hz91
    have hs : law20_same_b1 l1 x2 i78 = some zz91 := hs
    refine fl_seq (fun Q93 hn93 hp93 => ?_)
    refine rg_plain_seq (n := 26) (rs := []) (own0 := own91) (K := [])
        (bs := [0, 0, 2, 7])
        (ds := [⟨[], [5], [], Fct.val 11 (.int .i64 i78)⟩,
        ⟨[], [0], [], Fct.val 12 (.slice Al1 l1.length cl1)⟩,
        ⟨[1], [], [], Fct.val 13 (.int .i64 (l1.length : Int))⟩,
        ⟨[0, 2], [], [], Fct.val 14 (.bool (decide (i78 < (l1.length : Int))))⟩]) (by kernel_rfl) hz92 hd92 (fun _ h => nomatch h) ?_ ?_
    · refine steps_cons (fun own a wx hf hsl hE => ?_) ?_
      · obtain ⟨s_5, -⟩ := hsl
        exact sg_plain rfl rfl (or_move (s_5.trans e92_5))
      refine steps_cons (fun own a wx hf hsl hE => ?_) ?_
      · obtain ⟨s_0, -⟩ := hsl
        exact sg_plain rfl rfl (or_move (s_0.trans e92_0))
      refine steps_cons (fun own a wx hf hsl hE => ?_) ?_
      · obtain ⟨(f_12 : a.eval (.tmp 12) = .slice Al1 l1.length cl1), -⟩ := hf
        exact sg_plain rfl rfl (or_len tu35 f_12 rfl)
      refine steps_cons (fun own a wx hf hsl hE => ?_) ?_
      · obtain ⟨(f_11 : a.eval (.tmp 11) = .int .i64 i78), (f_13 : a.eval (.tmp 13) = .int .i64 (l1.length : Int)), -⟩ := hf
        exact sg_plain rfl rfl (or_lss f_11 f_13 rfl)
      exact steps_nil
    intro own94 a94 w94 hd94 hz94 hk94 hf94 hE94
    have e94_0 : a94.eval (.tmp 0) = .slice Al1 l1.length cl1 := (hk94 0 rfl).trans e92_0
    have e94_1 : a94.eval (.tmp 1) = .slice Ax2 x2.length cx2 := (hk94 1 rfl).trans e92_1
    have e94_5 : a94.eval (.tmp 5) = .int .i64 i78 := (hk94 5 rfl).trans e92_5
    obtain ⟨(f_14 : a94.eval (.tmp 14) = .bool (decide (i78 < (l1.length : Int)))), -⟩ := hf94 [3] rfl
    have e94_14 := f_14
    have hX94 := Evo.step hE92 (fun _ => Nat.le_refl 0) hE94 rfl
    have b94_Al1 := RdO.evo rfl hE94 b92_Al1
    have b94_Ax2 := RdO.evo rfl hE94 b92_Ax2
    refine fl_cond e94_14 hs (fun c95 hs => ?_) (fun c95 hs => ?_)
    · refine fl_skip ?_
      refine hn93 _ _ ?_
      refine fl_seq (fun Q96 hn96 hp96 => ?_)
      refine fl_block (fun Q97 hn97 hx97 hp97 => ?_)
      obtain ⟨x98, hx98, hs⟩ := obind hs
      obtain ⟨x99, hx99, hs⟩ := obind hs
      refine rg_draw_seq g_mixed (n := 26) (rs := []) (own0 := own94) (K := [])
          (bs := [0, 0, 3, 7, 0, 0, 48, 112, 255])
          (ds := [⟨[], [0], [], Fct.val 17 (.slice Al1 l1.length cl1)⟩,
          ⟨[], [5], [], Fct.val 18 (.int .i64 i78)⟩,
          ⟨[0, 1], [], [], Fct.val 19 (.pointer (some ((adr Al1).add ((i78 : Int).toNat * R27.s))))⟩,
          ⟨[2], [], [], Fct.val 20 (.agg #[.int .i64 x98.1, .int .i64 x98.2.1, .int .i64 x98.2.2])⟩,
          ⟨[], [1], [], Fct.val 21 (.slice Ax2 x2.length cx2)⟩,
          ⟨[], [5], [], Fct.val 22 (.int .i64 i78)⟩,
          ⟨[4, 5], [], [], Fct.val 23 (.pointer (some ((adr Ax2).add ((i78 : Int).toNat * R30.s))))⟩,
          ⟨[6], [], [], Fct.val 24 (.agg #[.int .i64 x99.1, .int .i64 x99.2.1, .int .i64 x99.2.2])⟩,
          ⟨[3, 7], [], [], Fct.val 25 (.bool (!decide (x98 = x99)))⟩]) (by kernel_rfl) hz94 hd94 (fun _ h => nomatch h) ?_ ?_
      · refine steps_cons (fun own a wx hf hsl hE => ?_) ?_
        · obtain ⟨s_0, -⟩ := hsl
          exact sg_plain rfl rfl (or_move (s_0.trans e94_0))
        refine steps_cons (fun own a wx hf hsl hE => ?_) ?_
        · obtain ⟨s_5, -⟩ := hsl
          exact sg_plain rfl rfl (or_move (s_5.trans e94_5))
        refine steps_cons (fun own a wx hf hsl hE => ?_) ?_
        · obtain ⟨(f_17 : a.eval (.tmp 17) = .slice Al1 l1.length cl1), (f_18 : a.eval (.tmp 18) = .int .i64 i78), -⟩ := hf
          exact sg_plain rfl rfl (or_index (R := R27) (l := l1) tl35 f_17 f_18 (RdO.some_ b94_Al1 hx98) hx98)
        refine steps_cons (fun own a wx hf hsl hE => ?_) ?_
        · obtain ⟨(f_19 : a.eval (.tmp 19) = .pointer (some ((adr Al1).add ((i78 : Int).toNat * R27.s)))), -⟩ := hf
          exact sg_plain rfl rfl (or_load (l := E27.f x98) ta27 f_19 (RdO.cells (F := E27) (RdO.evo rfl hE b94_Al1) hx98) rfl)
        refine steps_cons (fun own a wx hf hsl hE => ?_) ?_
        · obtain ⟨s_1, -⟩ := hsl
          exact sg_plain rfl rfl (or_move (s_1.trans e94_1))
        refine steps_cons (fun own a wx hf hsl hE => ?_) ?_
        · obtain ⟨s_5, -⟩ := hsl
          exact sg_plain rfl rfl (or_move (s_5.trans e94_5))
        refine steps_cons (fun own a wx hf hsl hE => ?_) ?_
        · obtain ⟨(f_21 : a.eval (.tmp 21) = .slice Ax2 x2.length cx2), (f_22 : a.eval (.tmp 22) = .int .i64 i78), -⟩ := hf
          exact sg_plain rfl rfl (or_index (R := R30) (l := x2) tl38 f_21 f_22 (RdO.some_ b94_Ax2 hx99) hx99)
        refine steps_cons (fun own a wx hf hsl hE => ?_) ?_
        · obtain ⟨(f_23 : a.eval (.tmp 23) = .pointer (some ((adr Ax2).add ((i78 : Int).toNat * R30.s)))), -⟩ := hf
          exact sg_plain rfl rfl (or_load (l := E30.f x99) ta30 f_23 (RdO.cells (F := E30) (RdO.evo rfl hE b94_Ax2) hx99) rfl)
        refine steps_cons (fun own a wx hf hsl hE => ?_) ?_
        · obtain ⟨(f_20 : a.eval (.tmp 20) = .agg #[.int .i64 x98.1, .int .i64 x98.2.1, .int .i64 x98.2.2]), (f_24 : a.eval (.tmp 24) = .agg #[.int .i64 x99.1, .int .i64 x99.2.1, .int .i64 x99.2.2]), -⟩ := hf
          exact sg_plain rfl rfl (or_neqA sg30 f_20 f_24 (sn30 x98.1 x98.2.1 x98.2.2 x99.1 x99.2.1 x99.2.2 _) rfl)
        exact steps_nil
      intro own100 a100 w100 hd100 hz100 hk100 hf100 hE100
      have e100_0 : a100.eval (.tmp 0) = .slice Al1 l1.length cl1 := (hk100 0 rfl).trans e94_0
      have e100_1 : a100.eval (.tmp 1) = .slice Ax2 x2.length cx2 := (hk100 1 rfl).trans e94_1
      have e100_5 : a100.eval (.tmp 5) = .int .i64 i78 := (hk100 5 rfl).trans e94_5
      obtain ⟨(f_25 : a100.eval (.tmp 25) = .bool (!decide (x98 = x99))), -⟩ := hf100 [8] rfl
      have e100_25 := f_25
      have hX100 := Evo.step hX94 (fun _ => Nat.le_refl 0) hE100 rfl
      have b100_Al1 := RdO.evo rfl hE100 b94_Al1
      have b100_Ax2 := RdO.evo rfl hE100 b94_Ax2
      refine fl_cond e100_25 hs (fun c101 hs => ?_) (fun c101 hs => ?_)
      · refine rg_plain_seq (n := 26) (rs := []) (own0 := own100) (K := [])
            (bs := [0])
            (ds := [⟨[], [], [], Fct.val 4 (.bool false)⟩]) (by kernel_rfl) hz100 hd100 (fun _ h => nomatch h) ?_ ?_
        · refine steps_cons (fun own a wx hf hsl hE => ?_) ?_
          · exact sg_plain rfl rfl (or_assign rfl)
          exact steps_nil
        intro own102 a102 w102 hd102 hz102 hk102 hf102 hE102
        obtain ⟨(f_4 : a102.eval (.tmp 4) = .bool false), -⟩ := hf102 [0] rfl
        have e102_4 := f_4
        have hX102 := Evo.step hX100 (fun _ => Nat.le_refl 0) hE102 rfl
        refine fl_ret ?_
        refine hp97 _ _ _ rfl ?_
        refine hp96 _ _ _ rfl ?_
        replace hs := hz91 _ hs
        refine hp91 _ _ _ rfl ?_
        refine hp65 _ _ _ rfl ?_
        refine hp63 _ _ _ rfl ?_
        obtain rfl := osome hs
        exact hret _ _ _ _ (.inl rfl) hd102 (results1_ rfl (RVal.tmp_ e102_4)) ⟨own102, rfl, hX102⟩
      refine fl_skip ?_
      refine hn97 _ _ ?_
      refine hn96 _ _ ?_
      refine rg_plain (n := 26) (rs := []) (own0 := own100) (K := [])
          (bs := [0, 1, 3])
          (ds := [⟨[], [5], [], Fct.val 15 (.int .i64 i78)⟩,
          ⟨[0], [], [], Fct.val 16 (.int .i64 (ad i78 1))⟩,
          ⟨[1], [], [], Fct.val 5 (.int .i64 (ad i78 1))⟩]) (by kernel_rfl) hz100 hd100 (fun _ h => nomatch h) ?_ ?_
      · refine steps_cons (fun own a wx hf hsl hE => ?_) ?_
        · obtain ⟨s_5, -⟩ := hsl
          exact sg_plain rfl rfl (or_move (s_5.trans e100_5))
        refine steps_cons (fun own a wx hf hsl hE => ?_) ?_
        · obtain ⟨(f_15 : a.eval (.tmp 15) = .int .i64 i78), -⟩ := hf
          exact sg_plain rfl rfl (or_add f_15 rfl rfl)
        refine steps_cons (fun own a wx hf hsl hE => ?_) ?_
        · obtain ⟨(f_16 : a.eval (.tmp 16) = .int .i64 (ad i78 1)), -⟩ := hf
          exact sg_plain rfl rfl (or_assign f_16)
        exact steps_nil
      intro own103 a103 w103 hd103 hz103 hk103 hf103 hE103
      have e103_0 : a103.eval (.tmp 0) = .slice Al1 l1.length cl1 := (hk103 0 rfl).trans e100_0
      have e103_1 : a103.eval (.tmp 1) = .slice Ax2 x2.length cx2 := (hk103 1 rfl).trans e100_1
      obtain ⟨(f_5 : a103.eval (.tmp 5) = .int .i64 (ad i78 1)), -⟩ := hf103 [2] rfl
      have e103_5 := f_5
      have hX103 := Evo.step hX100 (fun _ => Nat.le_refl 0) hE103 rfl
      have b103_Al1 := RdO.evo rfl hE103 b100_Al1
      have b103_Ax2 := RdO.evo rfl hE103 b100_Ax2
      exact hn91 _ _ _ hs ⟨own103, hd103, hz103, e103_0, e103_1, e103_5, hX103, b103_Al1, b103_Ax2⟩
    refine fl_exit ?_
    refine hp93 _ _ _ rfl ?_
    replace hs := hz91 _ hs
    refine hp91 _ _ _ rfl ?_
    refine hx65 _ _ ?_
    refine hn63 _ _ ?_
    refine rg_plain_seq (n := 26) (rs := []) (own0 := own94) (K := [])
        (bs := [0])
        (ds := [⟨[], [], [], Fct.val 4 (.bool true)⟩]) (by kernel_rfl) hz94 hd94 (fun _ h => nomatch h) ?_ ?_
    · refine steps_cons (fun own a wx hf hsl hE => ?_) ?_
      · exact sg_plain rfl rfl (or_assign rfl)
      exact steps_nil
    intro own104 a104 w104 hd104 hz104 hk104 hf104 hE104
    obtain ⟨(f_4 : a104.eval (.tmp 4) = .bool true), -⟩ := hf104 [0] rfl
    have e104_4 := f_4
    have hX104 := Evo.step hX94 (fun _ => Nat.le_refl 0) hE104 rfl
    refine fl_ret ?_
    obtain rfl := osome hs
    exact hret _ _ _ _ (.inl rfl) hd104 (results1_ rfl (RVal.tmp_ e104_4)) ⟨own104, rfl, hX104⟩

theorem law20_box_w (w : World) (b1 : (Int × Int) × (Int × Int)) (r : (Int × Int) × (Int × Int)) (hs : law20_box b1 = some r) :
    Calls Try.prog 13 #[.agg #[.int .i64 b1.1.1, .int .i64 b1.1.2, .int .i64 b1.2.1, .int .i64 b1.2.2]] w fun e w' => ∃ own' : Own, e = .returned (.agg #[.int .i64 r.1.1, .int .i64 r.1.2, .int .i64 r.2.1, .int .i64 r.2.2]) ∧ Evo [] (fun _ => 0) own' w w' := by
  refine fl_enter (n := 10) rfl rfl rfl (Nat.le_of_ble_eq_true rfl) ?_
  intro a0 Q hd0 hz0 harg hret
  have ha0 := harg 0 _ rfl
  clear harg
  have hE0 : Evo [] (fun _ => 0) (fun _ => 0) w w := Evo.refl _ _ _
  refine rg_plain_seq (n := 10) (rs := []) (own0 := (fun _ => 0)) (K := [])
      (bs := [0, 0])
      (ds := [⟨[], [0], [], Fct.blk 23 1 (fun g => .pointer (some ⟨g, 0, none⟩)) 25 #[.int .i64 b1.1.1, .int .i64 b1.1.2, .int .i64 b1.2.1, .int .i64 b1.2.2]⟩,
      ⟨[], [], [], Fct.blk 25 2 (fun g => .pointer (some ⟨g, 0, none⟩)) 41 #[.int .i64 0, .int .i64 0, .int .i64 0, .int .i64 0]⟩]) (by kernel_rfl) hz0 hd0 (fun _ h => nomatch h) ?_ ?_
  · refine steps_cons (fun own a wx hf hsl hE => ?_) ?_
    · obtain ⟨s_0, -⟩ := hsl
      exact sg_plain rfl rfl (or_new [(0, .agg #[.int .i64 b1.1.1, .int .i64 b1.1.2, .int .i64 b1.2.1, .int .i64 b1.2.2])] rfl rfl ⟨(s_0.trans ha0), trivial⟩ (by kernel_rfl))
    refine steps_cons (fun own a wx hf hsl hE => ?_) ?_
    · exact sg_plain rfl rfl (or_new [] rfl rfl trivial (by kernel_rfl))
    exact steps_nil
  intro own26 a26 w26 hd26 hz26 hk26 hf26 hE26
  obtain ⟨⟨g22, (f_1 : a26.eval (.tmp 1) = .pointer (some ⟨g22, 0, none⟩)), (b_g22 : BlkO own26 23 w26 g22 25 #[.int .i64 b1.1.1, .int .i64 b1.1.2, .int .i64 b1.2.1, .int .i64 b1.2.2])⟩, ⟨g24, (f_2 : a26.eval (.tmp 2) = .pointer (some ⟨g24, 0, none⟩)), (b_g24 : BlkO own26 25 w26 g24 41 #[.int .i64 0, .int .i64 0, .int .i64 0, .int .i64 0])⟩, -⟩ := hf26 [0, 1] rfl
  have e26_1 := f_1
  have e26_2 := f_2
  have hX26 := Evo.step hE0 (fun _ => Nat.le_refl 0) hE26 rfl
  have b26_g22 := b_g22
  have b26_g24 := b_g24
  obtain ⟨r29, hr29, hs⟩ := obind hs
  obtain ⟨r30, hr30, hs⟩ := obind hs
  refine rg_draw_seq g_mixed (n := 10) (rs := [Fct.at_ 25 g24 41 #[.int .i64 0, .int .i64 0, .int .i64 0, .int .i64 0]]) (own0 := own26) (K := [25])
      (bs := [0, 1, 3, 0, 8, 31, 63, 127])
      (ds := [⟨[], [1], [], Fct.val 3 (.pointer (some ⟨g22, 0, none⟩))⟩,
      ⟨[0], [], [], Fct.val 4 (.agg #[.int .i64 b1.1.1, .int .i64 b1.1.2])⟩,
      ⟨[1], [], [], Fct.val 5 (.agg #[.int .i64 r29.1, .int .i64 r29.2])⟩,
      ⟨[], [1], [], Fct.val 6 (.pointer (some ⟨g22, 2, none⟩))⟩,
      ⟨[3], [], [], Fct.val 7 (.agg #[.int .i64 b1.2.1, .int .i64 b1.2.2])⟩,
      ⟨[4], [], [], Fct.val 8 (.agg #[.int .i64 r30.1, .int .i64 r30.2])⟩,
      ⟨[2, 5], [], [], Fct.val 9 (.agg #[.int .i64 r29.1, .int .i64 r29.2, .int .i64 r30.1, .int .i64 r30.2])⟩,
      ⟨[6, 8], [2], [25], Fct.at_ 31 g24 41 #[.int .i64 r29.1, .int .i64 r29.2, .int .i64 r30.1, .int .i64 r30.2]⟩]) (by kernel_rfl) hz26 hd26 (by simp only [List.forall_mem_cons]; exact ⟨b26_g24, fun _ h => nomatch h⟩) ?_ ?_
  · refine steps_cons (fun own a wx hf hsl hE => ?_) ?_
    · obtain ⟨s_1, -⟩ := hsl
      exact sg_plain rfl rfl (or_field fo25_0 (s_1.trans e26_1) (by rfl))
    refine steps_cons (fun own a wx hf hsl hE => ?_) ?_
    · obtain ⟨(f_3 : a.eval (.tmp 3) = .pointer (some ⟨g22, 0, none⟩)), -⟩ := hf
      exact sg_plain rfl rfl (or_load (l := [.int .i64 b1.1.1, .int .i64 b1.1.2]) ta23 f_3 (Blk.cellsFrom (BlkO.evo (by decide) hE b26_g22).2 0 rfl) rfl)
    refine steps_cons (fun own a wx hf hsl hE => ?_) ?_
    · obtain ⟨(f_4 : a.eval (.tmp 4) = .agg #[.int .i64 b1.1.1, .int .i64 b1.1.2]), -⟩ := hf
      exact sg_plain rfl rfl (or_call cf9 (args1 f_4) (law01_Of_w _ b1.1  r29 hr29) post_val)
    refine steps_cons (fun own a wx hf hsl hE => ?_) ?_
    · obtain ⟨s_1, -⟩ := hsl
      exact sg_plain rfl rfl (or_field fo25_1 (s_1.trans e26_1) (by rfl))
    refine steps_cons (fun own a wx hf hsl hE => ?_) ?_
    · obtain ⟨(f_6 : a.eval (.tmp 6) = .pointer (some ⟨g22, 2, none⟩)), -⟩ := hf
      exact sg_plain rfl rfl (or_load (l := [.int .i64 b1.2.1, .int .i64 b1.2.2]) ta23 f_6 (Blk.cellsFrom (BlkO.evo (by decide) hE b26_g22).2 2 rfl) rfl)
    refine steps_cons (fun own a wx hf hsl hE => ?_) ?_
    · obtain ⟨(f_7 : a.eval (.tmp 7) = .agg #[.int .i64 b1.2.1, .int .i64 b1.2.2]), -⟩ := hf
      exact sg_plain rfl rfl (or_call cf9 (args1 f_7) (law01_Of_w _ b1.2  r30 hr30) post_val)
    refine steps_cons (fun own a wx hf hsl hE => ?_) ?_
    · obtain ⟨(f_5 : a.eval (.tmp 5) = .agg #[.int .i64 r29.1, .int .i64 r29.2]), (f_8 : a.eval (.tmp 8) = .agg #[.int .i64 r30.1, .int .i64 r30.2]), -⟩ := hf
      exact sg_plain rfl rfl (or_k [(5, .agg #[.int .i64 r29.1, .int .i64 r29.2]), (8, .agg #[.int .i64 r30.1, .int .i64 r30.2])] rfl rfl ⟨f_5, f_8, trivial⟩ (by kernel_rfl))
    refine steps_cons (fun own a wx hf hsl hE => ?_) ?_
    · obtain ⟨(f_9 : a.eval (.tmp 9) = .agg #[.int .i64 r29.1, .int .i64 r29.2, .int .i64 r30.1, .int .i64 r30.2]), (b_g24 : BlkO own 25 wx g24 41 #[.int .i64 0, .int .i64 0, .int .i64 0, .int .i64 0]), -⟩ := hf
      obtain ⟨s_2, -⟩ := hsl
      exact sg_plain rfl rfl (or_store (l := #[.int .i64 r29.1, .int .i64 r29.2, .int .i64 r30.1, .int .i64 r30.2]) (lab := 25) (lab2 := 31) ts41 (s_2.trans e26_2) f_9 b_g24 (by simp) (by kernel_rfl) (mem_of rfl) (by decide) (by kernel_rfl) (fun own' a' w' ha hb => hb))
    exact steps_nil
  intro own32 a32 w32 hd32 hz32 hk32 hf32 hE32
  have e32_2 : a32.eval (.tmp 2) = .pointer (some ⟨g24, 0, none⟩) := (hk32 2 rfl).trans e26_2
  obtain ⟨(b_g24 : BlkO own32 31 w32 g24 41 #[.int .i64 r29.1, .int .i64 r29.2, .int .i64 r30.1, .int .i64 r30.2]), -⟩ := hf32 [7] rfl
  have hX32 := Evo.step hX26 (fun _ => Nat.le_refl 0) hE32 rfl
  have b32_g24 := b_g24
  refine fl_ret ?_
  obtain rfl := osome hs
  exact hret _ _ _ _ (.inl rfl) hd32 (results1_ rfl (RVal.cell_ e32_2 (run_loadVarAgg (l := [.int .i64 r29.1, .int .i64 r29.2, .int .i64 r30.1, .int .i64 r30.2]) ta41 (Blk.cellsFrom b32_g24.2 0 rfl) rfl))) ⟨own32, rfl, hX32⟩

end Go.Proofs.Ytehmjkdgakinbaa
