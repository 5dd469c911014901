/-
  Chapter 20. The walks.
-/
import Derived.Test.YtehmjkdgakinbaaIt
import Derived.Test.YtehmjkdgakinbaaTy
import Derived.Test.YtehmjkdgakinbaaSp1
namespace Go.Proofs.Ytehmjkdgakinbaa
open Go.RowKit
set_option linter.unusedVariables false
theorem snap_level_w (w : World) (z1 : Int) (r : Bool) (hs : snap_level z1 = some r) :
    Calls Try.prog 43 #[.int .i64 z1] w fun e w' => ∃ own' : Own, e = .returned (.bool r) ∧ Evo [] (fun _ => 0) own' w w' := by
  refine fl_enter (n := 9) rfl rfl rfl (Nat.le_of_ble_eq_true rfl) ?_
  intro a0 Q hd0 hz0 harg hret
  have ha0 := harg 0 _ rfl
  clear harg
  have hE0 : Evo [] (fun _ => 0) (fun _ => 0) w w := Evo.refl _ _ _
  refine rg_plain_seq (n := 9) (rs := []) (own0 := (fun _ => 0)) (K := [])
      (bs := [0])
      (ds := [⟨[], [], [], Fct.val 2 (.bool false)⟩]) (by kernel_rfl) hz0 hd0 (fun _ h => nomatch h) ?_ ?_
  · refine steps_cons (fun own a wx hf hsl hE => ?_) ?_
    · exact sg_plain rfl rfl (or_assign rfl)
    exact steps_nil
  intro own14 a14 w14 hd14 hz14 hk14 hf14 hE14
  have e14_0 : a14.eval (.tmp 0) = .int .i64 z1 := (hk14 0 rfl).trans ha0
  have hX14 := Evo.step hE0 (fun _ => Nat.le_refl 0) hE14 rfl
  obtain ⟨x15, hx15, hs⟩ := obind hs
  refine rg_plain_seq (n := 9) (rs := []) (own0 := own14) (K := [])
      (bs := [0, 1, 3, 7, 15, 31, 63])
      (ds := [⟨[], [0], [], Fct.val 3 (.int .i64 z1)⟩,
      ⟨[0], [], [], Fct.val 4 (.bool (decide (0 ≤ z1)))⟩,
      ⟨[1], [], [], Fct.val 5 (.bool (decide (0 ≤ z1)))⟩,
      ⟨[2], [0], [], Fct.cond (decide (0 ≤ z1)) (some 6) (Fct.val 6 (.int .i64 z1))⟩,
      ⟨[2, 3], [], [], Fct.cond (decide (0 ≤ z1)) (some 7) (Fct.val 7 (.bool (decide (z1 ≤ 4))))⟩,
      ⟨[2, 4], [], [], Fct.val 8 (.bool x15)⟩,
      ⟨[5], [], [], Fct.val 2 (.bool x15)⟩]) (by kernel_rfl) hz14 hd14 (fun _ h => nomatch h) ?_ ?_
  · refine steps_cons (fun own a wx hf hsl hE => ?_) ?_
    · obtain ⟨s_0, -⟩ := hsl
      exact sg_plain rfl rfl (or_move (s_0.trans e14_0))
    refine steps_cons (fun own a wx hf hsl hE => ?_) ?_
    · obtain ⟨(f_3 : a.eval (.tmp 3) = .int .i64 z1), -⟩ := hf
      exact sg_plain rfl rfl (or_geq f_3 rfl rfl)
    refine steps_cons (fun own a wx hf hsl hE => ?_) ?_
    · obtain ⟨(f_4 : a.eval (.tmp 4) = .bool (decide (0 ≤ z1))), -⟩ := hf
      exact sg_plain rfl rfl (or_move f_4)
    refine steps_cons (fun own a wx hf hsl hE => ?_) ?_
    · obtain ⟨(f_5 : a.eval (.tmp 5) = .bool (decide (0 ≤ z1))), -⟩ := hf
      obtain ⟨s_0, -⟩ := hsl
      refine sg_t rfl rfl rfl f_5 (fun hg => ?_)
      exact or_move (s_0.trans e14_0)
    refine steps_cons (fun own a wx hf hsl hE => ?_) ?_
    · obtain ⟨(f_5 : a.eval (.tmp 5) = .bool (decide (0 ≤ z1))), c_6, -⟩ := hf
      refine sg_t rfl rfl rfl f_5 (fun hg => ?_)
      have f_6 : a.eval (.tmp 6) = .int .i64 z1 := c_6.1 hg
      exact or_leq f_6 rfl rfl
    refine steps_cons (fun own a wx hf hsl hE => ?_) ?_
    · obtain ⟨(f_5 : a.eval (.tmp 5) = .bool (decide (0 ≤ z1))), c_7, -⟩ := hf
      exact sg_plain rfl rfl (or_and f_5 (fun hx => c_7.1 hx) rfl (osome hx15).symm)
    refine steps_cons (fun own a wx hf hsl hE => ?_) ?_
    · obtain ⟨(f_8 : a.eval (.tmp 8) = .bool x15), -⟩ := hf
      exact sg_plain rfl rfl (or_assign f_8)
    exact steps_nil
  intro own16 a16 w16 hd16 hz16 hk16 hf16 hE16
  obtain ⟨(f_2 : a16.eval (.tmp 2) = .bool x15), -⟩ := hf16 [6] rfl
  have e16_2 := f_2
  have hX16 := Evo.step hX14 (fun _ => Nat.le_refl 0) hE16 rfl
  refine fl_ret ?_
  obtain rfl := (osome hs).symm
  exact hret _ _ _ _ (.inl rfl) hd16 (results1_ rfl (RVal.tmp_ e16_2)) ⟨own16, rfl, hX16⟩

theorem snap_Side_w (w : World) (z1 : Int) (r : Int × Bool) (hs : snap_Side z1 = some r) :
    Calls Try.prog 31 #[.int .i64 z1] w fun e w' => ∃ own' : Own, e = .returned (.tuple #[.int .i64 r.1, .bool r.2]) ∧ Evo [] (fun _ => 0) own' w w' := by
  refine fl_enter (n := 9) rfl rfl rfl (Nat.le_of_ble_eq_true rfl) ?_
  intro a0 Q hd0 hz0 harg hret
  have ha0 := harg 0 _ rfl
  clear harg
  have hE0 : Evo [] (fun _ => 0) (fun _ => 0) w w := Evo.refl _ _ _
  refine rg_plain_seq (n := 9) (rs := []) (own0 := (fun _ => 0)) (K := [])
      (bs := [0, 1])
      (ds := [⟨[], [], [], Fct.val 2 (.int .i64 0)⟩,
      ⟨[], [], [], Fct.val 3 (.bool false)⟩]) (by kernel_rfl) hz0 hd0 (fun _ h => nomatch h) ?_ ?_
  · refine steps_cons (fun own a wx hf hsl hE => ?_) ?_
    · exact sg_plain rfl rfl (or_assign rfl)
    refine steps_cons (fun own a wx hf hsl hE => ?_) ?_
    · exact sg_plain rfl rfl (or_assign rfl)
    exact steps_nil
  intro own19 a19 w19 hd19 hz19 hk19 hf19 hE19
  have e19_0 : a19.eval (.tmp 0) = .int .i64 z1 := (hk19 0 rfl).trans ha0
  have hX19 := Evo.step hE0 (fun _ => Nat.le_refl 0) hE19 rfl
  refine fl_seq (fun Q20 hn20 hp20 => ?_)
  obtain ⟨r21, hr21, hs⟩ := obind hs
  refine rg_plain_seq (n := 9) (rs := []) (own0 := own19) (K := [])
      (bs := [0, 1, 3])
      (ds := [⟨[], [0], [], Fct.val 4 (.int .i64 z1)⟩,
      ⟨[0], [], [], Fct.val 5 (.bool r21)⟩,
      ⟨[1], [], [], Fct.val 6 (.bool (!r21))⟩]) (by kernel_rfl) hz19 hd19 (fun _ h => nomatch h) ?_ ?_
  · refine steps_cons (fun own a wx hf hsl hE => ?_) ?_
    · obtain ⟨s_0, -⟩ := hsl
      exact sg_plain rfl rfl (or_move (s_0.trans e19_0))
    refine steps_cons (fun own a wx hf hsl hE => ?_) ?_
    · obtain ⟨(f_4 : a.eval (.tmp 4) = .int .i64 z1), -⟩ := hf
      exact sg_plain rfl rfl (or_call cf43 (args1 f_4) (snap_level_w _ z1  r21 hr21) post_val)
    refine steps_cons (fun own a wx hf hsl hE => ?_) ?_
    · obtain ⟨(f_5 : a.eval (.tmp 5) = .bool r21), -⟩ := hf
      exact sg_plain rfl rfl (or_not f_5 rfl)
    exact steps_nil
  intro own22 a22 w22 hd22 hz22 hk22 hf22 hE22
  have e22_0 : a22.eval (.tmp 0) = .int .i64 z1 := (hk22 0 rfl).trans e19_0
  obtain ⟨(f_6 : a22.eval (.tmp 6) = .bool (!r21)), -⟩ := hf22 [2] rfl
  have e22_6 := f_6
  have hX22 := Evo.step hX19 (fun _ => Nat.le_refl 0) hE22 rfl
  refine fl_cond e22_6 hs (fun c23 hs => ?_) (fun c23 hs => ?_)
  · refine rg_plain_seq (n := 9) (rs := []) (own0 := own22) (K := [])
        (bs := [0, 1])
        (ds := [⟨[], [], [], Fct.val 2 (.int .i64 0)⟩,
        ⟨[], [], [], Fct.val 3 (.bool false)⟩]) (by kernel_rfl) hz22 hd22 (fun _ h => nomatch h) ?_ ?_
    · refine steps_cons (fun own a wx hf hsl hE => ?_) ?_
      · exact sg_plain rfl rfl (or_assign rfl)
      refine steps_cons (fun own a wx hf hsl hE => ?_) ?_
      · exact sg_plain rfl rfl (or_assign rfl)
      exact steps_nil
    intro own24 a24 w24 hd24 hz24 hk24 hf24 hE24
    obtain ⟨(f_2 : a24.eval (.tmp 2) = .int .i64 0), (f_3 : a24.eval (.tmp 3) = .bool false), -⟩ := hf24 [0, 1] rfl
    have e24_2 := f_2
    have e24_3 := f_3
    have hX24 := Evo.step hX22 (fun _ => Nat.le_refl 0) hE24 rfl
    refine fl_ret ?_
    refine hp20 _ _ _ rfl ?_
    obtain rfl := osome hs
    exact hret _ _ _ _ (.inl rfl) hd24 (results2_ rfl (RVal.tmp_ e24_2) (RVal.tmp_ e24_3)) ⟨own24, rfl, hX24⟩
  refine fl_skip ?_
  refine hn20 _ _ ?_
  obtain ⟨x25, hx25, hs⟩ := obind hs
  refine rg_plain_seq (n := 9) (rs := []) (own0 := own22) (K := [])
      (bs := [0, 1, 3, 7])
      (ds := [⟨[], [0], [], Fct.val 7 (.int .i64 z1)⟩,
      ⟨[0], [], [], Fct.val 8 (.int .i64 x25)⟩,
      ⟨[1], [], [], Fct.val 2 (.int .i64 x25)⟩,
      ⟨[], [], [], Fct.val 3 (.bool true)⟩]) (by kernel_rfl) hz22 hd22 (fun _ h => nomatch h) ?_ ?_
  · refine steps_cons (fun own a wx hf hsl hE => ?_) ?_
    · obtain ⟨s_0, -⟩ := hsl
      exact sg_plain rfl rfl (or_move (s_0.trans e22_0))
    refine steps_cons (fun own a wx hf hsl hE => ?_) ?_
    · obtain ⟨(f_7 : a.eval (.tmp 7) = .int .i64 z1), -⟩ := hf
      exact sg_plain rfl rfl (or_shl rfl f_7 hx25)
    refine steps_cons (fun own a wx hf hsl hE => ?_) ?_
    · obtain ⟨(f_8 : a.eval (.tmp 8) = .int .i64 x25), -⟩ := hf
      exact sg_plain rfl rfl (or_assign f_8)
    refine steps_cons (fun own a wx hf hsl hE => ?_) ?_
    · exact sg_plain rfl rfl (or_assign rfl)
    exact steps_nil
  intro own26 a26 w26 hd26 hz26 hk26 hf26 hE26
  obtain ⟨(f_2 : a26.eval (.tmp 2) = .int .i64 x25), (f_3 : a26.eval (.tmp 3) = .bool true), -⟩ := hf26 [2, 3] rfl
  have e26_2 := f_2
  have e26_3 := f_3
  have hX26 := Evo.step hX22 (fun _ => Nat.le_refl 0) hE26 rfl
  refine fl_ret ?_
  obtain rfl := osome hs
  exact hret _ _ _ _ (.inl rfl) hd26 (results2_ rfl (RVal.tmp_ e26_2) (RVal.tmp_ e26_3)) ⟨own26, rfl, hX26⟩

theorem window_count_w (w : World) (z1 : Int) (r : Int) (hs : window_count z1 = some r) :
    Calls Try.prog 32 #[.int .i64 z1] w fun e w' => ∃ own' : Own, e = .returned (.int .i64 r) ∧ Evo [] (fun _ => 0) own' w w' := by
  refine fl_enter (n := 12) rfl rfl rfl (Nat.le_of_ble_eq_true rfl) ?_
  intro a0 Q hd0 hz0 harg hret
  have ha0 := harg 0 _ rfl
  clear harg
  have hE0 : Evo [] (fun _ => 0) (fun _ => 0) w w := Evo.refl _ _ _
  refine rg_plain_seq (n := 12) (rs := []) (own0 := (fun _ => 0)) (K := [])
      (bs := [0])
      (ds := [⟨[], [], [], Fct.val 2 (.int .i64 0)⟩]) (by kernel_rfl) hz0 hd0 (fun _ h => nomatch h) ?_ ?_
  · refine steps_cons (fun own a wx hf hsl hE => ?_) ?_
    · exact sg_plain rfl rfl (or_assign rfl)
    exact steps_nil
  intro own16 a16 w16 hd16 hz16 hk16 hf16 hE16
  have e16_0 : a16.eval (.tmp 0) = .int .i64 z1 := (hk16 0 rfl).trans ha0
  have hX16 := Evo.step hE0 (fun _ => Nat.le_refl 0) hE16 rfl
  obtain ⟨r17, hr17, hs⟩ := obind hs
  refine rg_plain_seq (n := 12) (rs := []) (own0 := own16) (K := [])
      (bs := [0, 1, 3, 7, 7, 15, 63])
      (ds := [⟨[], [0], [], Fct.val 6 (.int .i64 z1)⟩,
      ⟨[0], [], [], Fct.val 7 (.tuple #[.int .i64 r17.1, .bool r17.2])⟩,
      ⟨[1], [], [], Fct.val 5 (.tuple #[.int .i64 r17.1, .bool r17.2])⟩,
      ⟨[2], [], [], Fct.val 8 (.int .i64 r17.1)⟩,
      ⟨[2], [], [], Fct.val 9 (.bool r17.2)⟩,
      ⟨[3], [], [], Fct.val 3 (.int .i64 r17.1)⟩,
      ⟨[4], [], [], Fct.val 4 (.bool r17.2)⟩]) (by kernel_rfl) hz16 hd16 (fun _ h => nomatch h) ?_ ?_
  · refine steps_cons (fun own a wx hf hsl hE => ?_) ?_
    · obtain ⟨s_0, -⟩ := hsl
      exact sg_plain rfl rfl (or_move (s_0.trans e16_0))
    refine steps_cons (fun own a wx hf hsl hE => ?_) ?_
    · obtain ⟨(f_6 : a.eval (.tmp 6) = .int .i64 z1), -⟩ := hf
      exact sg_plain rfl rfl (or_call cf31 (args1 f_6) (snap_Side_w _ z1  r17 hr17) post_val)
    refine steps_cons (fun own a wx hf hsl hE => ?_) ?_
    · obtain ⟨(f_7 : a.eval (.tmp 7) = .tuple #[.int .i64 r17.1, .bool r17.2]), -⟩ := hf
      exact sg_plain rfl rfl (or_move f_7)
    refine steps_cons (fun own a wx hf hsl hE => ?_) ?_
    · obtain ⟨(f_5 : a.eval (.tmp 5) = .tuple #[.int .i64 r17.1, .bool r17.2]), -⟩ := hf
      exact sg_plain rfl rfl (or_k [(5, .tuple #[.int .i64 r17.1, .bool r17.2])] rfl rfl ⟨f_5, trivial⟩ (by kernel_rfl))
    refine steps_cons (fun own a wx hf hsl hE => ?_) ?_
    · obtain ⟨(f_5 : a.eval (.tmp 5) = .tuple #[.int .i64 r17.1, .bool r17.2]), -⟩ := hf
      exact sg_plain rfl rfl (or_k [(5, .tuple #[.int .i64 r17.1, .bool r17.2])] rfl rfl ⟨f_5, trivial⟩ (by kernel_rfl))
    refine steps_cons (fun own a wx hf hsl hE => ?_) ?_
    · obtain ⟨(f_8 : a.eval (.tmp 8) = .int .i64 r17.1), -⟩ := hf
      exact sg_plain rfl rfl (or_assign f_8)
    refine steps_cons (fun own a wx hf hsl hE => ?_) ?_
    · obtain ⟨(f_9 : a.eval (.tmp 9) = .bool r17.2), -⟩ := hf
      exact sg_plain rfl rfl (or_assign f_9)
    exact steps_nil
  intro own18 a18 w18 hd18 hz18 hk18 hf18 hE18
  obtain ⟨(f_3 : a18.eval (.tmp 3) = .int .i64 r17.1), -⟩ := hf18 [5] rfl
  have e18_3 := f_3
  have hX18 := Evo.step hX16 (fun _ => Nat.le_refl 0) hE18 rfl
  obtain ⟨x19, hx19, hs⟩ := obind hs
  refine rg_plain_seq (n := 12) (rs := []) (own0 := own18) (K := [])
      (bs := [0, 1, 3])
      (ds := [⟨[], [3], [], Fct.val 10 (.int .i64 r17.1)⟩,
      ⟨[0], [], [], Fct.val 11 (.int .i64 x19)⟩,
      ⟨[1], [], [], Fct.val 2 (.int .i64 x19)⟩]) (by kernel_rfl) hz18 hd18 (fun _ h => nomatch h) ?_ ?_
  · refine steps_cons (fun own a wx hf hsl hE => ?_) ?_
    · obtain ⟨s_3, -⟩ := hsl
      exact sg_plain rfl rfl (or_move (s_3.trans e18_3))
    refine steps_cons (fun own a wx hf hsl hE => ?_) ?_
    · obtain ⟨(f_10 : a.eval (.tmp 10) = .int .i64 r17.1), -⟩ := hf
      exact sg_plain rfl rfl (or_quo f_10 rfl hx19)
    refine steps_cons (fun own a wx hf hsl hE => ?_) ?_
    · obtain ⟨(f_11 : a.eval (.tmp 11) = .int .i64 x19), -⟩ := hf
      exact sg_plain rfl rfl (or_assign f_11)
    exact steps_nil
  intro own20 a20 w20 hd20 hz20 hk20 hf20 hE20
  obtain ⟨(f_2 : a20.eval (.tmp 2) = .int .i64 x19), -⟩ := hf20 [2] rfl
  have e20_2 := f_2
  have hX20 := Evo.step hX18 (fun _ => Nat.le_refl 0) hE20 rfl
  refine fl_ret ?_
  obtain rfl := (osome hs).symm
  exact hret _ _ _ _ (.inl rfl) hd20 (results1_ rfl (RVal.tmp_ e20_2)) ⟨own20, rfl, hX20⟩

theorem window_Of_w (w : World) (z1 : Int) (p2 : Int × Int) (r : (Int × Int × Int) × Bool) (hs : window_Of z1 p2 = some r) :
    Calls Try.prog 7 #[.int .i64 z1, .agg #[.int .i64 p2.1, .int .i64 p2.2]] w fun e w' => ∃ own' : Own, e = .returned (.tuple #[.agg #[.int .i64 r.1.1, .int .i64 r.1.2.1, .int .i64 r.1.2.2], .bool r.2]) ∧ Evo [] (fun _ => 0) own' w w' := by
  refine fl_enter (n := 54) rfl rfl rfl (Nat.le_of_ble_eq_true rfl) ?_
  intro a0 Q hd0 hz0 harg hret
  have ha0 := harg 0 _ rfl
  have ha1 := harg 1 _ rfl
  clear harg
  have hE0 : Evo [] (fun _ => 0) (fun _ => 0) w w := Evo.refl _ _ _
  refine rg_plain_seq (n := 54) (rs := []) (own0 := (fun _ => 0)) (K := [])
      (bs := [0, 0, 0])
      (ds := [⟨[], [1], [], Fct.blk 34 3 (fun g => .pointer (some ⟨g, 0, none⟩)) 23 #[.int .i64 p2.1, .int .i64 p2.2]⟩,
      ⟨[], [], [], Fct.blk 36 4 (fun g => .pointer (some ⟨g, 0, none⟩)) 27 #[.int .i64 0, .int .i64 0, .int .i64 0]⟩,
      ⟨[], [], [], Fct.val 5 (.bool false)⟩]) (by kernel_rfl) hz0 hd0 (fun _ h => nomatch h) ?_ ?_
  · refine steps_cons (fun own a wx hf hsl hE => ?_) ?_
    · obtain ⟨s_1, -⟩ := hsl
      exact sg_plain rfl rfl (or_new [(1, .agg #[.int .i64 p2.1, .int .i64 p2.2])] rfl rfl ⟨(s_1.trans ha1), trivial⟩ (by kernel_rfl))
    refine steps_cons (fun own a wx hf hsl hE => ?_) ?_
    · exact sg_plain rfl rfl (or_new [] rfl rfl trivial (by kernel_rfl))
    refine steps_cons (fun own a wx hf hsl hE => ?_) ?_
    · exact sg_plain rfl rfl (or_assign rfl)
    exact steps_nil
  intro own37 a37 w37 hd37 hz37 hk37 hf37 hE37
  have e37_0 : a37.eval (.tmp 0) = .int .i64 z1 := (hk37 0 rfl).trans ha0
  obtain ⟨⟨g33, (f_3 : a37.eval (.tmp 3) = .pointer (some ⟨g33, 0, none⟩)), (b_g33 : BlkO own37 34 w37 g33 23 #[.int .i64 p2.1, .int .i64 p2.2])⟩, ⟨g35, (f_4 : a37.eval (.tmp 4) = .pointer (some ⟨g35, 0, none⟩)), (b_g35 : BlkO own37 36 w37 g35 27 #[.int .i64 0, .int .i64 0, .int .i64 0])⟩, -⟩ := hf37 [0, 1] rfl
  have e37_3 := f_3
  have e37_4 := f_4
  have hX37 := Evo.step hE0 (fun _ => Nat.le_refl 0) hE37 rfl
  have b37_g33 := b_g33
  have b37_g35 := b_g35
  obtain ⟨r38, hr38, hs⟩ := obind hs
  refine rg_plain_seq (n := 54) (rs := []) (own0 := own37) (K := [])
      (bs := [0, 1, 3, 7, 7, 15, 63])
      (ds := [⟨[], [0], [], Fct.val 10 (.int .i64 z1)⟩,
      ⟨[0], [], [], Fct.val 11 (.tuple #[.int .i64 r38.1, .bool r38.2])⟩,
      ⟨[1], [], [], Fct.val 9 (.tuple #[.int .i64 r38.1, .bool r38.2])⟩,
      ⟨[2], [], [], Fct.val 12 (.int .i64 r38.1)⟩,
      ⟨[2], [], [], Fct.val 13 (.bool r38.2)⟩,
      ⟨[3], [], [], Fct.val 6 (.int .i64 r38.1)⟩,
      ⟨[4], [], [], Fct.val 7 (.bool r38.2)⟩]) (by kernel_rfl) hz37 hd37 (fun _ h => nomatch h) ?_ ?_
  · refine steps_cons (fun own a wx hf hsl hE => ?_) ?_
    · obtain ⟨s_0, -⟩ := hsl
      exact sg_plain rfl rfl (or_move (s_0.trans e37_0))
    refine steps_cons (fun own a wx hf hsl hE => ?_) ?_
    · obtain ⟨(f_10 : a.eval (.tmp 10) = .int .i64 z1), -⟩ := hf
      exact sg_plain rfl rfl (or_call cf31 (args1 f_10) (snap_Side_w _ z1  r38 hr38) post_val)
    refine steps_cons (fun own a wx hf hsl hE => ?_) ?_
    · obtain ⟨(f_11 : a.eval (.tmp 11) = .tuple #[.int .i64 r38.1, .bool r38.2]), -⟩ := hf
      exact sg_plain rfl rfl (or_move f_11)
    refine steps_cons (fun own a wx hf hsl hE => ?_) ?_
    · obtain ⟨(f_9 : a.eval (.tmp 9) = .tuple #[.int .i64 r38.1, .bool r38.2]), -⟩ := hf
      exact sg_plain rfl rfl (or_k [(9, .tuple #[.int .i64 r38.1, .bool r38.2])] rfl rfl ⟨f_9, trivial⟩ (by kernel_rfl))
    refine steps_cons (fun own a wx hf hsl hE => ?_) ?_
    · obtain ⟨(f_9 : a.eval (.tmp 9) = .tuple #[.int .i64 r38.1, .bool r38.2]), -⟩ := hf
      exact sg_plain rfl rfl (or_k [(9, .tuple #[.int .i64 r38.1, .bool r38.2])] rfl rfl ⟨f_9, trivial⟩ (by kernel_rfl))
    refine steps_cons (fun own a wx hf hsl hE => ?_) ?_
    · obtain ⟨(f_12 : a.eval (.tmp 12) = .int .i64 r38.1), -⟩ := hf
      exact sg_plain rfl rfl (or_assign f_12)
    refine steps_cons (fun own a wx hf hsl hE => ?_) ?_
    · obtain ⟨(f_13 : a.eval (.tmp 13) = .bool r38.2), -⟩ := hf
      exact sg_plain rfl rfl (or_assign f_13)
    exact steps_nil
  intro own39 a39 w39 hd39 hz39 hk39 hf39 hE39
  have e39_0 : a39.eval (.tmp 0) = .int .i64 z1 := (hk39 0 rfl).trans e37_0
  have e39_3 : a39.eval (.tmp 3) = .pointer (some ⟨g33, 0, none⟩) := (hk39 3 rfl).trans e37_3
  have e39_4 : a39.eval (.tmp 4) = .pointer (some ⟨g35, 0, none⟩) := (hk39 4 rfl).trans e37_4
  obtain ⟨(f_6 : a39.eval (.tmp 6) = .int .i64 r38.1), (f_7 : a39.eval (.tmp 7) = .bool r38.2), -⟩ := hf39 [5, 6] rfl
  have e39_6 := f_6
  have e39_7 := f_7
  have hX39 := Evo.step hX37 (fun _ => Nat.le_refl 0) hE39 rfl
  have b39_g33 := BlkO.evo (by decide) hE39 b37_g33
  have b39_g35 := BlkO.evo (by decide) hE39 b37_g35
  refine fl_seq (fun Q40 hn40 hp40 => ?_)
  obtain ⟨x41, hx41, hs⟩ := obind hs
  obtain ⟨x42, hx42, hs⟩ := obind hs
  refine rg_plain_seq (n := 54) (rs := []) (own0 := own39) (K := [])
      (bs := [0, 1, 3, 7, 15, 31, 63, 127, 255, 511, 1023, 2047, 4095, 8191, 16383, 8191, 65535, 131071, 262143, 524287, 1048575, 524287, 4194303, 8388607])
      (ds := [⟨[], [7], [], Fct.val 14 (.bool r38.2)⟩,
      ⟨[0], [], [], Fct.val 15 (.bool (!r38.2))⟩,
      ⟨[1], [], [], Fct.val 16 (.bool (!r38.2))⟩,
      ⟨[2], [3], [], Fct.cond (!(!r38.2)) (some 17) (Fct.val 17 (.pointer (some ⟨g33, 0, none⟩)))⟩,
      ⟨[2, 3], [], [], Fct.cond (!(!r38.2)) (some 18) (Fct.val 18 (.int .i64 p2.1))⟩,
      ⟨[2, 4], [], [], Fct.cond (!(!r38.2)) (some 19) (Fct.val 19 (.bool (decide (p2.1 < 0))))⟩,
      ⟨[2, 5], [], [], Fct.val 20 (.bool ((!r38.2) || (decide (p2.1 < 0))))⟩,
      ⟨[6], [], [], Fct.val 21 (.bool ((!r38.2) || (decide (p2.1 < 0))))⟩,
      ⟨[7], [3], [], Fct.cond (!((!r38.2) || (decide (p2.1 < 0)))) (some 22) (Fct.val 22 (.pointer (some ⟨g33, 1, none⟩)))⟩,
      ⟨[7, 8], [], [], Fct.cond (!((!r38.2) || (decide (p2.1 < 0)))) (some 23) (Fct.val 23 (.int .i64 p2.2))⟩,
      ⟨[7, 9], [], [], Fct.cond (!((!r38.2) || (decide (p2.1 < 0)))) (some 24) (Fct.val 24 (.bool (decide (p2.2 < 0))))⟩,
      ⟨[7, 10], [], [], Fct.val 25 (.bool x41)⟩,
      ⟨[11], [], [], Fct.val 26 (.bool x41)⟩,
      ⟨[12], [3], [], Fct.cond (!x41) (some 27) (Fct.val 27 (.pointer (some ⟨g33, 0, none⟩)))⟩,
      ⟨[12, 13], [], [], Fct.cond (!x41) (some 28) (Fct.val 28 (.int .i64 p2.1))⟩,
      ⟨[12], [6], [], Fct.cond (!x41) (some 29) (Fct.val 29 (.int .i64 r38.1))⟩,
      ⟨[12, 14, 15], [], [], Fct.cond (!x41) (some 30) (Fct.val 30 (.bool (decide (r38.1 < p2.1))))⟩,
      ⟨[12, 16], [], [], Fct.val 31 (.bool (x41 || (decide (r38.1 < p2.1))))⟩,
      ⟨[17], [], [], Fct.val 32 (.bool (x41 || (decide (r38.1 < p2.1))))⟩,
      ⟨[18], [3], [], Fct.cond (!(x41 || (decide (r38.1 < p2.1)))) (some 33) (Fct.val 33 (.pointer (some ⟨g33, 1, none⟩)))⟩,
      ⟨[18, 19], [], [], Fct.cond (!(x41 || (decide (r38.1 < p2.1)))) (some 34) (Fct.val 34 (.int .i64 p2.2))⟩,
      ⟨[18], [6], [], Fct.cond (!(x41 || (decide (r38.1 < p2.1)))) (some 35) (Fct.val 35 (.int .i64 r38.1))⟩,
      ⟨[18, 20, 21], [], [], Fct.cond (!(x41 || (decide (r38.1 < p2.1)))) (some 36) (Fct.val 36 (.bool (decide (r38.1 < p2.2))))⟩,
      ⟨[18, 22], [], [], Fct.val 37 (.bool x42)⟩]) (by kernel_rfl) hz39 hd39 (fun _ h => nomatch h) ?_ ?_
  · refine steps_cons (fun own a wx hf hsl hE => ?_) ?_
    · obtain ⟨s_7, -⟩ := hsl
      exact sg_plain rfl rfl (or_move (s_7.trans e39_7))
    refine steps_cons (fun own a wx hf hsl hE => ?_) ?_
    · obtain ⟨(f_14 : a.eval (.tmp 14) = .bool r38.2), -⟩ := hf
      exact sg_plain rfl rfl (or_not f_14 rfl)
    refine steps_cons (fun own a wx hf hsl hE => ?_) ?_
    · obtain ⟨(f_15 : a.eval (.tmp 15) = .bool (!r38.2)), -⟩ := hf
      exact sg_plain rfl rfl (or_move f_15)
    refine steps_cons (fun own a wx hf hsl hE => ?_) ?_
    · obtain ⟨(f_16 : a.eval (.tmp 16) = .bool (!r38.2)), -⟩ := hf
      obtain ⟨s_3, -⟩ := hsl
      refine sg_f rfl rfl rfl f_16 (fun hg => ?_)
      exact or_field fo23_0 (s_3.trans e39_3) (by rfl)
    refine steps_cons (fun own a wx hf hsl hE => ?_) ?_
    · obtain ⟨(f_16 : a.eval (.tmp 16) = .bool (!r38.2)), c_17, -⟩ := hf
      refine sg_f rfl rfl rfl f_16 (fun hg => ?_)
      have f_17 : a.eval (.tmp 17) = .pointer (some ⟨g33, 0, none⟩) := c_17.1 hg
      exact or_load1 to3 f_17 (Blk.at_ (BlkO.evo (by decide) hE b39_g33).2 0 rfl)
    refine steps_cons (fun own a wx hf hsl hE => ?_) ?_
    · obtain ⟨(f_16 : a.eval (.tmp 16) = .bool (!r38.2)), c_18, -⟩ := hf
      refine sg_f rfl rfl rfl f_16 (fun hg => ?_)
      have f_18 : a.eval (.tmp 18) = .int .i64 p2.1 := c_18.1 hg
      exact or_lss f_18 rfl rfl
    refine steps_cons (fun own a wx hf hsl hE => ?_) ?_
    · obtain ⟨(f_16 : a.eval (.tmp 16) = .bool (!r38.2)), c_19, -⟩ := hf
      exact sg_plain rfl rfl (or_or f_16 rfl (fun hx => c_19.1 hx) rfl)
    refine steps_cons (fun own a wx hf hsl hE => ?_) ?_
    · obtain ⟨(f_20 : a.eval (.tmp 20) = .bool ((!r38.2) || (decide (p2.1 < 0)))), -⟩ := hf
      exact sg_plain rfl rfl (or_move f_20)
    refine steps_cons (fun own a wx hf hsl hE => ?_) ?_
    · obtain ⟨(f_21 : a.eval (.tmp 21) = .bool ((!r38.2) || (decide (p2.1 < 0)))), -⟩ := hf
      obtain ⟨s_3, -⟩ := hsl
      refine sg_f rfl rfl rfl f_21 (fun hg => ?_)
      exact or_field fo23_1 (s_3.trans e39_3) (by rfl)
    refine steps_cons (fun own a wx hf hsl hE => ?_) ?_
    · obtain ⟨(f_21 : a.eval (.tmp 21) = .bool ((!r38.2) || (decide (p2.1 < 0)))), c_22, -⟩ := hf
      refine sg_f rfl rfl rfl f_21 (fun hg => ?_)
      have f_22 : a.eval (.tmp 22) = .pointer (some ⟨g33, 1, none⟩) := c_22.1 hg
      exact or_load1 to3 f_22 (Blk.at_ (BlkO.evo (by decide) hE b39_g33).2 1 rfl)
    refine steps_cons (fun own a wx hf hsl hE => ?_) ?_
    · obtain ⟨(f_21 : a.eval (.tmp 21) = .bool ((!r38.2) || (decide (p2.1 < 0)))), c_23, -⟩ := hf
      refine sg_f rfl rfl rfl f_21 (fun hg => ?_)
      have f_23 : a.eval (.tmp 23) = .int .i64 p2.2 := c_23.1 hg
      exact or_lss f_23 rfl rfl
    refine steps_cons (fun own a wx hf hsl hE => ?_) ?_
    · obtain ⟨(f_21 : a.eval (.tmp 21) = .bool ((!r38.2) || (decide (p2.1 < 0)))), c_24, -⟩ := hf
      exact sg_plain rfl rfl (or_or f_21 rfl (fun hx => c_24.1 hx) (osome hx41).symm)
    refine steps_cons (fun own a wx hf hsl hE => ?_) ?_
    · obtain ⟨(f_25 : a.eval (.tmp 25) = .bool x41), -⟩ := hf
      exact sg_plain rfl rfl (or_move f_25)
    refine steps_cons (fun own a wx hf hsl hE => ?_) ?_
    · obtain ⟨(f_26 : a.eval (.tmp 26) = .bool x41), -⟩ := hf
      obtain ⟨s_3, -⟩ := hsl
      refine sg_f rfl rfl rfl f_26 (fun hg => ?_)
      exact or_field fo23_0 (s_3.trans e39_3) (by rfl)
    refine steps_cons (fun own a wx hf hsl hE => ?_) ?_
    · obtain ⟨(f_26 : a.eval (.tmp 26) = .bool x41), c_27, -⟩ := hf
      refine sg_f rfl rfl rfl f_26 (fun hg => ?_)
      have f_27 : a.eval (.tmp 27) = .pointer (some ⟨g33, 0, none⟩) := c_27.1 hg
      exact or_load1 to3 f_27 (Blk.at_ (BlkO.evo (by decide) hE b39_g33).2 0 rfl)
    refine steps_cons (fun own a wx hf hsl hE => ?_) ?_
    · obtain ⟨(f_26 : a.eval (.tmp 26) = .bool x41), -⟩ := hf
      obtain ⟨s_6, -⟩ := hsl
      refine sg_f rfl rfl rfl f_26 (fun hg => ?_)
      exact or_move (s_6.trans e39_6)
    refine steps_cons (fun own a wx hf hsl hE => ?_) ?_
    · obtain ⟨(f_26 : a.eval (.tmp 26) = .bool x41), c_28, c_29, -⟩ := hf
      refine sg_f rfl rfl rfl f_26 (fun hg => ?_)
      have f_28 : a.eval (.tmp 28) = .int .i64 p2.1 := c_28.1 hg
      have f_29 : a.eval (.tmp 29) = .int .i64 r38.1 := c_29.1 hg
      exact or_gtr f_28 f_29 rfl
    refine steps_cons (fun own a wx hf hsl hE => ?_) ?_
    · obtain ⟨(f_26 : a.eval (.tmp 26) = .bool x41), c_30, -⟩ := hf
      exact sg_plain rfl rfl (or_or f_26 rfl (fun hx => c_30.1 hx) rfl)
    refine steps_cons (fun own a wx hf hsl hE => ?_) ?_
    · obtain ⟨(f_31 : a.eval (.tmp 31) = .bool (x41 || (decide (r38.1 < p2.1)))), -⟩ := hf
      exact sg_plain rfl rfl (or_move f_31)
    refine steps_cons (fun own a wx hf hsl hE => ?_) ?_
    · obtain ⟨(f_32 : a.eval (.tmp 32) = .bool (x41 || (decide (r38.1 < p2.1)))), -⟩ := hf
      obtain ⟨s_3, -⟩ := hsl
      refine sg_f rfl rfl rfl f_32 (fun hg => ?_)
      exact or_field fo23_1 (s_3.trans e39_3) (by rfl)
    refine steps_cons (fun own a wx hf hsl hE => ?_) ?_
    · obtain ⟨(f_32 : a.eval (.tmp 32) = .bool (x41 || (decide (r38.1 < p2.1)))), c_33, -⟩ := hf
      refine sg_f rfl rfl rfl f_32 (fun hg => ?_)
      have f_33 : a.eval (.tmp 33) = .pointer (some ⟨g33, 1, none⟩) := c_33.1 hg
      exact or_load1 to3 f_33 (Blk.at_ (BlkO.evo (by decide) hE b39_g33).2 1 rfl)
    refine steps_cons (fun own a wx hf hsl hE => ?_) ?_
    · obtain ⟨(f_32 : a.eval (.tmp 32) = .bool (x41 || (decide (r38.1 < p2.1)))), -⟩ := hf
      obtain ⟨s_6, -⟩ := hsl
      refine sg_f rfl rfl rfl f_32 (fun hg => ?_)
      exact or_move (s_6.trans e39_6)
    refine steps_cons (fun own a wx hf hsl hE => ?_) ?_
    · obtain ⟨(f_32 : a.eval (.tmp 32) = .bool (x41 || (decide (r38.1 < p2.1)))), c_34, c_35, -⟩ := hf
      refine sg_f rfl rfl rfl f_32 (fun hg => ?_)
      have f_34 : a.eval (.tmp 34) = .int .i64 p2.2 := c_34.1 hg
      have f_35 : a.eval (.tmp 35) = .int .i64 r38.1 := c_35.1 hg
      exact or_gtr f_34 f_35 rfl
    refine steps_cons (fun own a wx hf hsl hE => ?_) ?_
    · obtain ⟨(f_32 : a.eval (.tmp 32) = .bool (x41 || (decide (r38.1 < p2.1)))), c_36, -⟩ := hf
      exact sg_plain rfl rfl (or_or f_32 rfl (fun hx => c_36.1 hx) (osome hx42).symm)
    exact steps_nil
  intro own43 a43 w43 hd43 hz43 hk43 hf43 hE43
  have e43_0 : a43.eval (.tmp 0) = .int .i64 z1 := (hk43 0 rfl).trans e39_0
  have e43_3 : a43.eval (.tmp 3) = .pointer (some ⟨g33, 0, none⟩) := (hk43 3 rfl).trans e39_3
  have e43_4 : a43.eval (.tmp 4) = .pointer (some ⟨g35, 0, none⟩) := (hk43 4 rfl).trans e39_4
  obtain ⟨(f_37 : a43.eval (.tmp 37) = .bool x42), -⟩ := hf43 [23] rfl
  have e43_37 := f_37
  have hX43 := Evo.step hX39 (fun _ => Nat.le_refl 0) hE43 rfl
  have b43_g33 := BlkO.evo (by decide) hE43 b39_g33
  have b43_g35 := BlkO.evo (by decide) hE43 b39_g35
  refine fl_cond e43_37 hs (fun c44 hs => ?_) (fun c44 hs => ?_)
  · refine rg_plain_seq (n := 54) (rs := [Fct.at_ 36 g35 27 #[.int .i64 0, .int .i64 0, .int .i64 0]]) (own0 := own43) (K := [36])
        (bs := [0, 1, 3])
        (ds := [⟨[], [], [], Fct.val 38 (.agg #[.int .i64 0, .int .i64 0, .int .i64 0])⟩,
        ⟨[0, 3], [4], [36], Fct.at_ 45 g35 27 #[.int .i64 0, .int .i64 0, .int .i64 0]⟩,
        ⟨[], [], [], Fct.val 5 (.bool false)⟩]) (by kernel_rfl) hz43 hd43 (by simp only [List.forall_mem_cons]; exact ⟨b43_g35, fun _ h => nomatch h⟩) ?_ ?_
    · refine steps_cons (fun own a wx hf hsl hE => ?_) ?_
      · exact sg_plain rfl rfl (or_k [] rfl rfl trivial (by kernel_rfl))
      refine steps_cons (fun own a wx hf hsl hE => ?_) ?_
      · obtain ⟨(f_38 : a.eval (.tmp 38) = .agg #[.int .i64 0, .int .i64 0, .int .i64 0]), (b_g35 : BlkO own 36 wx g35 27 #[.int .i64 0, .int .i64 0, .int .i64 0]), -⟩ := hf
        obtain ⟨s_4, -⟩ := hsl
        exact sg_plain rfl rfl (or_store (l := #[.int .i64 0, .int .i64 0, .int .i64 0]) (lab := 36) (lab2 := 45) ts27 (s_4.trans e43_4) f_38 b_g35 (by simp) (by kernel_rfl) (mem_of rfl) (by decide) (by kernel_rfl) (fun own' a' w' ha hb => hb))
      refine steps_cons (fun own a wx hf hsl hE => ?_) ?_
      · exact sg_plain rfl rfl (or_assign rfl)
      exact steps_nil
    intro own46 a46 w46 hd46 hz46 hk46 hf46 hE46
    have e46_4 : a46.eval (.tmp 4) = .pointer (some ⟨g35, 0, none⟩) := (hk46 4 rfl).trans e43_4
    obtain ⟨(f_5 : a46.eval (.tmp 5) = .bool false), (b_g35 : BlkO own46 45 w46 g35 27 #[.int .i64 0, .int .i64 0, .int .i64 0]), -⟩ := hf46 [2, 1] rfl
    have e46_5 := f_5
    have hX46 := Evo.step hX43 (fun _ => Nat.le_refl 0) hE46 rfl
    have b46_g35 := b_g35
    refine fl_ret ?_
    refine hp40 _ _ _ rfl ?_
    obtain rfl := osome hs
    exact hret _ _ _ _ (.inl rfl) hd46 (results2_ rfl (RVal.cell_ e46_4 (run_loadVarAgg (l := [.int .i64 0, .int .i64 0, .int .i64 0]) ta27 (Blk.cellsFrom b46_g35.2 0 rfl) rfl)) (RVal.tmp_ e46_5)) ⟨own46, rfl, hX46⟩
  refine fl_skip ?_
  refine hn40 _ _ ?_
  obtain ⟨r47, hr47, hs⟩ := obind hs
  refine rg_plain_seq (n := 54) (rs := []) (own0 := own43) (K := [])
      (bs := [0, 1, 3, 7])
      (ds := [⟨[], [0], [], Fct.val 39 (.int .i64 z1)⟩,
      ⟨[0], [], [], Fct.val 40 (.int .i64 r47)⟩,
      ⟨[1], [], [], Fct.val 41 (.int .i64 (sb r47 1))⟩,
      ⟨[2], [], [], Fct.val 8 (.int .i64 (sb r47 1))⟩]) (by kernel_rfl) hz43 hd43 (fun _ h => nomatch h) ?_ ?_
  · refine steps_cons (fun own a wx hf hsl hE => ?_) ?_
    · obtain ⟨s_0, -⟩ := hsl
      exact sg_plain rfl rfl (or_move (s_0.trans e43_0))
    refine steps_cons (fun own a wx hf hsl hE => ?_) ?_
    · obtain ⟨(f_39 : a.eval (.tmp 39) = .int .i64 z1), -⟩ := hf
      exact sg_plain rfl rfl (or_call cf32 (args1 f_39) (window_count_w _ z1  r47 hr47) post_val)
    refine steps_cons (fun own a wx hf hsl hE => ?_) ?_
    · obtain ⟨(f_40 : a.eval (.tmp 40) = .int .i64 r47), -⟩ := hf
      exact sg_plain rfl rfl (or_sub f_40 rfl rfl)
    refine steps_cons (fun own a wx hf hsl hE => ?_) ?_
    · obtain ⟨(f_41 : a.eval (.tmp 41) = .int .i64 (sb r47 1)), -⟩ := hf
      exact sg_plain rfl rfl (or_assign f_41)
    exact steps_nil
  intro own48 a48 w48 hd48 hz48 hk48 hf48 hE48
  have e48_0 : a48.eval (.tmp 0) = .int .i64 z1 := (hk48 0 rfl).trans e43_0
  have e48_3 : a48.eval (.tmp 3) = .pointer (some ⟨g33, 0, none⟩) := (hk48 3 rfl).trans e43_3
  have e48_4 : a48.eval (.tmp 4) = .pointer (some ⟨g35, 0, none⟩) := (hk48 4 rfl).trans e43_4
  obtain ⟨(f_8 : a48.eval (.tmp 8) = .int .i64 (sb r47 1)), -⟩ := hf48 [3] rfl
  have e48_8 := f_8
  have hX48 := Evo.step hX43 (fun _ => Nat.le_refl 0) hE48 rfl
  have b48_g33 := BlkO.evo (by decide) hE48 b43_g33
  have b48_g35 := BlkO.evo (by decide) hE48 b43_g35
  obtain ⟨x51, hx51, hs⟩ := obind hs
  obtain ⟨x52, hx52, hs⟩ := obind hs
  refine rg_plain_seq (n := 54) (rs := [Fct.at_ 36 g35 27 #[.int .i64 0, .int .i64 0, .int .i64 0]]) (own0 := own48) (K := [36])
      (bs := [0, 0, 2, 6, 0, 30, 0, 64, 192, 0, 960, 2047, 4095, 8191])
      (ds := [⟨[], [0], [], Fct.val 42 (.int .i64 z1)⟩,
      ⟨[], [3], [], Fct.val 43 (.pointer (some ⟨g33, 0, none⟩))⟩,
      ⟨[1], [], [], Fct.val 44 (.int .i64 p2.1)⟩,
      ⟨[2], [], [], Fct.val 45 (.int .i64 x51)⟩,
      ⟨[], [8], [], Fct.val 46 (.int .i64 (sb r47 1))⟩,
      ⟨[3, 4], [], [], Fct.val 47 (.int .i64 (mn x51 (sb r47 1)))⟩,
      ⟨[], [3], [], Fct.val 48 (.pointer (some ⟨g33, 1, none⟩))⟩,
      ⟨[6], [], [], Fct.val 49 (.int .i64 p2.2)⟩,
      ⟨[7], [], [], Fct.val 50 (.int .i64 x52)⟩,
      ⟨[], [8], [], Fct.val 51 (.int .i64 (sb r47 1))⟩,
      ⟨[8, 9], [], [], Fct.val 52 (.int .i64 (mn x52 (sb r47 1)))⟩,
      ⟨[0, 5, 10], [], [], Fct.val 53 (.agg #[.int .i64 z1, .int .i64 (mn x51 (sb r47 1)), .int .i64 (mn x52 (sb r47 1))])⟩,
      ⟨[11, 14], [4], [36], Fct.at_ 53 g35 27 #[.int .i64 z1, .int .i64 (mn x51 (sb r47 1)), .int .i64 (mn x52 (sb r47 1))]⟩,
      ⟨[], [], [], Fct.val 5 (.bool true)⟩]) (by kernel_rfl) hz48 hd48 (by simp only [List.forall_mem_cons]; exact ⟨b48_g35, fun _ h => nomatch h⟩) ?_ ?_
  · refine steps_cons (fun own a wx hf hsl hE => ?_) ?_
    · obtain ⟨s_0, -⟩ := hsl
      exact sg_plain rfl rfl (or_move (s_0.trans e48_0))
    refine steps_cons (fun own a wx hf hsl hE => ?_) ?_
    · obtain ⟨s_3, -⟩ := hsl
      exact sg_plain rfl rfl (or_field fo23_0 (s_3.trans e48_3) (by rfl))
    refine steps_cons (fun own a wx hf hsl hE => ?_) ?_
    · obtain ⟨(f_43 : a.eval (.tmp 43) = .pointer (some ⟨g33, 0, none⟩)), -⟩ := hf
      exact sg_plain rfl rfl (or_load1 to3 f_43 (Blk.at_ (BlkO.evo (by decide) hE b48_g33).2 0 rfl))
    refine steps_cons (fun own a wx hf hsl hE => ?_) ?_
    · obtain ⟨(f_44 : a.eval (.tmp 44) = .int .i64 p2.1), -⟩ := hf
      exact sg_plain rfl rfl (or_quo f_44 rfl hx51)
    refine steps_cons (fun own a wx hf hsl hE => ?_) ?_
    · obtain ⟨s_8, -⟩ := hsl
      exact sg_plain rfl rfl (or_move (s_8.trans e48_8))
    refine steps_cons (fun own a wx hf hsl hE => ?_) ?_
    · obtain ⟨(f_45 : a.eval (.tmp 45) = .int .i64 x51), (f_46 : a.eval (.tmp 46) = .int .i64 (sb r47 1)), -⟩ := hf
      exact sg_plain rfl rfl (or_min f_45 f_46)
    refine steps_cons (fun own a wx hf hsl hE => ?_) ?_
    · obtain ⟨s_3, -⟩ := hsl
      exact sg_plain rfl rfl (or_field fo23_1 (s_3.trans e48_3) (by rfl))
    refine steps_cons (fun own a wx hf hsl hE => ?_) ?_
    · obtain ⟨(f_48 : a.eval (.tmp 48) = .pointer (some ⟨g33, 1, none⟩)), -⟩ := hf
      exact sg_plain rfl rfl (or_load1 to3 f_48 (Blk.at_ (BlkO.evo (by decide) hE b48_g33).2 1 rfl))
    refine steps_cons (fun own a wx hf hsl hE => ?_) ?_
    · obtain ⟨(f_49 : a.eval (.tmp 49) = .int .i64 p2.2), -⟩ := hf
      exact sg_plain rfl rfl (or_quo f_49 rfl hx52)
    refine steps_cons (fun own a wx hf hsl hE => ?_) ?_
    · obtain ⟨s_8, -⟩ := hsl
      exact sg_plain rfl rfl (or_move (s_8.trans e48_8))
    refine steps_cons (fun own a wx hf hsl hE => ?_) ?_
    · obtain ⟨(f_50 : a.eval (.tmp 50) = .int .i64 x52), (f_51 : a.eval (.tmp 51) = .int .i64 (sb r47 1)), -⟩ := hf
      exact sg_plain rfl rfl (or_min f_50 f_51)
    refine steps_cons (fun own a wx hf hsl hE => ?_) ?_
    · obtain ⟨(f_42 : a.eval (.tmp 42) = .int .i64 z1), (f_47 : a.eval (.tmp 47) = .int .i64 (mn x51 (sb r47 1))), (f_52 : a.eval (.tmp 52) = .int .i64 (mn x52 (sb r47 1))), -⟩ := hf
      exact sg_plain rfl rfl (or_k [(42, .int .i64 z1), (47, .int .i64 (mn x51 (sb r47 1))), (52, .int .i64 (mn x52 (sb r47 1)))] rfl rfl ⟨f_42, f_47, f_52, trivial⟩ (by kernel_rfl))
    refine steps_cons (fun own a wx hf hsl hE => ?_) ?_
    · obtain ⟨(f_53 : a.eval (.tmp 53) = .agg #[.int .i64 z1, .int .i64 (mn x51 (sb r47 1)), .int .i64 (mn x52 (sb r47 1))]), (b_g35 : BlkO own 36 wx g35 27 #[.int .i64 0, .int .i64 0, .int .i64 0]), -⟩ := hf
      obtain ⟨s_4, -⟩ := hsl
      exact sg_plain rfl rfl (or_store (l := #[.int .i64 z1, .int .i64 (mn x51 (sb r47 1)), .int .i64 (mn x52 (sb r47 1))]) (lab := 36) (lab2 := 53) ts27 (s_4.trans e48_4) f_53 b_g35 (by simp) (by kernel_rfl) (mem_of rfl) (by decide) (by kernel_rfl) (fun own' a' w' ha hb => hb))
    refine steps_cons (fun own a wx hf hsl hE => ?_) ?_
    · exact sg_plain rfl rfl (or_assign rfl)
    exact steps_nil
  intro own54 a54 w54 hd54 hz54 hk54 hf54 hE54
  have e54_4 : a54.eval (.tmp 4) = .pointer (some ⟨g35, 0, none⟩) := (hk54 4 rfl).trans e48_4
  obtain ⟨(f_5 : a54.eval (.tmp 5) = .bool true), (b_g35 : BlkO own54 53 w54 g35 27 #[.int .i64 z1, .int .i64 (mn x51 (sb r47 1)), .int .i64 (mn x52 (sb r47 1))]), -⟩ := hf54 [13, 12] rfl
  have e54_5 := f_5
  have hX54 := Evo.step hX48 (fun _ => Nat.le_refl 0) hE54 rfl
  have b54_g35 := b_g35
  refine fl_ret ?_
  obtain rfl := osome hs
  exact hret _ _ _ _ (.inl rfl) hd54 (results2_ rfl (RVal.cell_ e54_4 (run_loadVarAgg (l := [.int .i64 z1, .int .i64 (mn x51 (sb r47 1)), .int .i64 (mn x52 (sb r47 1))]) ta27 (Blk.cellsFrom b54_g35.2 0 rfl) rfl)) (RVal.tmp_ e54_5)) ⟨own54, rfl, hX54⟩

theorem window_buffered_w (w : World) (n1 : Int) (r : Bool) (hs : window_buffered n1 = some r) :
    Calls Try.prog 34 #[.int .i64 n1] w fun e w' => ∃ own' : Own, e = .returned (.bool r) ∧ Evo [] (fun _ => 0) own' w w' := by
  refine fl_enter (n := 9) rfl rfl rfl (Nat.le_of_ble_eq_true rfl) ?_
  intro a0 Q hd0 hz0 harg hret
  have ha0 := harg 0 _ rfl
  clear harg
  have hE0 : Evo [] (fun _ => 0) (fun _ => 0) w w := Evo.refl _ _ _
  refine rg_plain_seq (n := 9) (rs := []) (own0 := (fun _ => 0)) (K := [])
      (bs := [0])
      (ds := [⟨[], [], [], Fct.val 2 (.bool false)⟩]) (by kernel_rfl) hz0 hd0 (fun _ h => nomatch h) ?_ ?_
  · refine steps_cons (fun own a wx hf hsl hE => ?_) ?_
    · exact sg_plain rfl rfl (or_assign rfl)
    exact steps_nil
  intro own14 a14 w14 hd14 hz14 hk14 hf14 hE14
  have e14_0 : a14.eval (.tmp 0) = .int .i64 n1 := (hk14 0 rfl).trans ha0
  have hX14 := Evo.step hE0 (fun _ => Nat.le_refl 0) hE14 rfl
  obtain ⟨x15, hx15, hs⟩ := obind hs
  refine rg_plain_seq (n := 9) (rs := []) (own0 := own14) (K := [])
      (bs := [0, 1, 3, 7, 15, 31, 63])
      (ds := [⟨[], [0], [], Fct.val 3 (.int .i64 n1)⟩,
      ⟨[0], [], [], Fct.val 4 (.bool (decide (0 ≤ n1)))⟩,
      ⟨[1], [], [], Fct.val 5 (.bool (decide (0 ≤ n1)))⟩,
      ⟨[2], [0], [], Fct.cond (decide (0 ≤ n1)) (some 6) (Fct.val 6 (.int .i64 n1))⟩,
      ⟨[2, 3], [], [], Fct.cond (decide (0 ≤ n1)) (some 7) (Fct.val 7 (.bool (decide (n1 ≤ 2047))))⟩,
      ⟨[2, 4], [], [], Fct.val 8 (.bool x15)⟩,
      ⟨[5], [], [], Fct.val 2 (.bool x15)⟩]) (by kernel_rfl) hz14 hd14 (fun _ h => nomatch h) ?_ ?_
  · refine steps_cons (fun own a wx hf hsl hE => ?_) ?_
    · obtain ⟨s_0, -⟩ := hsl
      exact sg_plain rfl rfl (or_move (s_0.trans e14_0))
    refine steps_cons (fun own a wx hf hsl hE => ?_) ?_
    · obtain ⟨(f_3 : a.eval (.tmp 3) = .int .i64 n1), -⟩ := hf
      exact sg_plain rfl rfl (or_geq f_3 rfl rfl)
    refine steps_cons (fun own a wx hf hsl hE => ?_) ?_
    · obtain ⟨(f_4 : a.eval (.tmp 4) = .bool (decide (0 ≤ n1))), -⟩ := hf
      exact sg_plain rfl rfl (or_move f_4)
    refine steps_cons (fun own a wx hf hsl hE => ?_) ?_
    · obtain ⟨(f_5 : a.eval (.tmp 5) = .bool (decide (0 ≤ n1))), -⟩ := hf
      obtain ⟨s_0, -⟩ := hsl
      refine sg_t rfl rfl rfl f_5 (fun hg => ?_)
      exact or_move (s_0.trans e14_0)
    refine steps_cons (fun own a wx hf hsl hE => ?_) ?_
    · obtain ⟨(f_5 : a.eval (.tmp 5) = .bool (decide (0 ≤ n1))), c_6, -⟩ := hf
      refine sg_t rfl rfl rfl f_5 (fun hg => ?_)
      have f_6 : a.eval (.tmp 6) = .int .i64 n1 := c_6.1 hg
      exact or_leq f_6 rfl rfl
    refine steps_cons (fun own a wx hf hsl hE => ?_) ?_
    · obtain ⟨(f_5 : a.eval (.tmp 5) = .bool (decide (0 ≤ n1))), c_7, -⟩ := hf
      exact sg_plain rfl rfl (or_and f_5 (fun hx => c_7.1 hx) rfl (osome hx15).symm)
    refine steps_cons (fun own a wx hf hsl hE => ?_) ?_
    · obtain ⟨(f_8 : a.eval (.tmp 8) = .bool x15), -⟩ := hf
      exact sg_plain rfl rfl (or_assign f_8)
    exact steps_nil
  intro own16 a16 w16 hd16 hz16 hk16 hf16 hE16
  obtain ⟨(f_2 : a16.eval (.tmp 2) = .bool x15), -⟩ := hf16 [6] rfl
  have e16_2 := f_2
  have hX16 := Evo.step hX14 (fun _ => Nat.le_refl 0) hE16 rfl
  refine fl_ret ?_
  obtain rfl := (osome hs).symm
  exact hret _ _ _ _ (.inl rfl) hd16 (results1_ rfl (RVal.tmp_ e16_2)) ⟨own16, rfl, hX16⟩

theorem exact_within_w (w : World) (n1 : Int) (least2 : Int) (greatest3 : Int) (r : Bool) (hs : exact_within n1 least2 greatest3 = some r) :
    Calls Try.prog 48 #[.int .i64 n1, .int .i64 least2, .int .i64 greatest3] w fun e w' => ∃ own' : Own, e = .returned (.bool r) ∧ Evo [] (fun _ => 0) own' w w' := by
  refine fl_enter (n := 15) rfl rfl rfl (Nat.le_of_ble_eq_true rfl) ?_
  intro a0 Q hd0 hz0 harg hret
  have ha0 := harg 0 _ rfl
  have ha1 := harg 1 _ rfl
  have ha2 := harg 2 _ rfl
  clear harg
  have hE0 : Evo [] (fun _ => 0) (fun _ => 0) w w := Evo.refl _ _ _
  refine rg_plain_seq (n := 15) (rs := []) (own0 := (fun _ => 0)) (K := [])
      (bs := [0])
      (ds := [⟨[], [], [], Fct.val 6 (.bool false)⟩]) (by kernel_rfl) hz0 hd0 (fun _ h => nomatch h) ?_ ?_
  · refine steps_cons (fun own a wx hf hsl hE => ?_) ?_
    · exact sg_plain rfl rfl (or_assign rfl)
    exact steps_nil
  intro own14 a14 w14 hd14 hz14 hk14 hf14 hE14
  have e14_0 : a14.eval (.tmp 0) = .int .i64 n1 := (hk14 0 rfl).trans ha0
  have e14_1 : a14.eval (.tmp 1) = .int .i64 least2 := (hk14 1 rfl).trans ha1
  have e14_2 : a14.eval (.tmp 2) = .int .i64 greatest3 := (hk14 2 rfl).trans ha2
  have hX14 := Evo.step hE0 (fun _ => Nat.le_refl 0) hE14 rfl
  obtain ⟨x15, hx15, hs⟩ := obind hs
  refine rg_plain_seq (n := 15) (rs := []) (own0 := own14) (K := [])
      (bs := [0, 0, 3, 7, 15, 15, 63, 127, 255])
      (ds := [⟨[], [1], [], Fct.val 7 (.int .i64 least2)⟩,
      ⟨[], [0], [], Fct.val 8 (.int .i64 n1)⟩,
      ⟨[0, 1], [], [], Fct.val 9 (.bool (decide (least2 ≤ n1)))⟩,
      ⟨[2], [], [], Fct.val 10 (.bool (decide (least2 ≤ n1)))⟩,
      ⟨[3], [0], [], Fct.cond (decide (least2 ≤ n1)) (some 11) (Fct.val 11 (.int .i64 n1))⟩,
      ⟨[3], [2], [], Fct.cond (decide (least2 ≤ n1)) (some 12) (Fct.val 12 (.int .i64 greatest3))⟩,
      ⟨[3, 4, 5], [], [], Fct.cond (decide (least2 ≤ n1)) (some 13) (Fct.val 13 (.bool (decide (n1 ≤ greatest3))))⟩,
      ⟨[3, 6], [], [], Fct.val 14 (.bool x15)⟩,
      ⟨[7], [], [], Fct.val 6 (.bool x15)⟩]) (by kernel_rfl) hz14 hd14 (fun _ h => nomatch h) ?_ ?_
  · refine steps_cons (fun own a wx hf hsl hE => ?_) ?_
    · obtain ⟨s_1, -⟩ := hsl
      exact sg_plain rfl rfl (or_move (s_1.trans e14_1))
    refine steps_cons (fun own a wx hf hsl hE => ?_) ?_
    · obtain ⟨s_0, -⟩ := hsl
      exact sg_plain rfl rfl (or_move (s_0.trans e14_0))
    refine steps_cons (fun own a wx hf hsl hE => ?_) ?_
    · obtain ⟨(f_7 : a.eval (.tmp 7) = .int .i64 least2), (f_8 : a.eval (.tmp 8) = .int .i64 n1), -⟩ := hf
      exact sg_plain rfl rfl (or_leq f_7 f_8 rfl)
    refine steps_cons (fun own a wx hf hsl hE => ?_) ?_
    · obtain ⟨(f_9 : a.eval (.tmp 9) = .bool (decide (least2 ≤ n1))), -⟩ := hf
      exact sg_plain rfl rfl (or_move f_9)
    refine steps_cons (fun own a wx hf hsl hE => ?_) ?_
    · obtain ⟨(f_10 : a.eval (.tmp 10) = .bool (decide (least2 ≤ n1))), -⟩ := hf
      obtain ⟨s_0, -⟩ := hsl
      refine sg_t rfl rfl rfl f_10 (fun hg => ?_)
      exact or_move (s_0.trans e14_0)
    refine steps_cons (fun own a wx hf hsl hE => ?_) ?_
    · obtain ⟨(f_10 : a.eval (.tmp 10) = .bool (decide (least2 ≤ n1))), -⟩ := hf
      obtain ⟨s_2, -⟩ := hsl
      refine sg_t rfl rfl rfl f_10 (fun hg => ?_)
      exact or_move (s_2.trans e14_2)
    refine steps_cons (fun own a wx hf hsl hE => ?_) ?_
    · obtain ⟨(f_10 : a.eval (.tmp 10) = .bool (decide (least2 ≤ n1))), c_11, c_12, -⟩ := hf
      refine sg_t rfl rfl rfl f_10 (fun hg => ?_)
      have f_11 : a.eval (.tmp 11) = .int .i64 n1 := c_11.1 hg
      have f_12 : a.eval (.tmp 12) = .int .i64 greatest3 := c_12.1 hg
      exact or_leq f_11 f_12 rfl
    refine steps_cons (fun own a wx hf hsl hE => ?_) ?_
    · obtain ⟨(f_10 : a.eval (.tmp 10) = .bool (decide (least2 ≤ n1))), c_13, -⟩ := hf
      exact sg_plain rfl rfl (or_and f_10 (fun hx => c_13.1 hx) rfl (osome hx15).symm)
    refine steps_cons (fun own a wx hf hsl hE => ?_) ?_
    · obtain ⟨(f_14 : a.eval (.tmp 14) = .bool x15), -⟩ := hf
      exact sg_plain rfl rfl (or_assign f_14)
    exact steps_nil
  intro own16 a16 w16 hd16 hz16 hk16 hf16 hE16
  obtain ⟨(f_6 : a16.eval (.tmp 6) = .bool x15), -⟩ := hf16 [8] rfl
  have e16_6 := f_6
  have hX16 := Evo.step hX14 (fun _ => Nat.le_refl 0) hE16 rfl
  refine fl_ret ?_
  obtain rfl := (osome hs).symm
  exact hret _ _ _ _ (.inl rfl) hd16 (results1_ rfl (RVal.tmp_ e16_6)) ⟨own16, rfl, hX16⟩

theorem exact_Right_w (w : World) (l1 : List (Int × Int)) (Al1 : Option Addr) (cl1 : Nat) (hl1 : RdO (fun _ => 0) [0] w R23 Al1 cl1 l1) (r : Bool) (hs : exact_Right l1 = some r) :
    Calls Try.prog 44 #[.slice Al1 l1.length cl1] w fun e w' => ∃ own' : Own, e = .returned (.bool r) ∧ Evo [] (fun _ => 0) own' w w' := by
  refine fl_enter (n := 22) rfl rfl rfl (Nat.le_of_ble_eq_true rfl) ?_
  intro a0 Q hd0 hz0 harg hret
  have ha0 := harg 0 _ rfl
  clear harg
  have hE0 : Evo [] (fun _ => 0) (fun _ => 0) w w := Evo.refl _ _ _
  refine rg_plain_seq (n := 22) (rs := []) (own0 := (fun _ => 0)) (K := [])
      (bs := [0])
      (ds := [⟨[], [], [], Fct.val 2 (.bool false)⟩]) (by kernel_rfl) hz0 hd0 (fun _ h => nomatch h) ?_ ?_
  · refine steps_cons (fun own a wx hf hsl hE => ?_) ?_
    · exact sg_plain rfl rfl (or_assign rfl)
    exact steps_nil
  intro own69 a69 w69 hd69 hz69 hk69 hf69 hE69
  have e69_0 : a69.eval (.tmp 0) = .slice Al1 l1.length cl1 := (hk69 0 rfl).trans ha0
  have hX69 := Evo.step hE0 (fun _ => Nat.le_refl 0) hE69 rfl
  have b69_Al1 := RdO.evo rfl hE69 hl1
  refine fl_seq (fun Q70 hn70 hp70 => ?_)
  refine rg_plain_seq (n := 22) (rs := []) (own0 := own69) (K := [])
      (bs := [0, 1, 0])
      (ds := [⟨[], [0], [], Fct.val 5 (.slice Al1 l1.length cl1)⟩,
      ⟨[0], [], [], Fct.val 6 (.int .i64 (l1.length : Int))⟩,
      ⟨[], [], [], Fct.val 7 (.int .i64 0)⟩]) (by kernel_rfl) hz69 hd69 (fun _ h => nomatch h) ?_ ?_
  · refine steps_cons (fun own a wx hf hsl hE => ?_) ?_
    · obtain ⟨s_0, -⟩ := hsl
      exact sg_plain rfl rfl (or_move (s_0.trans e69_0))
    refine steps_cons (fun own a wx hf hsl hE => ?_) ?_
    · obtain ⟨(f_5 : a.eval (.tmp 5) = .slice Al1 l1.length cl1), -⟩ := hf
      exact sg_plain rfl rfl (or_len tu60 f_5 rfl)
    refine steps_cons (fun own a wx hf hsl hE => ?_) ?_
    · exact sg_plain rfl rfl (or_move rfl)
    exact steps_nil
  intro own71 a71 w71 hd71 hz71 hk71 hf71 hE71
  obtain ⟨(f_5 : a71.eval (.tmp 5) = .slice Al1 l1.length cl1), (f_6 : a71.eval (.tmp 6) = .int .i64 (l1.length : Int)), (f_7 : a71.eval (.tmp 7) = .int .i64 0), -⟩ := hf71 [0, 1, 2] rfl
  have e71_5 := f_5
  have e71_6 := f_6
  have e71_7 := f_7
  have hX71 := Evo.step hX69 (fun _ => Nat.le_refl 0) hE71 rfl
  have b71_Al1 := RdO.evo rfl hE71 b69_Al1
  refine fl_block (fun Q72 hn72 hx72 hp72 => ?_)
  refine fl_loop (body := (fun s => exact_Right_b1 l1 s)) (z := r) (show loopO _ _ = _ from hs) (fun (x90 : Int) a wx => ∃ (ox : Own), a.defers = [] ∧ a.tmps.size = 22 ∧ a.eval (.tmp 5) = .slice Al1 l1.length cl1 ∧ a.eval (.tmp 6) = .int .i64 (l1.length : Int) ∧ a.eval (.tmp 7) = .int .i64 x90 ∧ Evo [] (fun _ => 0) ox w wx ∧ RdO ox [0] wx R23 Al1 cl1 l1) ?_ ?_
  · exact ⟨own71, hd71, hz71, e71_5, e71_6, e71_7, hX71, b71_Al1⟩
  · rintro x90 zz108 a108 w108 ⟨own108, hd109, hz109, e109_5, e109_6, e109_7, hE109, b109_Al1⟩ hs Q108 hn108 hp108 hz108
    have hs : exact_Right_b1 l1 x90 = some zz108 := hs
    refine rg_plain_seq (n := 22) (rs := []) (own0 := own108) (K := [])
        (bs := [0])
        (ds := [⟨[], [7, 6], [], Fct.val 8 (.bool (decide (x90 < (l1.length : Int))))⟩]) (by kernel_rfl) hz109 hd109 (fun _ h => nomatch h) ?_ ?_
    · refine steps_cons (fun own a wx hf hsl hE => ?_) ?_
      · obtain ⟨s_7, s_6, -⟩ := hsl
        exact sg_plain rfl rfl (or_lss (s_7.trans e109_7) (s_6.trans e109_6) rfl)
      exact steps_nil
    intro own110 a110 w110 hd110 hz110 hk110 hf110 hE110
    have e110_5 : a110.eval (.tmp 5) = .slice Al1 l1.length cl1 := (hk110 5 rfl).trans e109_5
    have e110_6 : a110.eval (.tmp 6) = .int .i64 (l1.length : Int) := (hk110 6 rfl).trans e109_6
    have e110_7 : a110.eval (.tmp 7) = .int .i64 x90 := (hk110 7 rfl).trans e109_7
    obtain ⟨(f_8 : a110.eval (.tmp 8) = .bool (decide (x90 < (l1.length : Int)))), -⟩ := hf110 [0] rfl
    have e110_8 := f_8
    have hX110 := Evo.step hE109 (fun _ => Nat.le_refl 0) hE110 rfl
    have b110_Al1 := RdO.evo rfl hE110 b109_Al1
    refine fl_seq (fun Q111 hn111 hp111 => ?_)
    refine fl_cond e110_8 hs (fun c112 hs => ?_) (fun c112 hs => ?_)
    · refine fl_skip ?_
      refine hn111 _ _ ?_
      refine fl_seq (fun Q113 hn113 hp113 => ?_)
      refine fl_block (fun Q114 hn114 hx114 hp114 => ?_)
      obtain ⟨x115, hx115, hs⟩ := obind hs
      refine rg_plain_seq (n := 22) (rs := []) (own0 := own110) (K := [117])
          (bs := [0, 1, 0, 7])
          (ds := [⟨[], [5, 7], [], Fct.val 9 (.pointer (some ((adr Al1).add ((x90 : Int).toNat * R23.s))))⟩,
          ⟨[0], [], [], Fct.val 10 (.agg #[.int .i64 x115.1, .int .i64 x115.2])⟩,
          ⟨[], [], [], Fct.blk 117 4 (fun g => .pointer (some ⟨g, 0, none⟩)) 23 #[.int .i64 0, .int .i64 0]⟩,
          ⟨[2, 1], [], [117], Fct.blk 118 4 (fun g => .pointer (some ⟨g, 0, none⟩)) 23 #[.int .i64 x115.1, .int .i64 x115.2]⟩]) (by kernel_rfl) hz110 hd110 (fun _ h => nomatch h) ?_ ?_
      · refine steps_cons (fun own a wx hf hsl hE => ?_) ?_
        · obtain ⟨s_5, s_7, -⟩ := hsl
          exact sg_plain rfl rfl (or_index (R := R23) (l := l1) tl60 (s_5.trans e110_5) (s_7.trans e110_7) (RdO.some_ b110_Al1 hx115) hx115)
        refine steps_cons (fun own a wx hf hsl hE => ?_) ?_
        · obtain ⟨(f_9 : a.eval (.tmp 9) = .pointer (some ((adr Al1).add ((x90 : Int).toNat * R23.s)))), -⟩ := hf
          exact sg_plain rfl rfl (or_load (l := E23.f x115) ta23 f_9 (RdO.cells (F := E23) (RdO.evo rfl hE b110_Al1) hx115) rfl)
        refine steps_cons (fun own a wx hf hsl hE => ?_) ?_
        · exact sg_plain rfl rfl (or_new [] rfl rfl trivial (by kernel_rfl))
        refine steps_cons (fun own a wx hf hsl hE => ?_) ?_
        · obtain ⟨⟨g116, (f_4 : a.eval (.tmp 4) = .pointer (some ⟨g116, 0, none⟩)), (b_g116 : BlkO own 117 wx g116 23 #[.int .i64 0, .int .i64 0])⟩, (f_10 : a.eval (.tmp 10) = .agg #[.int .i64 x115.1, .int .i64 x115.2]), -⟩ := hf
          exact sg_plain rfl rfl (or_store (l := #[.int .i64 x115.1, .int .i64 x115.2]) (lab := 117) (lab2 := 118) ts23 f_4 f_10 b_g116 (by simp) (by kernel_rfl) (mem_of rfl) (by decide) (by kernel_rfl) (fun own' a' w' ha hb => ⟨_, (ha 4).trans f_4, hb⟩))
        exact steps_nil
      intro own119 a119 w119 hd119 hz119 hk119 hf119 hE119
      have e119_5 : a119.eval (.tmp 5) = .slice Al1 l1.length cl1 := (hk119 5 rfl).trans e110_5
      have e119_6 : a119.eval (.tmp 6) = .int .i64 (l1.length : Int) := (hk119 6 rfl).trans e110_6
      have e119_7 : a119.eval (.tmp 7) = .int .i64 x90 := (hk119 7 rfl).trans e110_7
      obtain ⟨⟨g116, (f_4 : a119.eval (.tmp 4) = .pointer (some ⟨g116, 0, none⟩)), (b_g116 : BlkO own119 118 w119 g116 23 #[.int .i64 x115.1, .int .i64 x115.2])⟩, -⟩ := hf119 [3] rfl
      have e119_4 := f_4
      have hX119 := Evo.step hX110 (fun _ => Nat.le_refl 0) hE119 rfl
      have b119_Al1 := RdO.evo rfl hE119 b110_Al1
      have b119_g116 := b_g116
      obtain ⟨r120, hr120, hs⟩ := obind hs
      obtain ⟨r121, hr121, hs⟩ := obind hs
      refine rg_plain_seq (n := 22) (rs := []) (own0 := own119) (K := [])
          (bs := [0, 1, 3, 7, 15, 31, 63, 127, 255, 511])
          (ds := [⟨[], [4], [], Fct.val 11 (.pointer (some ⟨g116, 0, none⟩))⟩,
          ⟨[0], [], [], Fct.val 12 (.int .i64 x115.1)⟩,
          ⟨[1], [], [], Fct.val 13 (.bool r120)⟩,
          ⟨[2], [], [], Fct.val 14 (.bool (!r120))⟩,
          ⟨[3], [], [], Fct.val 15 (.bool (!r120))⟩,
          ⟨[4], [4], [], Fct.cond (!(!r120)) (some 16) (Fct.val 16 (.pointer (some ⟨g116, 1, none⟩)))⟩,
          ⟨[4, 5], [], [], Fct.cond (!(!r120)) (some 17) (Fct.val 17 (.int .i64 x115.2))⟩,
          ⟨[4, 6], [], [], Fct.cond (!(!r120)) (some 18) (Fct.val 18 (.bool r121))⟩,
          ⟨[4, 7], [], [], Fct.cond (!(!r120)) (some 19) (Fct.val 19 (.bool (!r121)))⟩,
          ⟨[4, 8], [], [], Fct.val 20 (.bool ((!r120) || (!r121)))⟩]) (by kernel_rfl) hz119 hd119 (fun _ h => nomatch h) ?_ ?_
      · refine steps_cons (fun own a wx hf hsl hE => ?_) ?_
        · obtain ⟨s_4, -⟩ := hsl
          exact sg_plain rfl rfl (or_field fo23_0 (s_4.trans e119_4) (by rfl))
        refine steps_cons (fun own a wx hf hsl hE => ?_) ?_
        · obtain ⟨(f_11 : a.eval (.tmp 11) = .pointer (some ⟨g116, 0, none⟩)), -⟩ := hf
          exact sg_plain rfl rfl (or_load1 to3 f_11 (Blk.at_ (BlkO.evo (by decide) hE b119_g116).2 0 rfl))
        refine steps_cons (fun own a wx hf hsl hE => ?_) ?_
        · obtain ⟨(f_12 : a.eval (.tmp 12) = .int .i64 x115.1), -⟩ := hf
          exact sg_plain rfl rfl (or_call cf48 (args3 f_12 rfl rfl) (exact_within_w _ x115.1 (-16777216) 16777216  r120 hr120) post_val)
        refine steps_cons (fun own a wx hf hsl hE => ?_) ?_
        · obtain ⟨(f_13 : a.eval (.tmp 13) = .bool r120), -⟩ := hf
          exact sg_plain rfl rfl (or_not f_13 rfl)
        refine steps_cons (fun own a wx hf hsl hE => ?_) ?_
        · obtain ⟨(f_14 : a.eval (.tmp 14) = .bool (!r120)), -⟩ := hf
          exact sg_plain rfl rfl (or_move f_14)
        refine steps_cons (fun own a wx hf hsl hE => ?_) ?_
        · obtain ⟨(f_15 : a.eval (.tmp 15) = .bool (!r120)), -⟩ := hf
          obtain ⟨s_4, -⟩ := hsl
          refine sg_f rfl rfl rfl f_15 (fun hg => ?_)
          exact or_field fo23_1 (s_4.trans e119_4) (by rfl)
        refine steps_cons (fun own a wx hf hsl hE => ?_) ?_
        · obtain ⟨(f_15 : a.eval (.tmp 15) = .bool (!r120)), c_16, -⟩ := hf
          refine sg_f rfl rfl rfl f_15 (fun hg => ?_)
          have f_16 : a.eval (.tmp 16) = .pointer (some ⟨g116, 1, none⟩) := c_16.1 hg
          exact or_load1 to3 f_16 (Blk.at_ (BlkO.evo (by decide) hE b119_g116).2 1 rfl)
        refine steps_cons (fun own a wx hf hsl hE => ?_) ?_
        · obtain ⟨(f_15 : a.eval (.tmp 15) = .bool (!r120)), c_17, -⟩ := hf
          refine sg_f rfl rfl rfl f_15 (fun hg => ?_)
          have f_17 : a.eval (.tmp 17) = .int .i64 x115.2 := c_17.1 hg
          exact or_call cf48 (args3 f_17 rfl rfl) (exact_within_w _ x115.2 (-16777216) 16777216  r121 (gd_t hr121 hg)) post_val
        refine steps_cons (fun own a wx hf hsl hE => ?_) ?_
        · obtain ⟨(f_15 : a.eval (.tmp 15) = .bool (!r120)), c_18, -⟩ := hf
          refine sg_f rfl rfl rfl f_15 (fun hg => ?_)
          have f_18 : a.eval (.tmp 18) = .bool r121 := c_18.1 hg
          exact or_not f_18 rfl
        refine steps_cons (fun own a wx hf hsl hE => ?_) ?_
        · obtain ⟨(f_15 : a.eval (.tmp 15) = .bool (!r120)), c_19, -⟩ := hf
          exact sg_plain rfl rfl (or_or f_15 rfl (fun hx => c_19.1 hx) rfl)
        exact steps_nil
      intro own122 a122 w122 hd122 hz122 hk122 hf122 hE122
      have e122_5 : a122.eval (.tmp 5) = .slice Al1 l1.length cl1 := (hk122 5 rfl).trans e119_5
      have e122_6 : a122.eval (.tmp 6) = .int .i64 (l1.length : Int) := (hk122 6 rfl).trans e119_6
      have e122_7 : a122.eval (.tmp 7) = .int .i64 x90 := (hk122 7 rfl).trans e119_7
      obtain ⟨(f_20 : a122.eval (.tmp 20) = .bool ((!r120) || (!r121))), -⟩ := hf122 [9] rfl
      have e122_20 := f_20
      have hX122 := Evo.step hX119 (fun _ => Nat.le_refl 0) hE122 rfl
      have b122_Al1 := RdO.evo rfl hE122 b119_Al1
      refine fl_cond e122_20 hs (fun c123 hs => ?_) (fun c123 hs => ?_)
      · refine rg_plain_seq (n := 22) (rs := []) (own0 := own122) (K := [])
            (bs := [0])
            (ds := [⟨[], [], [], Fct.val 2 (.bool false)⟩]) (by kernel_rfl) hz122 hd122 (fun _ h => nomatch h) ?_ ?_
        · refine steps_cons (fun own a wx hf hsl hE => ?_) ?_
          · exact sg_plain rfl rfl (or_assign rfl)
          exact steps_nil
        intro own124 a124 w124 hd124 hz124 hk124 hf124 hE124
        obtain ⟨(f_2 : a124.eval (.tmp 2) = .bool false), -⟩ := hf124 [0] rfl
        have e124_2 := f_2
        have hX124 := Evo.step hX122 (fun _ => Nat.le_refl 0) hE124 rfl
        refine fl_ret ?_
        refine hp114 _ _ _ rfl ?_
        refine hp113 _ _ _ rfl ?_
        replace hs := hz108 _ hs
        refine hp108 _ _ _ rfl ?_
        refine hp72 _ _ _ rfl ?_
        refine hp70 _ _ _ rfl ?_
        obtain rfl := osome hs
        exact hret _ _ _ _ (.inl rfl) hd124 (results1_ rfl (RVal.tmp_ e124_2)) ⟨own124, rfl, hX124⟩
      refine fl_skip ?_
      refine hn114 _ _ ?_
      refine hn113 _ _ ?_
      refine rg_plain (n := 22) (rs := []) (own0 := own122) (K := [])
          (bs := [0, 1])
          (ds := [⟨[], [7], [], Fct.val 21 (.int .i64 (ad x90 1))⟩,
          ⟨[0], [], [], Fct.val 7 (.int .i64 (ad x90 1))⟩]) (by kernel_rfl) hz122 hd122 (fun _ h => nomatch h) ?_ ?_
      · refine steps_cons (fun own a wx hf hsl hE => ?_) ?_
        · obtain ⟨s_7, -⟩ := hsl
          exact sg_plain rfl rfl (or_add (s_7.trans e122_7) rfl rfl)
        refine steps_cons (fun own a wx hf hsl hE => ?_) ?_
        · obtain ⟨(f_21 : a.eval (.tmp 21) = .int .i64 (ad x90 1)), -⟩ := hf
          exact sg_plain rfl rfl (or_move f_21)
        exact steps_nil
      intro own125 a125 w125 hd125 hz125 hk125 hf125 hE125
      have e125_5 : a125.eval (.tmp 5) = .slice Al1 l1.length cl1 := (hk125 5 rfl).trans e122_5
      have e125_6 : a125.eval (.tmp 6) = .int .i64 (l1.length : Int) := (hk125 6 rfl).trans e122_6
      obtain ⟨(f_7 : a125.eval (.tmp 7) = .int .i64 (ad x90 1)), -⟩ := hf125 [1] rfl
      have e125_7 := f_7
      have hX125 := Evo.step hX122 (fun _ => Nat.le_refl 0) hE125 rfl
      have b125_Al1 := RdO.evo rfl hE125 b122_Al1
      exact hn108 _ _ _ hs ⟨own125, hd125, hz125, e125_5, e125_6, e125_7, hX125, b125_Al1⟩
    refine fl_exit ?_
    refine hp111 _ _ _ rfl ?_
    replace hs := hz108 _ hs
    refine hp108 _ _ _ rfl ?_
    refine hx72 _ _ ?_
    refine hn70 _ _ ?_
    refine rg_plain_seq (n := 22) (rs := []) (own0 := own110) (K := [])
        (bs := [0])
        (ds := [⟨[], [], [], Fct.val 2 (.bool true)⟩]) (by kernel_rfl) hz110 hd110 (fun _ h => nomatch h) ?_ ?_
    · refine steps_cons (fun own a wx hf hsl hE => ?_) ?_
      · exact sg_plain rfl rfl (or_assign rfl)
      exact steps_nil
    intro own126 a126 w126 hd126 hz126 hk126 hf126 hE126
    obtain ⟨(f_2 : a126.eval (.tmp 2) = .bool true), -⟩ := hf126 [0] rfl
    have e126_2 := f_2
    have hX126 := Evo.step hX110 (fun _ => Nat.le_refl 0) hE126 rfl
    refine fl_ret ?_
    obtain rfl := osome hs
    exact hret _ _ _ _ (.inl rfl) hd126 (results1_ rfl (RVal.tmp_ e126_2)) ⟨own126, rfl, hX126⟩

theorem rows_Right_w (w : World) (b1 : (Int × Int) × (Int × Int)) (r : Bool) (hs : rows_Right b1 = some r) :
    Calls Try.prog 35 #[.agg #[.int .i64 b1.1.1, .int .i64 b1.1.2, .int .i64 b1.2.1, .int .i64 b1.2.2]] w fun e w' => ∃ own' : Own, e = .returned (.bool r) ∧ Evo [] (fun _ => 0) own' w w' := by
  refine fl_enter (n := 27) rfl rfl rfl (Nat.le_of_ble_eq_true rfl) ?_
  intro a0 Q hd0 hz0 harg hret
  have ha0 := harg 0 _ rfl
  clear harg
  have hE0 : Evo [] (fun _ => 0) (fun _ => 0) w w := Evo.refl _ _ _
  refine rg_plain_seq (n := 27) (rs := []) (own0 := (fun _ => 0)) (K := [])
      (bs := [0, 0])
      (ds := [⟨[], [0], [], Fct.blk 20 1 (fun g => .pointer (some ⟨g, 0, none⟩)) 25 #[.int .i64 b1.1.1, .int .i64 b1.1.2, .int .i64 b1.2.1, .int .i64 b1.2.2]⟩,
      ⟨[], [], [], Fct.val 2 (.bool false)⟩]) (by kernel_rfl) hz0 hd0 (fun _ h => nomatch h) ?_ ?_
  · refine steps_cons (fun own a wx hf hsl hE => ?_) ?_
    · obtain ⟨s_0, -⟩ := hsl
      exact sg_plain rfl rfl (or_new [(0, .agg #[.int .i64 b1.1.1, .int .i64 b1.1.2, .int .i64 b1.2.1, .int .i64 b1.2.2])] rfl rfl ⟨(s_0.trans ha0), trivial⟩ (by kernel_rfl))
    refine steps_cons (fun own a wx hf hsl hE => ?_) ?_
    · exact sg_plain rfl rfl (or_assign rfl)
    exact steps_nil
  intro own21 a21 w21 hd21 hz21 hk21 hf21 hE21
  obtain ⟨⟨g19, (f_1 : a21.eval (.tmp 1) = .pointer (some ⟨g19, 0, none⟩)), (b_g19 : BlkO own21 20 w21 g19 25 #[.int .i64 b1.1.1, .int .i64 b1.1.2, .int .i64 b1.2.1, .int .i64 b1.2.2])⟩, -⟩ := hf21 [0] rfl
  have e21_1 := f_1
  have hX21 := Evo.step hE0 (fun _ => Nat.le_refl 0) hE21 rfl
  have b21_g19 := b_g19
  obtain ⟨r24, hr24, hs⟩ := obind hs
  obtain ⟨x25, hx25, hs⟩ := obind hs
  refine rg_plain_seq (n := 27) (rs := []) (own0 := own21) (K := [])
      (bs := [0, 1, 0, 4, 15, 31, 63, 127, 255, 511, 127, 1151, 3199, 8191, 16383, 32767, 65535, 131071, 262143, 65535, 589823, 1638399, 4194303, 8388607, 16777215])
      (ds := [⟨[], [1], [], Fct.val 3 (.pointer (some ⟨g19, 0, none⟩))⟩,
      ⟨[0], [], [], Fct.val 4 (.agg #[.int .i64 b1.1.1, .int .i64 b1.1.2])⟩,
      ⟨[], [1], [], Fct.val 5 (.pointer (some ⟨g19, 2, none⟩))⟩,
      ⟨[2], [], [], Fct.val 6 (.agg #[.int .i64 b1.2.1, .int .i64 b1.2.2])⟩,
      ⟨[1, 3], [], [], Fct.row 23 [] 7 23 R23 [b1.1, b1.2]⟩,
      ⟨[4], [], [], Fct.val 8 (.bool r24)⟩,
      ⟨[5], [], [], Fct.val 9 (.bool r24)⟩,
      ⟨[6], [1], [], Fct.cond r24 (some 10) (Fct.val 10 (.pointer (some ⟨g19, 0, none⟩)))⟩,
      ⟨[6, 7], [], [], Fct.cond r24 (some 11) (Fct.val 11 (.pointer (some ⟨g19, 0, none⟩)))⟩,
      ⟨[6, 8], [], [], Fct.cond r24 (some 12) (Fct.val 12 (.int .i64 b1.1.1))⟩,
      ⟨[6], [1], [], Fct.cond r24 (some 13) (Fct.val 13 (.pointer (some ⟨g19, 2, none⟩)))⟩,
      ⟨[6, 10], [], [], Fct.cond r24 (some 14) (Fct.val 14 (.pointer (some ⟨g19, 2, none⟩)))⟩,
      ⟨[6, 11], [], [], Fct.cond r24 (some 15) (Fct.val 15 (.int .i64 b1.2.1))⟩,
      ⟨[6, 9, 12], [], [], Fct.cond r24 (some 16) (Fct.val 16 (.bool (decide (b1.1.1 ≤ b1.2.1))))⟩,
      ⟨[6, 13], [], [], Fct.val 17 (.bool (r24 && (decide (b1.1.1 ≤ b1.2.1))))⟩,
      ⟨[14], [], [], Fct.val 18 (.bool (r24 && (decide (b1.1.1 ≤ b1.2.1))))⟩,
      ⟨[15], [1], [], Fct.cond (r24 && (decide (b1.1.1 ≤ b1.2.1))) (some 19) (Fct.val 19 (.pointer (some ⟨g19, 0, none⟩)))⟩,
      ⟨[15, 16], [], [], Fct.cond (r24 && (decide (b1.1.1 ≤ b1.2.1))) (some 20) (Fct.val 20 (.pointer (some ⟨g19, 1, none⟩)))⟩,
      ⟨[15, 17], [], [], Fct.cond (r24 && (decide (b1.1.1 ≤ b1.2.1))) (some 21) (Fct.val 21 (.int .i64 b1.1.2))⟩,
      ⟨[15], [1], [], Fct.cond (r24 && (decide (b1.1.1 ≤ b1.2.1))) (some 22) (Fct.val 22 (.pointer (some ⟨g19, 2, none⟩)))⟩,
      ⟨[15, 19], [], [], Fct.cond (r24 && (decide (b1.1.1 ≤ b1.2.1))) (some 23) (Fct.val 23 (.pointer (some ⟨g19, 3, none⟩)))⟩,
      ⟨[15, 20], [], [], Fct.cond (r24 && (decide (b1.1.1 ≤ b1.2.1))) (some 24) (Fct.val 24 (.int .i64 b1.2.2))⟩,
      ⟨[15, 18, 21], [], [], Fct.cond (r24 && (decide (b1.1.1 ≤ b1.2.1))) (some 25) (Fct.val 25 (.bool (decide (b1.1.2 ≤ b1.2.2))))⟩,
      ⟨[15, 22], [], [], Fct.val 26 (.bool x25)⟩,
      ⟨[23], [], [], Fct.val 2 (.bool x25)⟩]) (by kernel_rfl) hz21 hd21 (fun _ h => nomatch h) ?_ ?_
  · refine steps_cons (fun own a wx hf hsl hE => ?_) ?_
    · obtain ⟨s_1, -⟩ := hsl
      exact sg_plain rfl rfl (or_field fo25_0 (s_1.trans e21_1) (by rfl))
    refine steps_cons (fun own a wx hf hsl hE => ?_) ?_
    · obtain ⟨(f_3 : a.eval (.tmp 3) = .pointer (some ⟨g19, 0, none⟩)), -⟩ := hf
      exact sg_plain rfl rfl (or_load (l := [.int .i64 b1.1.1, .int .i64 b1.1.2]) ta23 f_3 (Blk.cellsFrom (BlkO.evo (by decide) hE b21_g19).2 0 rfl) rfl)
    refine steps_cons (fun own a wx hf hsl hE => ?_) ?_
    · obtain ⟨s_1, -⟩ := hsl
      exact sg_plain rfl rfl (or_field fo25_1 (s_1.trans e21_1) (by rfl))
    refine steps_cons (fun own a wx hf hsl hE => ?_) ?_
    · obtain ⟨(f_5 : a.eval (.tmp 5) = .pointer (some ⟨g19, 2, none⟩)), -⟩ := hf
      exact sg_plain rfl rfl (or_load (l := [.int .i64 b1.2.1, .int .i64 b1.2.2]) ta23 f_5 (Blk.cellsFrom (BlkO.evo (by decide) hE b21_g19).2 2 rfl) rfl)
    refine steps_cons (fun own a wx hf hsl hE => ?_) ?_
    · obtain ⟨(f_4 : a.eval (.tmp 4) = .agg #[.int .i64 b1.1.1, .int .i64 b1.1.2]), (f_6 : a.eval (.tmp 6) = .agg #[.int .i64 b1.2.1, .int .i64 b1.2.2]), -⟩ := hf
      exact sg_plain rfl rfl (or_lit (lab := 23) (e := 23) (cs := #[.int .i64 b1.1.1, .int .i64 b1.1.2, .int .i64 b1.2.1, .int .i64 b1.2.2]) (F := E23) (or_new [(4, .agg #[.int .i64 b1.1.1, .int .i64 b1.1.2]), (6, .agg #[.int .i64 b1.2.1, .int .i64 b1.2.2])] rfl rfl ⟨f_4, f_6, trivial⟩ (by kernel_rfl)) rfl rfl (show 2 ≤ maxLen by decide))
    refine steps_cons (fun own a wx hf hsl hE => ?_) ?_
    · obtain ⟨⟨⟨A22, cA22⟩, (f_7 : a.eval (.tmp 7) = .slice A22 [b1.1, b1.2].length cA22), (b_A22 : RwO own 23 [] wx 23 R23 A22 cA22 [b1.1, b1.2])⟩, -⟩ := hf
      exact sg_plain rfl rfl (or_call cf44 (args1 f_7) (exact_Right_w _ [b1.1, b1.2] A22 cA22 (RdO.zero (RwO.rd b_A22)) r24 hr24) post_val)
    refine steps_cons (fun own a wx hf hsl hE => ?_) ?_
    · obtain ⟨(f_8 : a.eval (.tmp 8) = .bool r24), -⟩ := hf
      exact sg_plain rfl rfl (or_move f_8)
    refine steps_cons (fun own a wx hf hsl hE => ?_) ?_
    · obtain ⟨(f_9 : a.eval (.tmp 9) = .bool r24), -⟩ := hf
      obtain ⟨s_1, -⟩ := hsl
      refine sg_t rfl rfl rfl f_9 (fun hg => ?_)
      exact or_field fo25_0 (s_1.trans e21_1) (by rfl)
    refine steps_cons (fun own a wx hf hsl hE => ?_) ?_
    · obtain ⟨(f_9 : a.eval (.tmp 9) = .bool r24), c_10, -⟩ := hf
      refine sg_t rfl rfl rfl f_9 (fun hg => ?_)
      have f_10 : a.eval (.tmp 10) = .pointer (some ⟨g19, 0, none⟩) := c_10.1 hg
      exact or_field fo23_0 f_10 (by rfl)
    refine steps_cons (fun own a wx hf hsl hE => ?_) ?_
    · obtain ⟨(f_9 : a.eval (.tmp 9) = .bool r24), c_11, -⟩ := hf
      refine sg_t rfl rfl rfl f_9 (fun hg => ?_)
      have f_11 : a.eval (.tmp 11) = .pointer (some ⟨g19, 0, none⟩) := c_11.1 hg
      exact or_load1 to3 f_11 (Blk.at_ (BlkO.evo (by decide) hE b21_g19).2 0 rfl)
    refine steps_cons (fun own a wx hf hsl hE => ?_) ?_
    · obtain ⟨(f_9 : a.eval (.tmp 9) = .bool r24), -⟩ := hf
      obtain ⟨s_1, -⟩ := hsl
      refine sg_t rfl rfl rfl f_9 (fun hg => ?_)
      exact or_field fo25_1 (s_1.trans e21_1) (by rfl)
    refine steps_cons (fun own a wx hf hsl hE => ?_) ?_
    · obtain ⟨(f_9 : a.eval (.tmp 9) = .bool r24), c_13, -⟩ := hf
      refine sg_t rfl rfl rfl f_9 (fun hg => ?_)
      have f_13 : a.eval (.tmp 13) = .pointer (some ⟨g19, 2, none⟩) := c_13.1 hg
      exact or_field fo23_0 f_13 (by rfl)
    refine steps_cons (fun own a wx hf hsl hE => ?_) ?_
    · obtain ⟨(f_9 : a.eval (.tmp 9) = .bool r24), c_14, -⟩ := hf
      refine sg_t rfl rfl rfl f_9 (fun hg => ?_)
      have f_14 : a.eval (.tmp 14) = .pointer (some ⟨g19, 2, none⟩) := c_14.1 hg
      exact or_load1 to3 f_14 (Blk.at_ (BlkO.evo (by decide) hE b21_g19).2 2 rfl)
    refine steps_cons (fun own a wx hf hsl hE => ?_) ?_
    · obtain ⟨(f_9 : a.eval (.tmp 9) = .bool r24), c_12, c_15, -⟩ := hf
      refine sg_t rfl rfl rfl f_9 (fun hg => ?_)
      have f_12 : a.eval (.tmp 12) = .int .i64 b1.1.1 := c_12.1 hg
      have f_15 : a.eval (.tmp 15) = .int .i64 b1.2.1 := c_15.1 hg
      exact or_leq f_12 f_15 rfl
    refine steps_cons (fun own a wx hf hsl hE => ?_) ?_
    · obtain ⟨(f_9 : a.eval (.tmp 9) = .bool r24), c_16, -⟩ := hf
      exact sg_plain rfl rfl (or_and f_9 (fun hx => c_16.1 hx) rfl rfl)
    refine steps_cons (fun own a wx hf hsl hE => ?_) ?_
    · obtain ⟨(f_17 : a.eval (.tmp 17) = .bool (r24 && (decide (b1.1.1 ≤ b1.2.1)))), -⟩ := hf
      exact sg_plain rfl rfl (or_move f_17)
    refine steps_cons (fun own a wx hf hsl hE => ?_) ?_
    · obtain ⟨(f_18 : a.eval (.tmp 18) = .bool (r24 && (decide (b1.1.1 ≤ b1.2.1)))), -⟩ := hf
      obtain ⟨s_1, -⟩ := hsl
      refine sg_t rfl rfl rfl f_18 (fun hg => ?_)
      exact or_field fo25_0 (s_1.trans e21_1) (by rfl)
    refine steps_cons (fun own a wx hf hsl hE => ?_) ?_
    · obtain ⟨(f_18 : a.eval (.tmp 18) = .bool (r24 && (decide (b1.1.1 ≤ b1.2.1)))), c_19, -⟩ := hf
      refine sg_t rfl rfl rfl f_18 (fun hg => ?_)
      have f_19 : a.eval (.tmp 19) = .pointer (some ⟨g19, 0, none⟩) := c_19.1 hg
      exact or_field fo23_1 f_19 (by rfl)
    refine steps_cons (fun own a wx hf hsl hE => ?_) ?_
    · obtain ⟨(f_18 : a.eval (.tmp 18) = .bool (r24 && (decide (b1.1.1 ≤ b1.2.1)))), c_20, -⟩ := hf
      refine sg_t rfl rfl rfl f_18 (fun hg => ?_)
      have f_20 : a.eval (.tmp 20) = .pointer (some ⟨g19, 1, none⟩) := c_20.1 hg
      exact or_load1 to3 f_20 (Blk.at_ (BlkO.evo (by decide) hE b21_g19).2 1 rfl)
    refine steps_cons (fun own a wx hf hsl hE => ?_) ?_
    · obtain ⟨(f_18 : a.eval (.tmp 18) = .bool (r24 && (decide (b1.1.1 ≤ b1.2.1)))), -⟩ := hf
      obtain ⟨s_1, -⟩ := hsl
      refine sg_t rfl rfl rfl f_18 (fun hg => ?_)
      exact or_field fo25_1 (s_1.trans e21_1) (by rfl)
    refine steps_cons (fun own a wx hf hsl hE => ?_) ?_
    · obtain ⟨(f_18 : a.eval (.tmp 18) = .bool (r24 && (decide (b1.1.1 ≤ b1.2.1)))), c_22, -⟩ := hf
      refine sg_t rfl rfl rfl f_18 (fun hg => ?_)
      have f_22 : a.eval (.tmp 22) = .pointer (some ⟨g19, 2, none⟩) := c_22.1 hg
      exact or_field fo23_1 f_22 (by rfl)
    refine steps_cons (fun own a wx hf hsl hE => ?_) ?_
    · obtain ⟨(f_18 : a.eval (.tmp 18) = .bool (r24 && (decide (b1.1.1 ≤ b1.2.1)))), c_23, -⟩ := hf
      refine sg_t rfl rfl rfl f_18 (fun hg => ?_)
      have f_23 : a.eval (.tmp 23) = .pointer (some ⟨g19, 3, none⟩) := c_23.1 hg
      exact or_load1 to3 f_23 (Blk.at_ (BlkO.evo (by decide) hE b21_g19).2 3 rfl)
    refine steps_cons (fun own a wx hf hsl hE => ?_) ?_
    · obtain ⟨(f_18 : a.eval (.tmp 18) = .bool (r24 && (decide (b1.1.1 ≤ b1.2.1)))), c_21, c_24, -⟩ := hf
      refine sg_t rfl rfl rfl f_18 (fun hg => ?_)
      have f_21 : a.eval (.tmp 21) = .int .i64 b1.1.2 := c_21.1 hg
      have f_24 : a.eval (.tmp 24) = .int .i64 b1.2.2 := c_24.1 hg
      exact or_leq f_21 f_24 rfl
    refine steps_cons (fun own a wx hf hsl hE => ?_) ?_
    · obtain ⟨(f_18 : a.eval (.tmp 18) = .bool (r24 && (decide (b1.1.1 ≤ b1.2.1)))), c_25, -⟩ := hf
      exact sg_plain rfl rfl (or_and f_18 (fun hx => c_25.1 hx) rfl (osome hx25).symm)
    refine steps_cons (fun own a wx hf hsl hE => ?_) ?_
    · obtain ⟨(f_26 : a.eval (.tmp 26) = .bool x25), -⟩ := hf
      exact sg_plain rfl rfl (or_assign f_26)
    exact steps_nil
  intro own26 a26 w26 hd26 hz26 hk26 hf26 hE26
  obtain ⟨(f_2 : a26.eval (.tmp 2) = .bool x25), -⟩ := hf26 [24] rfl
  have e26_2 := f_2
  have hX26 := Evo.step hX21 (fun _ => Nat.le_refl 0) hE26 rfl
  refine fl_ret ?_
  obtain rfl := (osome hs).symm
  exact hret _ _ _ _ (.inl rfl) hd26 (results1_ rfl (RVal.tmp_ e26_2)) ⟨own26, rfl, hX26⟩

theorem window_shown_w (w : World) (n1 : Int) (buffer2 : Int) (low3 : Int) (high4 : Int) (r : Unit) (hs : window_shown n1 buffer2 low3 high4 = some r) :
    Calls Try.prog 36 #[.int .i64 n1, .int .i64 buffer2, .int .i64 low3, .int .i64 high4] w fun e w' => ∃ (own' : Own) (x : (Option Addr × Nat) × (Option Addr × Nat) × (Option Addr × Nat) × (Option Addr × Nat)), e = .returned (.func (.func 45) #[] #[.pointer (some ⟨x.1.2, 0, none⟩), .pointer (some ⟨x.2.1.2, 0, none⟩), .pointer (some ⟨x.2.2.1.2, 0, none⟩), .pointer (some ⟨x.2.2.2.2, 0, none⟩)]) ∧ Evo [] (fun _ => 0) own' w w' ∧ BlkO own' 1 w' x.1.2 3 #[.int .i64 n1] ∧ BlkO own' 2 w' x.2.1.2 3 #[.int .i64 high4] ∧ BlkO own' 3 w' x.2.2.1.2 3 #[.int .i64 buffer2] ∧ BlkO own' 4 w' x.2.2.2.2 3 #[.int .i64 low3] := by
  refine fl_enter (n := 10) rfl rfl rfl (Nat.le_of_ble_eq_true rfl) ?_
  intro a0 Q hd0 hz0 harg hret
  have ha0 := harg 0 _ rfl
  have ha1 := harg 1 _ rfl
  have ha2 := harg 2 _ rfl
  have ha3 := harg 3 _ rfl
  clear harg
  have hE0 : Evo [] (fun _ => 0) (fun _ => 0) w w := Evo.refl _ _ _
  refine rg_plain_seq (n := 10) (rs := []) (own0 := (fun _ => 0)) (K := [])
      (bs := [0, 0, 0, 0, 0])
      (ds := [⟨[], [0], [], Fct.blk 22 4 (fun g => .pointer (some ⟨g, 0, none⟩)) 3 #[.int .i64 n1]⟩,
      ⟨[], [1], [], Fct.blk 24 5 (fun g => .pointer (some ⟨g, 0, none⟩)) 3 #[.int .i64 buffer2]⟩,
      ⟨[], [2], [], Fct.blk 26 6 (fun g => .pointer (some ⟨g, 0, none⟩)) 3 #[.int .i64 low3]⟩,
      ⟨[], [3], [], Fct.blk 28 7 (fun g => .pointer (some ⟨g, 0, none⟩)) 3 #[.int .i64 high4]⟩,
      ⟨[], [], [], Fct.val 8 (.nilFunc)⟩]) (by kernel_rfl) hz0 hd0 (fun _ h => nomatch h) ?_ ?_
  · refine steps_cons (fun own a wx hf hsl hE => ?_) ?_
    · obtain ⟨s_0, -⟩ := hsl
      exact sg_plain rfl rfl (or_new [(0, .int .i64 n1)] rfl rfl ⟨(s_0.trans ha0), trivial⟩ (by kernel_rfl))
    refine steps_cons (fun own a wx hf hsl hE => ?_) ?_
    · obtain ⟨s_1, -⟩ := hsl
      exact sg_plain rfl rfl (or_new [(1, .int .i64 buffer2)] rfl rfl ⟨(s_1.trans ha1), trivial⟩ (by kernel_rfl))
    refine steps_cons (fun own a wx hf hsl hE => ?_) ?_
    · obtain ⟨s_2, -⟩ := hsl
      exact sg_plain rfl rfl (or_new [(2, .int .i64 low3)] rfl rfl ⟨(s_2.trans ha2), trivial⟩ (by kernel_rfl))
    refine steps_cons (fun own a wx hf hsl hE => ?_) ?_
    · obtain ⟨s_3, -⟩ := hsl
      exact sg_plain rfl rfl (or_new [(3, .int .i64 high4)] rfl rfl ⟨(s_3.trans ha3), trivial⟩ (by kernel_rfl))
    refine steps_cons (fun own a wx hf hsl hE => ?_) ?_
    · exact sg_plain rfl rfl (or_assign rfl)
    exact steps_nil
  intro own29 a29 w29 hd29 hz29 hk29 hf29 hE29
  obtain ⟨⟨g21, (f_4 : a29.eval (.tmp 4) = .pointer (some ⟨g21, 0, none⟩)), (b_g21 : BlkO own29 22 w29 g21 3 #[.int .i64 n1])⟩, ⟨g23, (f_5 : a29.eval (.tmp 5) = .pointer (some ⟨g23, 0, none⟩)), (b_g23 : BlkO own29 24 w29 g23 3 #[.int .i64 buffer2])⟩, ⟨g25, (f_6 : a29.eval (.tmp 6) = .pointer (some ⟨g25, 0, none⟩)), (b_g25 : BlkO own29 26 w29 g25 3 #[.int .i64 low3])⟩, ⟨g27, (f_7 : a29.eval (.tmp 7) = .pointer (some ⟨g27, 0, none⟩)), (b_g27 : BlkO own29 28 w29 g27 3 #[.int .i64 high4])⟩, -⟩ := hf29 [0, 1, 2, 3] rfl
  have e29_4 := f_4
  have e29_5 := f_5
  have e29_6 := f_6
  have e29_7 := f_7
  have hX29 := Evo.step hE0 (fun _ => Nat.le_refl 0) hE29 rfl
  have b29_g21 := b_g21
  have b29_g23 := b_g23
  have b29_g25 := b_g25
  have b29_g27 := b_g27
  refine rg_plain_seq (n := 10) (rs := []) (own0 := own29) (K := [])
      (bs := [0, 1])
      (ds := [⟨[], [4, 7, 5, 6], [], Fct.val 9 (.func (.func 45) #[] #[.pointer (some ⟨g21, 0, none⟩), .pointer (some ⟨g27, 0, none⟩), .pointer (some ⟨g23, 0, none⟩), .pointer (some ⟨g25, 0, none⟩)])⟩,
      ⟨[0], [], [], Fct.val 8 (.func (.func 45) #[] #[.pointer (some ⟨g21, 0, none⟩), .pointer (some ⟨g27, 0, none⟩), .pointer (some ⟨g23, 0, none⟩), .pointer (some ⟨g25, 0, none⟩)])⟩]) (by kernel_rfl) hz29 hd29 (fun _ h => nomatch h) ?_ ?_
  · refine steps_cons (fun own a wx hf hsl hE => ?_) ?_
    · obtain ⟨s_4, s_7, s_5, s_6, -⟩ := hsl
      exact sg_plain rfl rfl (or_k [(4, .pointer (some ⟨g21, 0, none⟩)), (7, .pointer (some ⟨g27, 0, none⟩)), (5, .pointer (some ⟨g23, 0, none⟩)), (6, .pointer (some ⟨g25, 0, none⟩))] rfl rfl ⟨(s_4.trans e29_4), (s_7.trans e29_7), (s_5.trans e29_5), (s_6.trans e29_6), trivial⟩ (by kernel_rfl))
    refine steps_cons (fun own a wx hf hsl hE => ?_) ?_
    · obtain ⟨(f_9 : a.eval (.tmp 9) = .func (.func 45) #[] #[.pointer (some ⟨g21, 0, none⟩), .pointer (some ⟨g27, 0, none⟩), .pointer (some ⟨g23, 0, none⟩), .pointer (some ⟨g25, 0, none⟩)]), -⟩ := hf
      exact sg_plain rfl rfl (or_assign f_9)
    exact steps_nil
  intro own30 a30 w30 hd30 hz30 hk30 hf30 hE30
  obtain ⟨(f_8 : a30.eval (.tmp 8) = .func (.func 45) #[] #[.pointer (some ⟨g21, 0, none⟩), .pointer (some ⟨g27, 0, none⟩), .pointer (some ⟨g23, 0, none⟩), .pointer (some ⟨g25, 0, none⟩)]), -⟩ := hf30 [1] rfl
  have e30_8 := f_8
  have hX30 := Evo.step hX29 (fun _ => Nat.le_refl 0) hE30 rfl
  have b30_g21 := BlkO.evo (by decide) hE30 b29_g21
  have b30_g23 := BlkO.evo (by decide) hE30 b29_g23
  have b30_g25 := BlkO.evo (by decide) hE30 b29_g25
  have b30_g27 := BlkO.evo (by decide) hE30 b29_g27
  refine fl_ret ?_
  obtain rfl := osome hs
  exact hret _ _ _ _ (.inl rfl) hd30 (results1_ rfl (RVal.tmp_ e30_8)) ⟨(rl [(22, 1), (24, 3), (26, 4), (28, 2)] own30), ((none, g21), (none, g27), (none, g23), (none, g25)), rfl, (Evo.rl_ hX30 (fun _ => Nat.le_refl 0) rfl), (BlkO.rl_ (mm := [(22, 1), (24, 3), (26, 4), (28, 2)]) b30_g21), (BlkO.rl_ (mm := [(22, 1), (24, 3), (26, 4), (28, 2)]) b30_g27), (BlkO.rl_ (mm := [(22, 1), (24, 3), (26, 4), (28, 2)]) b30_g23), (BlkO.rl_ (mm := [(22, 1), (24, 3), (26, 4), (28, 2)]) b30_g25)⟩

theorem window_shown_1_w (w : World) (own : Own) (Sx : Type) (yy : Sx → Int → Option (Bool × Sx)) (Jx : Sq Sx) (lx : Nat) (sx0 : Sx) (f1 : Int) (gf1 : Nat) (tf1 : TypeId) (f2 : Int) (gf2 : Nat) (tf2 : TypeId) (f3 : Int) (gf3 : Nat) (tf3 : TypeId) (f4 : Int) (gf4 : Nat) (tf4 : TypeId) (hown : ∀ b, own b ≤ 1) (hYx : Rounds Try.prog lx (fun (x : Int) => #[.int .i64 x]) yy Jx) (hJx : SqO Jx own 1 w sx0) (hgf1 : BlkO own 0 w gf1 tf1 #[.int .i64 f1]) (hgf2 : BlkO own 0 w gf2 tf2 #[.int .i64 f2]) (hgf3 : BlkO own 0 w gf3 tf3 #[.int .i64 f3]) (hgf4 : BlkO own 0 w gf4 tf4 #[.int .i64 f4]) (r : Sx) (hs : window_shown_1 Sx yy sx0 f1 f2 f3 f4 = some r) :
    Calls Try.prog 45 #[.func (.yield lx) #[] #[], .pointer (some ⟨gf1, 0, none⟩), .pointer (some ⟨gf2, 0, none⟩), .pointer (some ⟨gf3, 0, none⟩), .pointer (some ⟨gf4, 0, none⟩)] w fun e w' => ∃ (own' : Own), e = .returned (.tuple #[]) ∧ Evo [1] own own' w w' ∧ SqO Jx own' 1 w' r := by
  refine fl_enter (n := 33) rfl rfl rfl (Nat.le_of_ble_eq_true rfl) ?_
  intro a0 Q hd0 hz0 harg hret
  have ha0 := harg 0 _ rfl
  have ha1 := harg 1 _ rfl
  have ha2 := harg 2 _ rfl
  have ha3 := harg 3 _ rfl
  have ha4 := harg 4 _ rfl
  clear harg
  have hE0 : Evo [1] own own w w := Evo.refl _ _ _
  refine rg_plain_seq (n := 33) (rs := []) (own0 := own) (K := [])
      (bs := [0, 0])
      (ds := [⟨[], [1], [], Fct.val 7 (.int .i64 f1)⟩,
      ⟨[], [], [], Fct.val 8 (.int .i64 0)⟩]) (by kernel_rfl) hz0 hd0 (fun _ h => nomatch h) ?_ ?_
  · refine steps_cons (fun own a wx hf hsl hE => ?_) ?_
    · obtain ⟨s_1, -⟩ := hsl
      exact sg_plain rfl rfl (or_load1 to3 (s_1.trans ha1) (Blk.at_ (BlkO.evo (by decide) hE hgf1).2 0 rfl))
    refine steps_cons (fun own a wx hf hsl hE => ?_) ?_
    · exact sg_plain rfl rfl (or_move rfl)
    exact steps_nil
  intro own60 a60 w60 hd60 hz60 hk60 hf60 hE60
  have e60_0 : a60.eval (.tmp 0) = .func (.yield lx) #[] #[] := (hk60 0 rfl).trans ha0
  have e60_2 : a60.eval (.tmp 2) = .pointer (some ⟨gf2, 0, none⟩) := (hk60 2 rfl).trans ha2
  have e60_3 : a60.eval (.tmp 3) = .pointer (some ⟨gf3, 0, none⟩) := (hk60 3 rfl).trans ha3
  have e60_4 : a60.eval (.tmp 4) = .pointer (some ⟨gf4, 0, none⟩) := (hk60 4 rfl).trans ha4
  obtain ⟨(f_7 : a60.eval (.tmp 7) = .int .i64 f1), (f_8 : a60.eval (.tmp 8) = .int .i64 0), -⟩ := hf60 [0, 1] rfl
  have e60_7 := f_7
  have e60_8 := f_8
  have hX60 := Evo.step hE0 hown hE60 rfl
  have b60_Jx := SqO.evo (by decide) hE60 hJx
  have b60_gf2 := BlkO.evo (by decide) hE60 hgf2
  have b60_gf3 := BlkO.evo (by decide) hE60 hgf3
  have b60_gf4 := BlkO.evo (by decide) hE60 hgf4
  refine fl_block (fun Q61 hn61 hx61 hp61 => ?_)
  refine fl_loop (body := (fun s => window_shown_1_b1 Sx yy f1 f2 f3 f4 s.1 s.2)) (z := r) (show loopO _ _ = _ from hs) (fun (s : Int × Sx) a wx => match s with | (x76, sx77) => ∃ (ox : Own), a.defers = [] ∧ a.tmps.size = 33 ∧ a.eval (.tmp 0) = .func (.yield lx) #[] #[] ∧ a.eval (.tmp 2) = .pointer (some ⟨gf2, 0, none⟩) ∧ a.eval (.tmp 3) = .pointer (some ⟨gf3, 0, none⟩) ∧ a.eval (.tmp 4) = .pointer (some ⟨gf4, 0, none⟩) ∧ a.eval (.tmp 7) = .int .i64 f1 ∧ a.eval (.tmp 8) = .int .i64 x76 ∧ Evo [1] own ox w wx ∧ BlkO ox 0 wx gf2 tf2 #[.int .i64 f2] ∧ BlkO ox 0 wx gf3 tf3 #[.int .i64 f3] ∧ BlkO ox 0 wx gf4 tf4 #[.int .i64 f4] ∧ SqO Jx ox 78 wx sx77) ?_ ?_
  · exact ⟨(rl [(1, 78)] own60), hd60, hz60, e60_0, e60_2, e60_3, e60_4, e60_7, e60_8, (Evo.rl_ hX60 hown rfl), (BlkO.rl_ (mm := [(1, 78)]) b60_gf2), (BlkO.rl_ (mm := [(1, 78)]) b60_gf3), (BlkO.rl_ (mm := [(1, 78)]) b60_gf4), (SqO.rl_ (mm := [(1, 78)]) b60_Jx rfl (by decide))⟩
  · rintro ⟨x76, sx77⟩ zz93 a93 w93 ⟨own93, hd94, hz94, e94_0, e94_2, e94_3, e94_4, e94_7, e94_8, hE94, b94_gf2, b94_gf3, b94_gf4, b94_Jx⟩ hs Q93 hn93 hp93 hz93
    have hs : window_shown_1_b1 Sx yy f1 f2 f3 f4 x76 sx77 = some zz93 := hs
    refine rg_plain_seq (n := 33) (rs := []) (own0 := own93) (K := [])
        (bs := [0])
        (ds := [⟨[], [8, 7], [], Fct.val 9 (.bool (decide (x76 < f1)))⟩]) (by kernel_rfl) hz94 hd94 (fun _ h => nomatch h) ?_ ?_
    · refine steps_cons (fun own a wx hf hsl hE => ?_) ?_
      · obtain ⟨s_8, s_7, -⟩ := hsl
        exact sg_plain rfl rfl (or_lss (s_8.trans e94_8) (s_7.trans e94_7) rfl)
      exact steps_nil
    intro own95 a95 w95 hd95 hz95 hk95 hf95 hE95
    have e95_0 : a95.eval (.tmp 0) = .func (.yield lx) #[] #[] := (hk95 0 rfl).trans e94_0
    have e95_2 : a95.eval (.tmp 2) = .pointer (some ⟨gf2, 0, none⟩) := (hk95 2 rfl).trans e94_2
    have e95_3 : a95.eval (.tmp 3) = .pointer (some ⟨gf3, 0, none⟩) := (hk95 3 rfl).trans e94_3
    have e95_4 : a95.eval (.tmp 4) = .pointer (some ⟨gf4, 0, none⟩) := (hk95 4 rfl).trans e94_4
    have e95_7 : a95.eval (.tmp 7) = .int .i64 f1 := (hk95 7 rfl).trans e94_7
    have e95_8 : a95.eval (.tmp 8) = .int .i64 x76 := (hk95 8 rfl).trans e94_8
    obtain ⟨(f_9 : a95.eval (.tmp 9) = .bool (decide (x76 < f1))), -⟩ := hf95 [0] rfl
    have e95_9 := f_9
    have hX95 := Evo.step hE94 hown hE95 rfl
    have b95_gf2 := BlkO.evo (by decide) hE95 b94_gf2
    have b95_gf3 := BlkO.evo (by decide) hE95 b94_gf3
    have b95_gf4 := BlkO.evo (by decide) hE95 b94_gf4
    have b95_Jx := SqO.evo (by decide) hE95 b94_Jx
    refine fl_seq (fun Q96 hn96 hp96 => ?_)
    refine fl_cond e95_9 hs (fun c97 hs => ?_) (fun c97 hs => ?_)
    · refine fl_skip ?_
      refine hn96 _ _ ?_
      refine fl_seq (fun Q98 hn98 hp98 => ?_)
      refine fl_block (fun Q99 hn99 hx99 hp99 => ?_)
      refine rg_plain_seq (n := 33) (rs := []) (own0 := own95) (K := [])
          (bs := [0, 1])
          (ds := [⟨[], [8], [], Fct.val 10 (.int .i64 x76)⟩,
          ⟨[0], [], [], Fct.val 6 (.int .i64 x76)⟩]) (by kernel_rfl) hz95 hd95 (fun _ h => nomatch h) ?_ ?_
      · refine steps_cons (fun own a wx hf hsl hE => ?_) ?_
        · obtain ⟨s_8, -⟩ := hsl
          exact sg_plain rfl rfl (or_move (s_8.trans e95_8))
        refine steps_cons (fun own a wx hf hsl hE => ?_) ?_
        · obtain ⟨(f_10 : a.eval (.tmp 10) = .int .i64 x76), -⟩ := hf
          exact sg_plain rfl rfl (or_assign f_10)
        exact steps_nil
      intro own100 a100 w100 hd100 hz100 hk100 hf100 hE100
      have e100_0 : a100.eval (.tmp 0) = .func (.yield lx) #[] #[] := (hk100 0 rfl).trans e95_0
      have e100_2 : a100.eval (.tmp 2) = .pointer (some ⟨gf2, 0, none⟩) := (hk100 2 rfl).trans e95_2
      have e100_3 : a100.eval (.tmp 3) = .pointer (some ⟨gf3, 0, none⟩) := (hk100 3 rfl).trans e95_3
      have e100_4 : a100.eval (.tmp 4) = .pointer (some ⟨gf4, 0, none⟩) := (hk100 4 rfl).trans e95_4
      have e100_7 : a100.eval (.tmp 7) = .int .i64 f1 := (hk100 7 rfl).trans e95_7
      have e100_8 : a100.eval (.tmp 8) = .int .i64 x76 := (hk100 8 rfl).trans e95_8
      obtain ⟨(f_6 : a100.eval (.tmp 6) = .int .i64 x76), -⟩ := hf100 [1] rfl
      have e100_6 := f_6
      have hX100 := Evo.step hX95 hown hE100 rfl
      have b100_gf2 := BlkO.evo (by decide) hE100 b95_gf2
      have b100_gf3 := BlkO.evo (by decide) hE100 b95_gf3
      have b100_gf4 := BlkO.evo (by decide) hE100 b95_gf4
      have b100_Jx := SqO.evo (by decide) hE100 b95_Jx
      obtain ⟨x102, hx102, hs⟩ := obind hs
      obtain ⟨z103, hz103, hs⟩ := obind hs
      refine rg_plain_seq (n := 33) (rs := [Fct.seqAt Jx 78 sx77]) (own0 := own100) (K := [78])
          (bs := [0, 0, 2, 0, 14, 31, 63, 127, 127, 383, 895, 127, 3967, 8191, 16383, 32767, 65535, 65535, 262143, 524287, 1048575])
          (ds := [⟨[], [2], [], Fct.val 11 (.int .i64 f2)⟩,
          ⟨[], [6], [], Fct.val 12 (.int .i64 x76)⟩,
          ⟨[1], [], [], Fct.val 13 (.int .i64 (ml 4096 x76))⟩,
          ⟨[], [3], [], Fct.val 14 (.int .i64 f3)⟩,
          ⟨[2, 3], [], [], Fct.val 15 (.int .i64 (sb (ml 4096 x76) f3))⟩,
          ⟨[0, 4], [], [], Fct.val 16 (.bool (decide ((sb (ml 4096 x76) f3) < f2)))⟩,
          ⟨[5], [], [], Fct.val 17 (.bool (decide ((sb (ml 4096 x76) f3) < f2)))⟩,
          ⟨[6], [4], [], Fct.cond (decide ((sb (ml 4096 x76) f3) < f2)) (some 18) (Fct.val 18 (.int .i64 f4))⟩,
          ⟨[6], [6], [], Fct.cond (decide ((sb (ml 4096 x76) f3) < f2)) (some 19) (Fct.val 19 (.int .i64 x76))⟩,
          ⟨[6, 8], [], [], Fct.cond (decide ((sb (ml 4096 x76) f3) < f2)) (some 20) (Fct.val 20 (.int .i64 (ad x76 1)))⟩,
          ⟨[6, 9], [], [], Fct.cond (decide ((sb (ml 4096 x76) f3) < f2)) (some 21) (Fct.val 21 (.int .i64 (ml 4096 (ad x76 1))))⟩,
          ⟨[6], [3], [], Fct.cond (decide ((sb (ml 4096 x76) f3) < f2)) (some 22) (Fct.val 22 (.int .i64 f3))⟩,
          ⟨[6, 10, 11], [], [], Fct.cond (decide ((sb (ml 4096 x76) f3) < f2)) (some 23) (Fct.val 23 (.int .i64 (ad (ml 4096 (ad x76 1)) f3)))⟩,
          ⟨[6, 7, 12], [], [], Fct.cond (decide ((sb (ml 4096 x76) f3) < f2)) (some 24) (Fct.val 24 (.bool (decide (f4 < (ad (ml 4096 (ad x76 1)) f3)))))⟩,
          ⟨[6, 13], [], [], Fct.val 25 (.bool x102)⟩,
          ⟨[14], [], [], Fct.val 26 (.bool x102)⟩,
          ⟨[15], [0], [], Fct.cond x102 (some 27) (Fct.val 27 (.func (.yield lx) #[] #[]))⟩,
          ⟨[15], [6], [], Fct.cond x102 (some 28) (Fct.val 28 (.int .i64 x76))⟩,
          ⟨[15, 16, 17, 21], [], [78], Fct.seqC Jx x102 104 29 z103.1 z103.2⟩,
          ⟨[15, 18], [], [], Fct.cond x102 (some 30) (Fct.val 30 (.bool (!z103.1)))⟩,
          ⟨[15, 19], [], [], Fct.val 31 (.bool (x102 && (!z103.1)))⟩]) (by kernel_rfl) hz100 hd100 (by simp only [List.forall_mem_cons]; exact ⟨b100_Jx, fun _ h => nomatch h⟩) ?_ ?_
      · refine steps_cons (fun own a wx hf hsl hE => ?_) ?_
        · obtain ⟨s_2, -⟩ := hsl
          exact sg_plain rfl rfl (or_load1 to3 (s_2.trans e100_2) (Blk.at_ (BlkO.evo (by decide) hE b100_gf2).2 0 rfl))
        refine steps_cons (fun own a wx hf hsl hE => ?_) ?_
        · obtain ⟨s_6, -⟩ := hsl
          exact sg_plain rfl rfl (or_move (s_6.trans e100_6))
        refine steps_cons (fun own a wx hf hsl hE => ?_) ?_
        · obtain ⟨(f_12 : a.eval (.tmp 12) = .int .i64 x76), -⟩ := hf
          exact sg_plain rfl rfl (or_mul rfl f_12 rfl)
        refine steps_cons (fun own a wx hf hsl hE => ?_) ?_
        · obtain ⟨s_3, -⟩ := hsl
          exact sg_plain rfl rfl (or_load1 to3 (s_3.trans e100_3) (Blk.at_ (BlkO.evo (by decide) hE b100_gf3).2 0 rfl))
        refine steps_cons (fun own a wx hf hsl hE => ?_) ?_
        · obtain ⟨(f_13 : a.eval (.tmp 13) = .int .i64 (ml 4096 x76)), (f_14 : a.eval (.tmp 14) = .int .i64 f3), -⟩ := hf
          exact sg_plain rfl rfl (or_sub f_13 f_14 rfl)
        refine steps_cons (fun own a wx hf hsl hE => ?_) ?_
        · obtain ⟨(f_11 : a.eval (.tmp 11) = .int .i64 f2), (f_15 : a.eval (.tmp 15) = .int .i64 (sb (ml 4096 x76) f3)), -⟩ := hf
          exact sg_plain rfl rfl (or_gtr f_11 f_15 rfl)
        refine steps_cons (fun own a wx hf hsl hE => ?_) ?_
        · obtain ⟨(f_16 : a.eval (.tmp 16) = .bool (decide ((sb (ml 4096 x76) f3) < f2))), -⟩ := hf
          exact sg_plain rfl rfl (or_move f_16)
        refine steps_cons (fun own a wx hf hsl hE => ?_) ?_
        · obtain ⟨(f_17 : a.eval (.tmp 17) = .bool (decide ((sb (ml 4096 x76) f3) < f2))), -⟩ := hf
          obtain ⟨s_4, -⟩ := hsl
          refine sg_t rfl rfl rfl f_17 (fun hg => ?_)
          exact or_load1 to3 (s_4.trans e100_4) (Blk.at_ (BlkO.evo (by decide) hE b100_gf4).2 0 rfl)
        refine steps_cons (fun own a wx hf hsl hE => ?_) ?_
        · obtain ⟨(f_17 : a.eval (.tmp 17) = .bool (decide ((sb (ml 4096 x76) f3) < f2))), -⟩ := hf
          obtain ⟨s_6, -⟩ := hsl
          refine sg_t rfl rfl rfl f_17 (fun hg => ?_)
          exact or_move (s_6.trans e100_6)
        refine steps_cons (fun own a wx hf hsl hE => ?_) ?_
        · obtain ⟨(f_17 : a.eval (.tmp 17) = .bool (decide ((sb (ml 4096 x76) f3) < f2))), c_19, -⟩ := hf
          refine sg_t rfl rfl rfl f_17 (fun hg => ?_)
          have f_19 : a.eval (.tmp 19) = .int .i64 x76 := c_19.1 hg
          exact or_add f_19 rfl rfl
        refine steps_cons (fun own a wx hf hsl hE => ?_) ?_
        · obtain ⟨(f_17 : a.eval (.tmp 17) = .bool (decide ((sb (ml 4096 x76) f3) < f2))), c_20, -⟩ := hf
          refine sg_t rfl rfl rfl f_17 (fun hg => ?_)
          have f_20 : a.eval (.tmp 20) = .int .i64 (ad x76 1) := c_20.1 hg
          exact or_mul rfl f_20 rfl
        refine steps_cons (fun own a wx hf hsl hE => ?_) ?_
        · obtain ⟨(f_17 : a.eval (.tmp 17) = .bool (decide ((sb (ml 4096 x76) f3) < f2))), -⟩ := hf
          obtain ⟨s_3, -⟩ := hsl
          refine sg_t rfl rfl rfl f_17 (fun hg => ?_)
          exact or_load1 to3 (s_3.trans e100_3) (Blk.at_ (BlkO.evo (by decide) hE b100_gf3).2 0 rfl)
        refine steps_cons (fun own a wx hf hsl hE => ?_) ?_
        · obtain ⟨(f_17 : a.eval (.tmp 17) = .bool (decide ((sb (ml 4096 x76) f3) < f2))), c_21, c_22, -⟩ := hf
          refine sg_t rfl rfl rfl f_17 (fun hg => ?_)
          have f_21 : a.eval (.tmp 21) = .int .i64 (ml 4096 (ad x76 1)) := c_21.1 hg
          have f_22 : a.eval (.tmp 22) = .int .i64 f3 := c_22.1 hg
          exact or_add f_21 f_22 rfl
        refine steps_cons (fun own a wx hf hsl hE => ?_) ?_
        · obtain ⟨(f_17 : a.eval (.tmp 17) = .bool (decide ((sb (ml 4096 x76) f3) < f2))), c_18, c_23, -⟩ := hf
          refine sg_t rfl rfl rfl f_17 (fun hg => ?_)
          have f_18 : a.eval (.tmp 18) = .int .i64 f4 := c_18.1 hg
          have f_23 : a.eval (.tmp 23) = .int .i64 (ad (ml 4096 (ad x76 1)) f3) := c_23.1 hg
          exact or_lss f_18 f_23 rfl
        refine steps_cons (fun own a wx hf hsl hE => ?_) ?_
        · obtain ⟨(f_17 : a.eval (.tmp 17) = .bool (decide ((sb (ml 4096 x76) f3) < f2))), c_24, -⟩ := hf
          exact sg_plain rfl rfl (or_and f_17 (fun hx => c_24.1 hx) rfl (osome hx102).symm)
        refine steps_cons (fun own a wx hf hsl hE => ?_) ?_
        · obtain ⟨(f_25 : a.eval (.tmp 25) = .bool x102), -⟩ := hf
          exact sg_plain rfl rfl (or_move f_25)
        refine steps_cons (fun own a wx hf hsl hE => ?_) ?_
        · obtain ⟨(f_26 : a.eval (.tmp 26) = .bool x102), -⟩ := hf
          obtain ⟨s_0, -⟩ := hsl
          refine sg_t rfl rfl rfl f_26 (fun hg => ?_)
          exact or_move (s_0.trans e100_0)
        refine steps_cons (fun own a wx hf hsl hE => ?_) ?_
        · obtain ⟨(f_26 : a.eval (.tmp 26) = .bool x102), -⟩ := hf
          obtain ⟨s_6, -⟩ := hsl
          refine sg_t rfl rfl rfl f_26 (fun hg => ?_)
          exact or_move (s_6.trans e100_6)
        refine steps_cons (fun own a wx hf hsl hE => ?_) ?_
        · obtain ⟨(f_26 : a.eval (.tmp 26) = .bool x102), c_27, c_28, (b_Jx : SqO Jx own 78 wx sx77), -⟩ := hf
          refine sgB_t rfl rfl f_26 (fun hg => seqC_y rfl hg ?_) (fun hg => seqC_n (lab := 78) rfl hg (congrArg Prod.snd (gd_f hz103 hg)) b_Jx (mem_of rfl) (by decide))
          have f_27 : a.eval (.tmp 27) = .func (.yield lx) #[] #[] := c_27.1 hg
          have f_28 : a.eval (.tmp 28) = .int .i64 x76 := c_28.1 hg
          exact or_yield (x := x76) (lab := 78) (lab2 := 104) f_27 (args1 f_28) hYx b_Jx (gd_t hz103 hg) (mem_of rfl) (by decide)
        refine steps_cons (fun own a wx hf hsl hE => ?_) ?_
        · obtain ⟨(f_26 : a.eval (.tmp 26) = .bool x102), ⟨c_29, (b_Jx : SqO Jx own 104 wx z103.2)⟩, -⟩ := hf
          refine sg_t rfl rfl rfl f_26 (fun hg => ?_)
          have f_29 := c_29.1 hg
          exact or_not f_29 rfl
        refine steps_cons (fun own a wx hf hsl hE => ?_) ?_
        · obtain ⟨(f_26 : a.eval (.tmp 26) = .bool x102), c_30, -⟩ := hf
          exact sg_plain rfl rfl (or_and f_26 (fun hx => c_30.1 hx) rfl rfl)
        exact steps_nil
      intro own105 a105 w105 hd105 hz105 hk105 hf105 hE105
      have e105_0 : a105.eval (.tmp 0) = .func (.yield lx) #[] #[] := (hk105 0 rfl).trans e100_0
      have e105_2 : a105.eval (.tmp 2) = .pointer (some ⟨gf2, 0, none⟩) := (hk105 2 rfl).trans e100_2
      have e105_3 : a105.eval (.tmp 3) = .pointer (some ⟨gf3, 0, none⟩) := (hk105 3 rfl).trans e100_3
      have e105_4 : a105.eval (.tmp 4) = .pointer (some ⟨gf4, 0, none⟩) := (hk105 4 rfl).trans e100_4
      have e105_7 : a105.eval (.tmp 7) = .int .i64 f1 := (hk105 7 rfl).trans e100_7
      have e105_8 : a105.eval (.tmp 8) = .int .i64 x76 := (hk105 8 rfl).trans e100_8
      obtain ⟨(f_31 : a105.eval (.tmp 31) = .bool (x102 && (!z103.1))), ⟨c_29, (b_Jx : SqO Jx own105 104 w105 z103.2)⟩, -⟩ := hf105 [20, 18] rfl
      have e105_31 := f_31
      have hX105 := Evo.step hX100 hown hE105 rfl
      have b105_gf2 := BlkO.evo (by decide) hE105 b100_gf2
      have b105_gf3 := BlkO.evo (by decide) hE105 b100_gf3
      have b105_gf4 := BlkO.evo (by decide) hE105 b100_gf4
      have b105_Jx := b_Jx
      refine fl_cond e105_31 hs (fun c106 hs => ?_) (fun c106 hs => ?_)
      · refine fl_ret ?_
        refine hp99 _ _ _ rfl ?_
        refine hp98 _ _ _ rfl ?_
        replace hs := hz93 _ hs
        refine hp93 _ _ _ rfl ?_
        refine hp61 _ _ _ rfl ?_
        obtain rfl := osome hs
        exact hret _ _ _ _ (.inl rfl) hd105 (results0_ rfl ) ⟨(rl [(104, 1)] own105), rfl, (Evo.rl_ hX105 hown rfl), (SqO.rl_ (mm := [(104, 1)]) b105_Jx rfl (by decide))⟩
      refine fl_skip ?_
      refine hn99 _ _ ?_
      refine hn98 _ _ ?_
      refine rg_plain (n := 33) (rs := []) (own0 := own105) (K := [])
          (bs := [0, 1])
          (ds := [⟨[], [8], [], Fct.val 32 (.int .i64 (ad x76 1))⟩,
          ⟨[0], [], [], Fct.val 8 (.int .i64 (ad x76 1))⟩]) (by kernel_rfl) hz105 hd105 (fun _ h => nomatch h) ?_ ?_
      · refine steps_cons (fun own a wx hf hsl hE => ?_) ?_
        · obtain ⟨s_8, -⟩ := hsl
          exact sg_plain rfl rfl (or_add (s_8.trans e105_8) rfl rfl)
        refine steps_cons (fun own a wx hf hsl hE => ?_) ?_
        · obtain ⟨(f_32 : a.eval (.tmp 32) = .int .i64 (ad x76 1)), -⟩ := hf
          exact sg_plain rfl rfl (or_move f_32)
        exact steps_nil
      intro own107 a107 w107 hd107 hz107 hk107 hf107 hE107
      have e107_0 : a107.eval (.tmp 0) = .func (.yield lx) #[] #[] := (hk107 0 rfl).trans e105_0
      have e107_2 : a107.eval (.tmp 2) = .pointer (some ⟨gf2, 0, none⟩) := (hk107 2 rfl).trans e105_2
      have e107_3 : a107.eval (.tmp 3) = .pointer (some ⟨gf3, 0, none⟩) := (hk107 3 rfl).trans e105_3
      have e107_4 : a107.eval (.tmp 4) = .pointer (some ⟨gf4, 0, none⟩) := (hk107 4 rfl).trans e105_4
      have e107_7 : a107.eval (.tmp 7) = .int .i64 f1 := (hk107 7 rfl).trans e105_7
      obtain ⟨(f_8 : a107.eval (.tmp 8) = .int .i64 (ad x76 1)), -⟩ := hf107 [1] rfl
      have e107_8 := f_8
      have hX107 := Evo.step hX105 hown hE107 rfl
      have b107_gf2 := BlkO.evo (by decide) hE107 b105_gf2
      have b107_gf3 := BlkO.evo (by decide) hE107 b105_gf3
      have b107_gf4 := BlkO.evo (by decide) hE107 b105_gf4
      have b107_Jx := SqO.evo (by decide) hE107 b105_Jx
      exact hn93 _ _ _ hs ⟨(rl [(104, 78)] own107), hd107, hz107, e107_0, e107_2, e107_3, e107_4, e107_7, e107_8, (Evo.rl_ hX107 hown rfl), (BlkO.rl_ (mm := [(104, 78)]) b107_gf2), (BlkO.rl_ (mm := [(104, 78)]) b107_gf3), (BlkO.rl_ (mm := [(104, 78)]) b107_gf4), (SqO.rl_ (mm := [(104, 78)]) b107_Jx rfl (by decide))⟩
    refine fl_exit ?_
    refine hp96 _ _ _ rfl ?_
    replace hs := hz93 _ hs
    refine hp93 _ _ _ rfl ?_
    refine hx61 _ _ ?_
    obtain rfl := (osome hs).symm
    exact hret _ _ _ _ (.inr rfl) hd95 (results0_ rfl ) ⟨(rl [(78, 1)] own95), rfl, (Evo.rl_ hX95 hown rfl), (SqO.rl_ (mm := [(78, 1)]) b95_Jx rfl (by decide))⟩

set_option maxHeartbeats 2000000 in
theorem window_Shown_w (w : World) (z1 : Int) (buffer2 : Int) (b3 : (Int × Int) × (Int × Int)) (r : List (Int × Int × Int)) (hs : window_Shown z1 buffer2 b3 = some r) :
    Calls Try.prog 10 #[.int .i64 z1, .int .i64 buffer2, .agg #[.int .i64 b3.1.1, .int .i64 b3.1.2, .int .i64 b3.2.1, .int .i64 b3.2.2]] w fun e w' => ∃ (own' : Own) (x : Option Addr × Nat), e = .returned (.slice x.1 r.length x.2) ∧ Evo [] (fun _ => 0) own' w w' ∧ RwO own' 1 [] w' 27 R27 x.1 x.2 r := by
  refine fl_enterM (n := 49) (kD := 11) (by decide) rfl rfl rfl (Nat.le_of_ble_eq_true rfl) ?_
  intro a0 Q hd0 hz0 harg hret
  have ha0 := harg 0 _ rfl
  have ha1 := harg 1 _ rfl
  have ha2 := harg 2 _ rfl
  clear harg
  have hE0 : Evo [] (fun _ => 0) (fun _ => 0) w w := Evo.refl _ _ _
  have hmk0 : MkO (fun _ => 0) 11 w [] := MkO.nil_
  refine rg_plain_seq (n := 49) (rs := []) (own0 := (fun _ => 0)) (K := [])
      (bs := [0, 0, 0, 0])
      (ds := [⟨[], [0], [], Fct.blk 310 3 (fun g => .pointer (some ⟨g, 0, none⟩)) 3 #[.int .i64 z1]⟩,
      ⟨[], [1], [], Fct.blk 312 4 (fun g => .pointer (some ⟨g, 0, none⟩)) 3 #[.int .i64 buffer2]⟩,
      ⟨[], [2], [], Fct.blk 314 5 (fun g => .pointer (some ⟨g, 0, none⟩)) 25 #[.int .i64 b3.1.1, .int .i64 b3.1.2, .int .i64 b3.2.1, .int .i64 b3.2.2]⟩,
      ⟨[], [], [], Fct.val 6 (.slice none 0 0)⟩]) (by kernel_rfl) hz0 hd0 (fun _ h => nomatch h) ?_ ?_
  · refine steps_cons (fun own a wx hf hsl hE => ?_) ?_
    · obtain ⟨s_0, -⟩ := hsl
      exact sg_plain rfl rfl (or_new [(0, .int .i64 z1)] rfl rfl ⟨(s_0.trans ha0), trivial⟩ (by kernel_rfl))
    refine steps_cons (fun own a wx hf hsl hE => ?_) ?_
    · obtain ⟨s_1, -⟩ := hsl
      exact sg_plain rfl rfl (or_new [(1, .int .i64 buffer2)] rfl rfl ⟨(s_1.trans ha1), trivial⟩ (by kernel_rfl))
    refine steps_cons (fun own a wx hf hsl hE => ?_) ?_
    · obtain ⟨s_2, -⟩ := hsl
      exact sg_plain rfl rfl (or_new [(2, .agg #[.int .i64 b3.1.1, .int .i64 b3.1.2, .int .i64 b3.2.1, .int .i64 b3.2.2])] rfl rfl ⟨(s_2.trans ha2), trivial⟩ (by kernel_rfl))
    refine steps_cons (fun own a wx hf hsl hE => ?_) ?_
    · exact sg_plain rfl rfl (or_assign rfl)
    exact steps_nil
  intro own315 a315 w315 hd315 hz315 hk315 hf315 hE315
  obtain ⟨⟨g309, (f_3 : a315.eval (.tmp 3) = .pointer (some ⟨g309, 0, none⟩)), (b_g309 : BlkO own315 310 w315 g309 3 #[.int .i64 z1])⟩, ⟨g311, (f_4 : a315.eval (.tmp 4) = .pointer (some ⟨g311, 0, none⟩)), (b_g311 : BlkO own315 312 w315 g311 3 #[.int .i64 buffer2])⟩, ⟨g313, (f_5 : a315.eval (.tmp 5) = .pointer (some ⟨g313, 0, none⟩)), (b_g313 : BlkO own315 314 w315 g313 25 #[.int .i64 b3.1.1, .int .i64 b3.1.2, .int .i64 b3.2.1, .int .i64 b3.2.2])⟩, -⟩ := hf315 [0, 1, 2] rfl
  have e315_3 := f_3
  have e315_4 := f_4
  have e315_5 := f_5
  have hX315 := Evo.step hE0 (fun _ => Nat.le_refl 0) hE315 rfl
  have b315_mk := MkO.evo (by decide) hE315 hmk0
  have b315_g309 := b_g309
  have b315_g311 := b_g311
  have b315_g313 := b_g313
  refine fl_seq (fun Q316 hn316 hp316 => ?_)
  obtain ⟨r317, hr317, hs⟩ := obind hs
  obtain ⟨r318, hr318, hs⟩ := obind hs
  refine rg_plain_seq (n := 49) (rs := []) (own0 := own315) (K := [])
      (bs := [0, 1, 3, 7, 15, 31, 63, 127])
      (ds := [⟨[], [4], [], Fct.val 11 (.int .i64 buffer2)⟩,
      ⟨[0], [], [], Fct.val 12 (.bool r317)⟩,
      ⟨[1], [], [], Fct.val 13 (.bool (!r317))⟩,
      ⟨[2], [], [], Fct.val 14 (.bool (!r317))⟩,
      ⟨[3], [5], [], Fct.cond (!(!r317)) (some 15) (Fct.val 15 (.agg #[.int .i64 b3.1.1, .int .i64 b3.1.2, .int .i64 b3.2.1, .int .i64 b3.2.2]))⟩,
      ⟨[3, 4], [], [], Fct.cond (!(!r317)) (some 16) (Fct.val 16 (.bool r318))⟩,
      ⟨[3, 5], [], [], Fct.cond (!(!r317)) (some 17) (Fct.val 17 (.bool (!r318)))⟩,
      ⟨[3, 6], [], [], Fct.val 18 (.bool ((!r317) || (!r318)))⟩]) (by kernel_rfl) hz315 hd315 (fun _ h => nomatch h) ?_ ?_
  · refine steps_cons (fun own a wx hf hsl hE => ?_) ?_
    · obtain ⟨s_4, -⟩ := hsl
      exact sg_plain rfl rfl (or_load1 to3 (s_4.trans e315_4) (Blk.at_ (BlkO.evo (by decide) hE b315_g311).2 0 rfl))
    refine steps_cons (fun own a wx hf hsl hE => ?_) ?_
    · obtain ⟨(f_11 : a.eval (.tmp 11) = .int .i64 buffer2), -⟩ := hf
      exact sg_plain rfl rfl (or_call cf34 (args1 f_11) (window_buffered_w _ buffer2  r317 hr317) post_val)
    refine steps_cons (fun own a wx hf hsl hE => ?_) ?_
    · obtain ⟨(f_12 : a.eval (.tmp 12) = .bool r317), -⟩ := hf
      exact sg_plain rfl rfl (or_not f_12 rfl)
    refine steps_cons (fun own a wx hf hsl hE => ?_) ?_
    · obtain ⟨(f_13 : a.eval (.tmp 13) = .bool (!r317)), -⟩ := hf
      exact sg_plain rfl rfl (or_move f_13)
    refine steps_cons (fun own a wx hf hsl hE => ?_) ?_
    · obtain ⟨(f_14 : a.eval (.tmp 14) = .bool (!r317)), -⟩ := hf
      obtain ⟨s_5, -⟩ := hsl
      refine sg_f rfl rfl rfl f_14 (fun hg => ?_)
      exact or_load (l := [.int .i64 b3.1.1, .int .i64 b3.1.2, .int .i64 b3.2.1, .int .i64 b3.2.2]) ta25 (s_5.trans e315_5) (Blk.cellsFrom (BlkO.evo (by decide) hE b315_g313).2 0 rfl) rfl
    refine steps_cons (fun own a wx hf hsl hE => ?_) ?_
    · obtain ⟨(f_14 : a.eval (.tmp 14) = .bool (!r317)), c_15, -⟩ := hf
      refine sg_f rfl rfl rfl f_14 (fun hg => ?_)
      have f_15 : a.eval (.tmp 15) = .agg #[.int .i64 b3.1.1, .int .i64 b3.1.2, .int .i64 b3.2.1, .int .i64 b3.2.2] := c_15.1 hg
      exact or_call cf35 (args1 f_15) (rows_Right_w _ b3  r318 (gd_t hr318 hg)) post_val
    refine steps_cons (fun own a wx hf hsl hE => ?_) ?_
    · obtain ⟨(f_14 : a.eval (.tmp 14) = .bool (!r317)), c_16, -⟩ := hf
      refine sg_f rfl rfl rfl f_14 (fun hg => ?_)
      have f_16 : a.eval (.tmp 16) = .bool r318 := c_16.1 hg
      exact or_not f_16 rfl
    refine steps_cons (fun own a wx hf hsl hE => ?_) ?_
    · obtain ⟨(f_14 : a.eval (.tmp 14) = .bool (!r317)), c_17, -⟩ := hf
      exact sg_plain rfl rfl (or_or f_14 rfl (fun hx => c_17.1 hx) rfl)
    exact steps_nil
  intro own319 a319 w319 hd319 hz319 hk319 hf319 hE319
  have e319_3 : a319.eval (.tmp 3) = .pointer (some ⟨g309, 0, none⟩) := (hk319 3 rfl).trans e315_3
  have e319_4 : a319.eval (.tmp 4) = .pointer (some ⟨g311, 0, none⟩) := (hk319 4 rfl).trans e315_4
  have e319_5 : a319.eval (.tmp 5) = .pointer (some ⟨g313, 0, none⟩) := (hk319 5 rfl).trans e315_5
  obtain ⟨(f_18 : a319.eval (.tmp 18) = .bool ((!r317) || (!r318))), -⟩ := hf319 [7] rfl
  have e319_18 := f_18
  have hX319 := Evo.step hX315 (fun _ => Nat.le_refl 0) hE319 rfl
  have b319_mk := MkO.evo (by decide) hE319 b315_mk
  have b319_g309 := BlkO.evo (by decide) hE319 b315_g309
  have b319_g311 := BlkO.evo (by decide) hE319 b315_g311
  have b319_g313 := BlkO.evo (by decide) hE319 b315_g313
  refine fl_cond e319_18 hs (fun c320 hs => ?_) (fun c320 hs => ?_)
  · refine rg_plain_seq (n := 49) (rs := []) (own0 := own319) (K := [])
        (bs := [0])
        (ds := [⟨[], [], [], Fct.val 6 (.slice none 0 0)⟩]) (by kernel_rfl) hz319 hd319 (fun _ h => nomatch h) ?_ ?_
    · refine steps_cons (fun own a wx hf hsl hE => ?_) ?_
      · exact sg_plain rfl rfl (or_assign rfl)
      exact steps_nil
    intro own321 a321 w321 hd321 hz321 hk321 hf321 hE321
    obtain ⟨(f_6 : a321.eval (.tmp 6) = .slice none 0 0), -⟩ := hf321 [0] rfl
    have e321_6 := f_6
    have hX321 := Evo.step hX319 (fun _ => Nat.le_refl 0) hE321 rfl
    have b321_mk := MkO.evo (by decide) hE321 b319_mk
    refine fl_ret ?_
    refine hp316 _ _ _ rfl ?_
    refine hret _ _ _ _ _ (.inl rfl) hd321 b321_mk (fun own322 w322 hE322 => ?_)
    have hX323 := Evo.step hX321 (fun _ => Nat.le_refl 0) hE322 rfl
    obtain rfl := osome hs
    exact ⟨_, results1_ rfl (RVal.tmp_ e321_6), ⟨own322, (none, 0), rfl, hX323, RwO.nil_⟩⟩
  refine fl_skip ?_
  refine hn316 _ _ ?_
  refine rg_plain_seq (n := 49) (rs := []) (own0 := own319) (K := [])
      (bs := [0])
      (ds := [⟨[], [], [], Fct.blk 325 7 (fun g => .pointer (some ⟨g, 0, none⟩)) 35 #[.slice none 0 0]⟩]) (by kernel_rfl) hz319 hd319 (fun _ h => nomatch h) ?_ ?_
  · refine steps_cons (fun own a wx hf hsl hE => ?_) ?_
    · exact sg_plain rfl rfl (or_new [] rfl rfl trivial (by kernel_rfl))
    exact steps_nil
  intro own326 a326 w326 hd326 hz326 hk326 hf326 hE326
  have e326_3 : a326.eval (.tmp 3) = .pointer (some ⟨g309, 0, none⟩) := (hk326 3 rfl).trans e319_3
  have e326_4 : a326.eval (.tmp 4) = .pointer (some ⟨g311, 0, none⟩) := (hk326 4 rfl).trans e319_4
  have e326_5 : a326.eval (.tmp 5) = .pointer (some ⟨g313, 0, none⟩) := (hk326 5 rfl).trans e319_5
  obtain ⟨⟨g324, (f_7 : a326.eval (.tmp 7) = .pointer (some ⟨g324, 0, none⟩)), (b_g324 : BlkO own326 325 w326 g324 35 #[.slice none 0 0])⟩, -⟩ := hf326 [0] rfl
  have e326_7 := f_7
  have hX326 := Evo.step hX319 (fun _ => Nat.le_refl 0) hE326 rfl
  have b326_mk := MkO.evo (by decide) hE326 b319_mk
  have b326_g309 := BlkO.evo (by decide) hE326 b319_g309
  have b326_g311 := BlkO.evo (by decide) hE326 b319_g311
  have b326_g313 := BlkO.evo (by decide) hE326 b319_g313
  have b326_g324 := b_g324
  obtain ⟨r327, hr327, hs⟩ := obind hs
  refine rg_plain_seq (n := 49) (rs := []) (own0 := own326) (K := [329])
      (bs := [0, 1, 0, 7])
      (ds := [⟨[], [3], [], Fct.val 19 (.int .i64 z1)⟩,
      ⟨[0], [], [], Fct.val 20 (.int .i64 r327)⟩,
      ⟨[], [], [], Fct.blk 329 8 (fun g => .pointer (some ⟨g, 0, none⟩)) 3 #[.int .i64 0]⟩,
      ⟨[2, 1], [], [329], Fct.blk 330 8 (fun g => .pointer (some ⟨g, 0, none⟩)) 3 #[.int .i64 r327]⟩]) (by kernel_rfl) hz326 hd326 (fun _ h => nomatch h) ?_ ?_
  · refine steps_cons (fun own a wx hf hsl hE => ?_) ?_
    · obtain ⟨s_3, -⟩ := hsl
      exact sg_plain rfl rfl (or_load1 to3 (s_3.trans e326_3) (Blk.at_ (BlkO.evo (by decide) hE b326_g309).2 0 rfl))
    refine steps_cons (fun own a wx hf hsl hE => ?_) ?_
    · obtain ⟨(f_19 : a.eval (.tmp 19) = .int .i64 z1), -⟩ := hf
      exact sg_plain rfl rfl (or_call cf32 (args1 f_19) (window_count_w _ z1  r327 hr327) post_val)
    refine steps_cons (fun own a wx hf hsl hE => ?_) ?_
    · exact sg_plain rfl rfl (or_new [] rfl rfl trivial (by kernel_rfl))
    refine steps_cons (fun own a wx hf hsl hE => ?_) ?_
    · obtain ⟨⟨g328, (f_8 : a.eval (.tmp 8) = .pointer (some ⟨g328, 0, none⟩)), (b_g328 : BlkO own 329 wx g328 3 #[.int .i64 0])⟩, (f_20 : a.eval (.tmp 20) = .int .i64 r327), -⟩ := hf
      exact sg_plain rfl rfl (or_store1 (lab := 329) (lab2 := 330) ts3 f_8 f_20 b_g328 (by simp) rfl (mem_of rfl) (by decide) rfl (fun own' a' w' ha hb => ⟨_, (ha 8).trans f_8, hb⟩))
    exact steps_nil
  intro own331 a331 w331 hd331 hz331 hk331 hf331 hE331
  have e331_3 : a331.eval (.tmp 3) = .pointer (some ⟨g309, 0, none⟩) := (hk331 3 rfl).trans e326_3
  have e331_4 : a331.eval (.tmp 4) = .pointer (some ⟨g311, 0, none⟩) := (hk331 4 rfl).trans e326_4
  have e331_5 : a331.eval (.tmp 5) = .pointer (some ⟨g313, 0, none⟩) := (hk331 5 rfl).trans e326_5
  have e331_7 : a331.eval (.tmp 7) = .pointer (some ⟨g324, 0, none⟩) := (hk331 7 rfl).trans e326_7
  obtain ⟨⟨g328, (f_8 : a331.eval (.tmp 8) = .pointer (some ⟨g328, 0, none⟩)), (b_g328 : BlkO own331 330 w331 g328 3 #[.int .i64 r327])⟩, -⟩ := hf331 [3] rfl
  have e331_8 := f_8
  have hX331 := Evo.step hX326 (fun _ => Nat.le_refl 0) hE331 rfl
  have b331_mk := MkO.evo (by decide) hE331 b326_mk
  have b331_g309 := BlkO.evo (by decide) hE331 b326_g309
  have b331_g311 := BlkO.evo (by decide) hE331 b326_g311
  have b331_g313 := BlkO.evo (by decide) hE331 b326_g313
  have b331_g324 := BlkO.evo (by decide) hE331 b326_g324
  have b331_g328 := b_g328
  refine fl_seq (fun Q332 hn332 hp332 => ?_)
  refine rg_plain_seq (n := 49) (rs := []) (own0 := own331) (K := [])
      (bs := [0, 0, 0, 4, 12, 0, 32, 96, 255])
      (ds := [⟨[], [8], [], Fct.val 21 (.int .i64 r327)⟩,
      ⟨[], [4], [], Fct.val 22 (.int .i64 buffer2)⟩,
      ⟨[], [5], [], Fct.val 23 (.pointer (some ⟨g313, 0, none⟩))⟩,
      ⟨[2], [], [], Fct.val 24 (.pointer (some ⟨g313, 0, none⟩))⟩,
      ⟨[3], [], [], Fct.val 25 (.int .i64 b3.1.1)⟩,
      ⟨[], [5], [], Fct.val 26 (.pointer (some ⟨g313, 2, none⟩))⟩,
      ⟨[5], [], [], Fct.val 27 (.pointer (some ⟨g313, 2, none⟩))⟩,
      ⟨[6], [], [], Fct.val 28 (.int .i64 b3.2.1)⟩,
      ⟨[0, 1, 4, 7], [], [], Fct.mems [337, 338, 339, 340] 29 (fun (x : (Option Addr × Nat) × (Option Addr × Nat) × (Option Addr × Nat) × (Option Addr × Nat)) => .func (.func 45) #[] #[.pointer (some ⟨x.1.2, 0, none⟩), .pointer (some ⟨x.2.1.2, 0, none⟩), .pointer (some ⟨x.2.2.1.2, 0, none⟩), .pointer (some ⟨x.2.2.2.2, 0, none⟩)]) (fun (x : (Option Addr × Nat) × (Option Addr × Nat) × (Option Addr × Nat) × (Option Addr × Nat)) own w => BlkO own 337 w x.1.2 3 #[.int .i64 r327] ∧ BlkO own 338 w x.2.1.2 3 #[.int .i64 b3.2.1] ∧ BlkO own 339 w x.2.2.1.2 3 #[.int .i64 buffer2] ∧ BlkO own 340 w x.2.2.2.2 3 #[.int .i64 b3.1.1]) (fun hk he h => ⟨BlkO.evo (not_hit hk (by decide)) he h.1, BlkO.evo (not_hit hk (by decide)) he h.2.1, BlkO.evo (not_hit hk (by decide)) he h.2.2.1, BlkO.evo (not_hit hk (by decide)) he h.2.2.2⟩)⟩]) (by kernel_rfl) hz331 hd331 (fun _ h => nomatch h) ?_ ?_
  · refine steps_cons (fun own a wx hf hsl hE => ?_) ?_
    · obtain ⟨s_8, -⟩ := hsl
      exact sg_plain rfl rfl (or_load1 to3 (s_8.trans e331_8) (Blk.at_ (BlkO.evo (by decide) hE b331_g328).2 0 rfl))
    refine steps_cons (fun own a wx hf hsl hE => ?_) ?_
    · obtain ⟨s_4, -⟩ := hsl
      exact sg_plain rfl rfl (or_load1 to3 (s_4.trans e331_4) (Blk.at_ (BlkO.evo (by decide) hE b331_g311).2 0 rfl))
    refine steps_cons (fun own a wx hf hsl hE => ?_) ?_
    · obtain ⟨s_5, -⟩ := hsl
      exact sg_plain rfl rfl (or_field fo25_0 (s_5.trans e331_5) (by rfl))
    refine steps_cons (fun own a wx hf hsl hE => ?_) ?_
    · obtain ⟨(f_23 : a.eval (.tmp 23) = .pointer (some ⟨g313, 0, none⟩)), -⟩ := hf
      exact sg_plain rfl rfl (or_field fo23_0 f_23 (by rfl))
    refine steps_cons (fun own a wx hf hsl hE => ?_) ?_
    · obtain ⟨(f_24 : a.eval (.tmp 24) = .pointer (some ⟨g313, 0, none⟩)), -⟩ := hf
      exact sg_plain rfl rfl (or_load1 to3 f_24 (Blk.at_ (BlkO.evo (by decide) hE b331_g313).2 0 rfl))
    refine steps_cons (fun own a wx hf hsl hE => ?_) ?_
    · obtain ⟨s_5, -⟩ := hsl
      exact sg_plain rfl rfl (or_field fo25_1 (s_5.trans e331_5) (by rfl))
    refine steps_cons (fun own a wx hf hsl hE => ?_) ?_
    · obtain ⟨(f_26 : a.eval (.tmp 26) = .pointer (some ⟨g313, 2, none⟩)), -⟩ := hf
      exact sg_plain rfl rfl (or_field fo23_0 f_26 (by rfl))
    refine steps_cons (fun own a wx hf hsl hE => ?_) ?_
    · obtain ⟨(f_27 : a.eval (.tmp 27) = .pointer (some ⟨g313, 2, none⟩)), -⟩ := hf
      exact sg_plain rfl rfl (or_load1 to3 f_27 (Blk.at_ (BlkO.evo (by decide) hE b331_g313).2 2 rfl))
    refine steps_cons (fun own a wx hf hsl hE => ?_) ?_
    · obtain ⟨(f_21 : a.eval (.tmp 21) = .int .i64 r327), (f_22 : a.eval (.tmp 22) = .int .i64 buffer2), (f_25 : a.eval (.tmp 25) = .int .i64 b3.1.1), (f_28 : a.eval (.tmp 28) = .int .i64 b3.2.1), -⟩ := hf
      exact sg_plain rfl rfl (or_call cf36 (args4 f_21 f_22 f_25 f_28) (window_shown_w _ r327 buffer2 b3.1.1 b3.2.1  () rfl) (post_mems (m := (fun _ => 0)) (m' := (look0 [(1, 337), (2, 338), (3, 339), (4, 340)])) (fun _ _ => .inl rfl) (fun own' w' a' x h1 h => ⟨x, h1, ⟨BlkO.back_ h.1 (by decide), BlkO.back_ h.2.1 (by decide), BlkO.back_ h.2.2.1 (by decide), BlkO.back_ h.2.2.2 (by decide)⟩⟩)))
    exact steps_nil
  intro own341 a341 w341 hd341 hz341 hk341 hf341 hE341
  have e341_3 : a341.eval (.tmp 3) = .pointer (some ⟨g309, 0, none⟩) := (hk341 3 rfl).trans e331_3
  have e341_4 : a341.eval (.tmp 4) = .pointer (some ⟨g311, 0, none⟩) := (hk341 4 rfl).trans e331_4
  have e341_5 : a341.eval (.tmp 5) = .pointer (some ⟨g313, 0, none⟩) := (hk341 5 rfl).trans e331_5
  have e341_7 : a341.eval (.tmp 7) = .pointer (some ⟨g324, 0, none⟩) := (hk341 7 rfl).trans e331_7
  have e341_8 : a341.eval (.tmp 8) = .pointer (some ⟨g328, 0, none⟩) := (hk341 8 rfl).trans e331_8
  obtain ⟨⟨⟨⟨A333, cA333⟩, ⟨A334, cA334⟩, ⟨A335, cA335⟩, ⟨A336, cA336⟩⟩, (f_29 : a341.eval (.tmp 29) = .func (.func 45) #[] #[.pointer (some ⟨cA333, 0, none⟩), .pointer (some ⟨cA334, 0, none⟩), .pointer (some ⟨cA335, 0, none⟩), .pointer (some ⟨cA336, 0, none⟩)]), (b_cA333 : BlkO own341 337 w341 cA333 3 #[.int .i64 r327]), (b_cA334 : BlkO own341 338 w341 cA334 3 #[.int .i64 b3.2.1]), (b_cA335 : BlkO own341 339 w341 cA335 3 #[.int .i64 buffer2]), (b_cA336 : BlkO own341 340 w341 cA336 3 #[.int .i64 b3.1.1])⟩, -⟩ := hf341 [8] rfl
  have e341_29 := f_29
  have hX341 := Evo.step hX331 (fun _ => Nat.le_refl 0) hE341 rfl
  have b341_mk := MkO.evo (by decide) hE341 b331_mk
  have b341_g309 := BlkO.evo (by decide) hE341 b331_g309
  have b341_g311 := BlkO.evo (by decide) hE341 b331_g311
  have b341_g313 := BlkO.evo (by decide) hE341 b331_g313
  have b341_g324 := BlkO.evo (by decide) hE341 b331_g324
  have b341_g328 := BlkO.evo (by decide) hE341 b331_g328
  have b341_cA333 := b_cA333
  have b341_cA334 := b_cA334
  have b341_cA335 := b_cA335
  have b341_cA336 := b_cA336
  refine fl_block (fun Q342 hn342 hx342 hp342 => ?_)
  obtain ⟨zz517, hzz517, hs⟩ := rngO_some hs
  refine fl_range (S := List (Int × Int × Int)) (D := Empty) (X := Int) (encs := (fun (x : Int) => #[.int .i64 x])) (n := 49) [325, 376, 524, 583, 601, 603] 518 11 rfl
      (fun (out430 : List (Int × Int × Int)) (ox : Own) (wx : World) => ∃ (A428 : Option Addr) (c429 : Nat), Evo [] (fun _ => 0) ox w wx ∧ BlkO ox 310 wx g309 3 #[.int .i64 z1] ∧ BlkO ox 312 wx g311 3 #[.int .i64 buffer2] ∧ BlkO ox 314 wx g313 25 #[.int .i64 b3.1.1, .int .i64 b3.1.2, .int .i64 b3.2.1, .int .i64 b3.2.2] ∧ BlkO ox 325 wx g324 35 #[.slice A428 out430.length c429] ∧ RwO ox 376 [] wx 27 R27 A428 c429 out430 ∧ BlkO ox 330 wx g328 3 #[.int .i64 r327] ∧ BlkO ox 337 wx cA333 3 #[.int .i64 r327] ∧ BlkO ox 338 wx cA334 3 #[.int .i64 b3.2.1] ∧ BlkO ox 339 wx cA335 3 #[.int .i64 buffer2] ∧ BlkO ox 340 wx cA336 3 #[.int .i64 b3.1.1])
      (fun (e : Empty) (_ : Own) (_ : World) => nomatch e)
      (fun (e : Empty) => nomatch e) (fun (sr : List (Int × Int × Int)) (xr : Int) => window_Shown_b3 z1 buffer2 b3 r327 sr xr) hz341 rfl e341_29 cf45 (cargs := fun l => #[.func (.yield l) #[] #[], .pointer (some ⟨cA333, 0, none⟩), .pointer (some ⟨cA334, 0, none⟩), .pointer (some ⟨cA335, 0, none⟩), .pointer (some ⟨cA336, 0, none⟩)]) (fun _ => by simp) (fun _ => rfl) hd341 b341_mk ?_ ?_ ([] : List (Int × Int × Int)) zz517 ⟨none, 0, hX341, b341_g309, b341_g311, b341_g313, b341_g324, RwO.nil_, b341_g328, b341_cA333, b341_cA334, b341_cA335, b341_cA336⟩ ?_ ?_ ?_ ?_
  · rintro out430 ox ox1 wx wx1 hEs ⟨A428, c429, h517_0, h517_1, h517_2, h517_3, h517_4, h517_5, h517_6, h517_7, h517_8, h517_9, h517_10⟩
    exact ⟨A428, c429, (Evo.step h517_0 (fun _ => Nat.le_refl 0) hEs rfl), (BlkO.evo (by decide) hEs h517_1), (BlkO.evo (by decide) hEs h517_2), (BlkO.evo (by decide) hEs h517_3), (BlkO.evo (by decide) hEs h517_4), (RwO.evo rfl hEs h517_5), (BlkO.evo (by decide) hEs h517_6), (BlkO.evo (by decide) hEs h517_7), (BlkO.evo (by decide) hEs h517_8), (BlkO.evo (by decide) hEs h517_9), (BlkO.evo (by decide) hEs h517_10)⟩
  · intro e; exact nomatch e
  · intro l517 own1 w1 J517 hE1 hJ1 hR1
    exact (window_shown_1_w w1 (forth own1 (look0 (kj 518 [325, 376, 524, 583, 601, 603]))) ((List (Int × Int × Int)) ⊕ Empty) (yb (fun (sr : List (Int × Int × Int)) (xr : Int) => window_Shown_b3 z1 buffer2 b3 r327 sr xr)) J517 l517 (Sum.inl ([] : List (Int × Int × Int))) r327 cA333 3 b3.2.1 cA334 3 buffer2 cA335 3 b3.1.1 cA336 3 (look0_le rfl) hR1 hJ1 (BlkO.forth_ (BlkO.evo (by decide) hE1 b341_cA333)) (BlkO.forth_ (BlkO.evo (by decide) hE1 b341_cA334)) (BlkO.forth_ (BlkO.evo (by decide) hE1 b341_cA335)) (BlkO.forth_ (BlkO.evo (by decide) hE1 b341_cA336)) zz517 hzz517).mono fun e wz ⟨oz, he, _, hJz⟩ => ⟨_, oz, he, hJz⟩
  · rintro l521 out430 x520 zz2 own521 a521 w521 Ds521 ⟨A428, c429, hE522, b522_g309, b522_g311, b522_g313, b522_g324, b522_A428, b522_g328, b522_cA333, b522_cA334, b522_cA335, b522_cA336⟩ - hrc521 hs ⟨hd521, hz521, hkp521, hpar521⟩ Q521 hn521
    have hs : window_Shown_b3 z1 buffer2 b3 r327 out430 x520 = some zz2 := hs
    replace hz521 := hz521.trans hz341
    have e521_3 : a521.eval (.tmp 3) = .pointer (some ⟨g309, 0, none⟩) := (hkp521 3 rfl).trans e341_3
    have e521_4 : a521.eval (.tmp 4) = .pointer (some ⟨g311, 0, none⟩) := (hkp521 4 rfl).trans e341_4
    have e521_5 : a521.eval (.tmp 5) = .pointer (some ⟨g313, 0, none⟩) := (hkp521 5 rfl).trans e341_5
    have e521_7 : a521.eval (.tmp 7) = .pointer (some ⟨g324, 0, none⟩) := (hkp521 7 rfl).trans e341_7
    have e521_8 : a521.eval (.tmp 8) = .pointer (some ⟨g328, 0, none⟩) := (hkp521 8 rfl).trans e341_8
    have e521_29 : a521.eval (.tmp 29) = .func (.func 45) #[] #[.pointer (some ⟨cA333, 0, none⟩), .pointer (some ⟨cA334, 0, none⟩), .pointer (some ⟨cA335, 0, none⟩), .pointer (some ⟨cA336, 0, none⟩)] := (hkp521 29 rfl).trans e341_29
    have e521_30 : a521.eval (.tmp 30) = .int .i64 x520 := hpar521 0 30 _ rfl rfl
    have hE521 := Evo.refl [325, 376, 524, 583, 601, 603] own521 w521
    have hrc0_521 := hrc521
    refine rg_plain (n := 49) (rs := []) (own0 := own521) (K := [524])
        (bs := [0, 1])
        (ds := [⟨[], [], [], Fct.blk 524 9 (fun g => .pointer (some ⟨g, 0, none⟩)) 3 #[.int .i64 0]⟩,
        ⟨[0], [30], [524], Fct.blk 525 9 (fun g => .pointer (some ⟨g, 0, none⟩)) 3 #[.int .i64 x520]⟩]) (by kernel_rfl) hz521 hd521 (fun _ h => nomatch h) ?_ ?_
    · refine steps_cons (fun own a wx hf hsl hE => ?_) ?_
      · exact sg_plain rfl rfl (or_new [] rfl rfl trivial (by kernel_rfl))
      refine steps_cons (fun own a wx hf hsl hE => ?_) ?_
      · obtain ⟨⟨g523, (f_9 : a.eval (.tmp 9) = .pointer (some ⟨g523, 0, none⟩)), (b_g523 : BlkO own 524 wx g523 3 #[.int .i64 0])⟩, -⟩ := hf
        obtain ⟨s_30, -⟩ := hsl
        exact sg_plain rfl rfl (or_store1 (lab := 524) (lab2 := 525) ts3 f_9 (s_30.trans e521_30) b_g523 (by simp) rfl (mem_of rfl) (by decide) rfl (fun own' a' w' ha hb => ⟨_, (ha 9).trans f_9, hb⟩))
      exact steps_nil
    intro own526 a526 w526 hd526 hz526 hk526 hf526 hE526
    have e526_3 : a526.eval (.tmp 3) = .pointer (some ⟨g309, 0, none⟩) := (hk526 3 rfl).trans e521_3
    have e526_4 : a526.eval (.tmp 4) = .pointer (some ⟨g311, 0, none⟩) := (hk526 4 rfl).trans e521_4
    have e526_5 : a526.eval (.tmp 5) = .pointer (some ⟨g313, 0, none⟩) := (hk526 5 rfl).trans e521_5
    have e526_7 : a526.eval (.tmp 7) = .pointer (some ⟨g324, 0, none⟩) := (hk526 7 rfl).trans e521_7
    have e526_8 : a526.eval (.tmp 8) = .pointer (some ⟨g328, 0, none⟩) := (hk526 8 rfl).trans e521_8
    have e526_29 : a526.eval (.tmp 29) = .func (.func 45) #[] #[.pointer (some ⟨cA333, 0, none⟩), .pointer (some ⟨cA334, 0, none⟩), .pointer (some ⟨cA335, 0, none⟩), .pointer (some ⟨cA336, 0, none⟩)] := (hk526 29 rfl).trans e521_29
    obtain ⟨⟨g523, (f_9 : a526.eval (.tmp 9) = .pointer (some ⟨g523, 0, none⟩)), (b_g523 : BlkO own526 525 w526 g523 3 #[.int .i64 x520])⟩, -⟩ := hf526 [1] rfl
    have e526_9 := f_9
    have hX526 := Evo.stepK hE521 hE526 rfl
    have b526_g309 := BlkO.evo (by decide) hE526 b522_g309
    have b526_g311 := BlkO.evo (by decide) hE526 b522_g311
    have b526_g313 := BlkO.evo (by decide) hE526 b522_g313
    have b526_g324 := BlkO.evo (by decide) hE526 b522_g324
    have b526_A428 := RwO.evo rfl hE526 b522_A428
    have b526_g328 := BlkO.evo (by decide) hE526 b522_g328
    have b526_cA333 := BlkO.evo (by decide) hE526 b522_cA333
    have b526_cA334 := BlkO.evo (by decide) hE526 b522_cA334
    have b526_cA335 := BlkO.evo (by decide) hE526 b522_cA335
    have b526_cA336 := BlkO.evo (by decide) hE526 b522_cA336
    have b526_g523 := b_g523
    refine hn521 _ _ _ hX526 (fun w527 own527 hE527 hrc527 => ?_)
    have b527_g309 := BlkO.evo (by decide) hE527 b526_g309
    have b527_g311 := BlkO.evo (by decide) hE527 b526_g311
    have b527_g313 := BlkO.evo (by decide) hE527 b526_g313
    have b527_g324 := BlkO.evo (by decide) hE527 b526_g324
    have b527_A428 := RwO.evo rfl hE527 b526_A428
    have b527_g328 := BlkO.evo (by decide) hE527 b526_g328
    have b527_cA333 := BlkO.evo (by decide) hE527 b526_cA333
    have b527_cA334 := BlkO.evo (by decide) hE527 b526_cA334
    have b527_cA335 := BlkO.evo (by decide) hE527 b526_cA335
    have b527_cA336 := BlkO.evo (by decide) hE527 b526_cA336
    have b527_g523 := BlkO.evo (by decide) hE527 b526_g523
    have hU527 := Evo.step (Evo.step hE522 (fun _ => Nat.le_refl 0) hX526 rfl) (fun _ => Nat.le_refl 0) hE527 rfl
    have hX527 := Evo.refl [325, 376, 524, 583, 601, 603] own527 w527
    have hmk527 : MkO own527 11 w527 [] := MkO.nil_
    refine fl_block (fun Q528 hn528 hx528 hp528 => ?_)
    refine rg_plain_seq (n := 49) (rs := []) (own0 := own527) (K := [])
        (bs := [0, 0, 0, 4, 12, 0, 32, 96, 255])
        (ds := [⟨[], [8], [], Fct.val 31 (.int .i64 r327)⟩,
        ⟨[], [4], [], Fct.val 32 (.int .i64 buffer2)⟩,
        ⟨[], [5], [], Fct.val 33 (.pointer (some ⟨g313, 0, none⟩))⟩,
        ⟨[2], [], [], Fct.val 34 (.pointer (some ⟨g313, 1, none⟩))⟩,
        ⟨[3], [], [], Fct.val 35 (.int .i64 b3.1.2)⟩,
        ⟨[], [5], [], Fct.val 36 (.pointer (some ⟨g313, 2, none⟩))⟩,
        ⟨[5], [], [], Fct.val 37 (.pointer (some ⟨g313, 3, none⟩))⟩,
        ⟨[6], [], [], Fct.val 38 (.int .i64 b3.2.2)⟩,
        ⟨[0, 1, 4, 7], [], [], Fct.mems [533, 534, 535, 536] 39 (fun (x : (Option Addr × Nat) × (Option Addr × Nat) × (Option Addr × Nat) × (Option Addr × Nat)) => .func (.func 45) #[] #[.pointer (some ⟨x.1.2, 0, none⟩), .pointer (some ⟨x.2.1.2, 0, none⟩), .pointer (some ⟨x.2.2.1.2, 0, none⟩), .pointer (some ⟨x.2.2.2.2, 0, none⟩)]) (fun (x : (Option Addr × Nat) × (Option Addr × Nat) × (Option Addr × Nat) × (Option Addr × Nat)) own w => BlkO own 533 w x.1.2 3 #[.int .i64 r327] ∧ BlkO own 534 w x.2.1.2 3 #[.int .i64 b3.2.2] ∧ BlkO own 535 w x.2.2.1.2 3 #[.int .i64 buffer2] ∧ BlkO own 536 w x.2.2.2.2 3 #[.int .i64 b3.1.2]) (fun hk he h => ⟨BlkO.evo (not_hit hk (by decide)) he h.1, BlkO.evo (not_hit hk (by decide)) he h.2.1, BlkO.evo (not_hit hk (by decide)) he h.2.2.1, BlkO.evo (not_hit hk (by decide)) he h.2.2.2⟩)⟩]) (by kernel_rfl) hz526 hd526 (fun _ h => nomatch h) ?_ ?_
    · refine steps_cons (fun own a wx hf hsl hE => ?_) ?_
      · obtain ⟨s_8, -⟩ := hsl
        exact sg_plain rfl rfl (or_load1 to3 (s_8.trans e526_8) (Blk.at_ (BlkO.evo (by decide) hE b527_g328).2 0 rfl))
      refine steps_cons (fun own a wx hf hsl hE => ?_) ?_
      · obtain ⟨s_4, -⟩ := hsl
        exact sg_plain rfl rfl (or_load1 to3 (s_4.trans e526_4) (Blk.at_ (BlkO.evo (by decide) hE b527_g311).2 0 rfl))
      refine steps_cons (fun own a wx hf hsl hE => ?_) ?_
      · obtain ⟨s_5, -⟩ := hsl
        exact sg_plain rfl rfl (or_field fo25_0 (s_5.trans e526_5) (by rfl))
      refine steps_cons (fun own a wx hf hsl hE => ?_) ?_
      · obtain ⟨(f_33 : a.eval (.tmp 33) = .pointer (some ⟨g313, 0, none⟩)), -⟩ := hf
        exact sg_plain rfl rfl (or_field fo23_1 f_33 (by rfl))
      refine steps_cons (fun own a wx hf hsl hE => ?_) ?_
      · obtain ⟨(f_34 : a.eval (.tmp 34) = .pointer (some ⟨g313, 1, none⟩)), -⟩ := hf
        exact sg_plain rfl rfl (or_load1 to3 f_34 (Blk.at_ (BlkO.evo (by decide) hE b527_g313).2 1 rfl))
      refine steps_cons (fun own a wx hf hsl hE => ?_) ?_
      · obtain ⟨s_5, -⟩ := hsl
        exact sg_plain rfl rfl (or_field fo25_1 (s_5.trans e526_5) (by rfl))
      refine steps_cons (fun own a wx hf hsl hE => ?_) ?_
      · obtain ⟨(f_36 : a.eval (.tmp 36) = .pointer (some ⟨g313, 2, none⟩)), -⟩ := hf
        exact sg_plain rfl rfl (or_field fo23_1 f_36 (by rfl))
      refine steps_cons (fun own a wx hf hsl hE => ?_) ?_
      · obtain ⟨(f_37 : a.eval (.tmp 37) = .pointer (some ⟨g313, 3, none⟩)), -⟩ := hf
        exact sg_plain rfl rfl (or_load1 to3 f_37 (Blk.at_ (BlkO.evo (by decide) hE b527_g313).2 3 rfl))
      refine steps_cons (fun own a wx hf hsl hE => ?_) ?_
      · obtain ⟨(f_31 : a.eval (.tmp 31) = .int .i64 r327), (f_32 : a.eval (.tmp 32) = .int .i64 buffer2), (f_35 : a.eval (.tmp 35) = .int .i64 b3.1.2), (f_38 : a.eval (.tmp 38) = .int .i64 b3.2.2), -⟩ := hf
        exact sg_plain rfl rfl (or_call cf36 (args4 f_31 f_32 f_35 f_38) (window_shown_w _ r327 buffer2 b3.1.2 b3.2.2  () rfl) (post_mems (m := (fun _ => 0)) (m' := (look0 [(1, 533), (2, 534), (3, 535), (4, 536)])) (fun _ _ => .inl rfl) (fun own' w' a' x h1 h => ⟨x, h1, ⟨BlkO.back_ h.1 (by decide), BlkO.back_ h.2.1 (by decide), BlkO.back_ h.2.2.1 (by decide), BlkO.back_ h.2.2.2 (by decide)⟩⟩)))
      exact steps_nil
    intro own537 a537 w537 hd537 hz537 hk537 hf537 hE537
    have e537_3 : a537.eval (.tmp 3) = .pointer (some ⟨g309, 0, none⟩) := (hk537 3 rfl).trans e526_3
    have e537_4 : a537.eval (.tmp 4) = .pointer (some ⟨g311, 0, none⟩) := (hk537 4 rfl).trans e526_4
    have e537_5 : a537.eval (.tmp 5) = .pointer (some ⟨g313, 0, none⟩) := (hk537 5 rfl).trans e526_5
    have e537_7 : a537.eval (.tmp 7) = .pointer (some ⟨g324, 0, none⟩) := (hk537 7 rfl).trans e526_7
    have e537_8 : a537.eval (.tmp 8) = .pointer (some ⟨g328, 0, none⟩) := (hk537 8 rfl).trans e526_8
    have e537_9 : a537.eval (.tmp 9) = .pointer (some ⟨g523, 0, none⟩) := (hk537 9 rfl).trans e526_9
    have e537_29 : a537.eval (.tmp 29) = .func (.func 45) #[] #[.pointer (some ⟨cA333, 0, none⟩), .pointer (some ⟨cA334, 0, none⟩), .pointer (some ⟨cA335, 0, none⟩), .pointer (some ⟨cA336, 0, none⟩)] := (hk537 29 rfl).trans e526_29
    obtain ⟨⟨⟨⟨A529, cA529⟩, ⟨A530, cA530⟩, ⟨A531, cA531⟩, ⟨A532, cA532⟩⟩, (f_39 : a537.eval (.tmp 39) = .func (.func 45) #[] #[.pointer (some ⟨cA529, 0, none⟩), .pointer (some ⟨cA530, 0, none⟩), .pointer (some ⟨cA531, 0, none⟩), .pointer (some ⟨cA532, 0, none⟩)]), (b_cA529 : BlkO own537 533 w537 cA529 3 #[.int .i64 r327]), (b_cA530 : BlkO own537 534 w537 cA530 3 #[.int .i64 b3.2.2]), (b_cA531 : BlkO own537 535 w537 cA531 3 #[.int .i64 buffer2]), (b_cA532 : BlkO own537 536 w537 cA532 3 #[.int .i64 b3.1.2])⟩, -⟩ := hf537 [8] rfl
    have e537_39 := f_39
    have hX537 := Evo.stepK hX527 hE537 rfl
    have b537_g309 := BlkO.evo (by decide) hE537 b527_g309
    have b537_g311 := BlkO.evo (by decide) hE537 b527_g311
    have b537_g313 := BlkO.evo (by decide) hE537 b527_g313
    have b537_g324 := BlkO.evo (by decide) hE537 b527_g324
    have b537_A428 := RwO.evo rfl hE537 b527_A428
    have b537_g328 := BlkO.evo (by decide) hE537 b527_g328
    have b537_cA333 := BlkO.evo (by decide) hE537 b527_cA333
    have b537_cA334 := BlkO.evo (by decide) hE537 b527_cA334
    have b537_cA335 := BlkO.evo (by decide) hE537 b527_cA335
    have b537_cA336 := BlkO.evo (by decide) hE537 b527_cA336
    have b537_g523 := BlkO.evo (by decide) hE537 b527_g523
    have b537_rc := RcO.evo (by decide) hE537 hrc527
    have b537_mk := MkO.evo (by decide) hE537 hmk527
    have b537_cA529 := b_cA529
    have b537_cA530 := b_cA530
    have b537_cA531 := b_cA531
    have b537_cA532 := b_cA532
    refine fl_block (fun Q538 hn538 hx538 hp538 => ?_)
    obtain ⟨zz582, hzz582, hs⟩ := rngO_some hs
    refine fl_rangeN (S := List (Int × Int × Int)) (D := Empty) (X := Int) (encs := (fun (x : Int) => #[.int .i64 x])) (n := 49) b537_rc [325, 376, 601, 603] 583 11 rfl
        (fun (out561 : List (Int × Int × Int)) (ox : Own) (wx : World) => ∃ (A559 : Option Addr) (c560 : Nat), Evo [325, 376, 524, 583, 601, 603] own527 ox w527 wx ∧ BlkO ox 310 wx g309 3 #[.int .i64 z1] ∧ BlkO ox 312 wx g311 3 #[.int .i64 buffer2] ∧ BlkO ox 314 wx g313 25 #[.int .i64 b3.1.1, .int .i64 b3.1.2, .int .i64 b3.2.1, .int .i64 b3.2.2] ∧ BlkO ox 325 wx g324 35 #[.slice A559 out561.length c560] ∧ RwO ox 376 [] wx 27 R27 A559 c560 out561 ∧ BlkO ox 330 wx g328 3 #[.int .i64 r327] ∧ BlkO ox 525 wx g523 3 #[.int .i64 x520] ∧ BlkO ox 337 wx cA333 3 #[.int .i64 r327] ∧ BlkO ox 338 wx cA334 3 #[.int .i64 b3.2.1] ∧ BlkO ox 339 wx cA335 3 #[.int .i64 buffer2] ∧ BlkO ox 340 wx cA336 3 #[.int .i64 b3.1.1] ∧ BlkO ox 533 wx cA529 3 #[.int .i64 r327] ∧ BlkO ox 534 wx cA530 3 #[.int .i64 b3.2.2] ∧ BlkO ox 535 wx cA531 3 #[.int .i64 buffer2] ∧ BlkO ox 536 wx cA532 3 #[.int .i64 b3.1.2] ∧ RcO ox 518 wx l521)
        (fun (e : Empty) (_ : Own) (_ : World) => nomatch e)
        (fun (e : Empty) => nomatch e) (fun (sr : List (Int × Int × Int)) (xr : Int) => window_Shown_b1 z1 x520 sr xr) hz537 rfl e537_39 cf45 (cargs := fun l => #[.func (.yield l) #[] #[], .pointer (some ⟨cA529, 0, none⟩), .pointer (some ⟨cA530, 0, none⟩), .pointer (some ⟨cA531, 0, none⟩), .pointer (some ⟨cA532, 0, none⟩)]) (fun _ => by simp) (fun _ => rfl) hd537 b537_mk ?_ ?_ out430 zz582 ⟨A428, c429, hX537, b537_g309, b537_g311, b537_g313, b537_g324, b537_A428, b537_g328, b537_g523, b537_cA333, b537_cA334, b537_cA335, b537_cA336, b537_cA529, b537_cA530, b537_cA531, b537_cA532, b537_rc⟩ ?_ ?_ ?_ ?_
    · rintro out561 ox ox1 wx wx1 hEs ⟨A559, c560, h582_0, h582_1, h582_2, h582_3, h582_4, h582_5, h582_6, h582_7, h582_8, h582_9, h582_10, h582_11, h582_12, h582_13, h582_14, h582_15, h582_16⟩
      exact ⟨A559, c560, (Evo.stepK h582_0 hEs rfl), (BlkO.evo (by decide) hEs h582_1), (BlkO.evo (by decide) hEs h582_2), (BlkO.evo (by decide) hEs h582_3), (BlkO.evo (by decide) hEs h582_4), (RwO.evo rfl hEs h582_5), (BlkO.evo (by decide) hEs h582_6), (BlkO.evo (by decide) hEs h582_7), (BlkO.evo (by decide) hEs h582_8), (BlkO.evo (by decide) hEs h582_9), (BlkO.evo (by decide) hEs h582_10), (BlkO.evo (by decide) hEs h582_11), (BlkO.evo (by decide) hEs h582_12), (BlkO.evo (by decide) hEs h582_13), (BlkO.evo (by decide) hEs h582_14), (BlkO.evo (by decide) hEs h582_15), (RcO.evo (by decide) hEs h582_16)⟩
    · intro e; exact nomatch e
    · intro l582 own1 w1 J582 hE1 hJ1 hR1
      exact (window_shown_1_w w1 (forth own1 (look0 (kj 583 [325, 376, 601, 603]))) ((List (Int × Int × Int)) ⊕ Empty) (yb (fun (sr : List (Int × Int × Int)) (xr : Int) => window_Shown_b1 z1 x520 sr xr)) J582 l582 (Sum.inl out430) r327 cA529 3 b3.2.2 cA530 3 buffer2 cA531 3 b3.1.2 cA532 3 (look0_le rfl) hR1 hJ1 (BlkO.forth_ (BlkO.evo (by decide) hE1 b537_cA529)) (BlkO.forth_ (BlkO.evo (by decide) hE1 b537_cA530)) (BlkO.forth_ (BlkO.evo (by decide) hE1 b537_cA531)) (BlkO.forth_ (BlkO.evo (by decide) hE1 b537_cA532)) zz582 hzz582).mono fun e wz ⟨oz, he, _, hJz⟩ => ⟨_, oz, he, hJz⟩
    · rintro l586 out561 x585 zz2 own586 a586 w586 Ds586 ⟨A559, c560, hE587, b587_g309, b587_g311, b587_g313, b587_g324, b587_A559, b587_g328, b587_g523, b587_cA333, b587_cA334, b587_cA335, b587_cA336, b587_cA529, b587_cA530, b587_cA531, b587_cA532, b587_rc⟩ - hrc586 hs ⟨hd586, hz586, hkp586, hpar586⟩ Q586 hn586
      have hs : window_Shown_b1 z1 x520 out561 x585 = some zz2 := hs
      replace hz586 := hz586.trans hz537
      have e586_3 : a586.eval (.tmp 3) = .pointer (some ⟨g309, 0, none⟩) := (hkp586 3 rfl).trans e537_3
      have e586_4 : a586.eval (.tmp 4) = .pointer (some ⟨g311, 0, none⟩) := (hkp586 4 rfl).trans e537_4
      have e586_5 : a586.eval (.tmp 5) = .pointer (some ⟨g313, 0, none⟩) := (hkp586 5 rfl).trans e537_5
      have e586_7 : a586.eval (.tmp 7) = .pointer (some ⟨g324, 0, none⟩) := (hkp586 7 rfl).trans e537_7
      have e586_8 : a586.eval (.tmp 8) = .pointer (some ⟨g328, 0, none⟩) := (hkp586 8 rfl).trans e537_8
      have e586_9 : a586.eval (.tmp 9) = .pointer (some ⟨g523, 0, none⟩) := (hkp586 9 rfl).trans e537_9
      have e586_29 : a586.eval (.tmp 29) = .func (.func 45) #[] #[.pointer (some ⟨cA333, 0, none⟩), .pointer (some ⟨cA334, 0, none⟩), .pointer (some ⟨cA335, 0, none⟩), .pointer (some ⟨cA336, 0, none⟩)] := (hkp586 29 rfl).trans e537_29
      have e586_39 : a586.eval (.tmp 39) = .func (.func 45) #[] #[.pointer (some ⟨cA529, 0, none⟩), .pointer (some ⟨cA530, 0, none⟩), .pointer (some ⟨cA531, 0, none⟩), .pointer (some ⟨cA532, 0, none⟩)] := (hkp586 39 rfl).trans e537_39
      have e586_40 : a586.eval (.tmp 40) = .int .i64 x585 := hpar586 0 40 _ rfl rfl
      have hE586 := Evo.refl [325, 376, 601, 603] own586 w586
      have hrc0_586 := hrc586
      refine rg_plain (n := 49) (rs := []) (own0 := own586) (K := [])
          (bs := [0])
          (ds := [⟨[], [40], [], Fct.val 10 (.int .i64 x585)⟩]) (by kernel_rfl) hz586 hd586 (fun _ h => nomatch h) ?_ ?_
      · refine steps_cons (fun own a wx hf hsl hE => ?_) ?_
        · obtain ⟨s_40, -⟩ := hsl
          exact sg_plain rfl rfl (or_assign (s_40.trans e586_40))
        exact steps_nil
      intro own588 a588 w588 hd588 hz588 hk588 hf588 hE588
      have e588_3 : a588.eval (.tmp 3) = .pointer (some ⟨g309, 0, none⟩) := (hk588 3 rfl).trans e586_3
      have e588_4 : a588.eval (.tmp 4) = .pointer (some ⟨g311, 0, none⟩) := (hk588 4 rfl).trans e586_4
      have e588_5 : a588.eval (.tmp 5) = .pointer (some ⟨g313, 0, none⟩) := (hk588 5 rfl).trans e586_5
      have e588_7 : a588.eval (.tmp 7) = .pointer (some ⟨g324, 0, none⟩) := (hk588 7 rfl).trans e586_7
      have e588_8 : a588.eval (.tmp 8) = .pointer (some ⟨g328, 0, none⟩) := (hk588 8 rfl).trans e586_8
      have e588_9 : a588.eval (.tmp 9) = .pointer (some ⟨g523, 0, none⟩) := (hk588 9 rfl).trans e586_9
      have e588_29 : a588.eval (.tmp 29) = .func (.func 45) #[] #[.pointer (some ⟨cA333, 0, none⟩), .pointer (some ⟨cA334, 0, none⟩), .pointer (some ⟨cA335, 0, none⟩), .pointer (some ⟨cA336, 0, none⟩)] := (hk588 29 rfl).trans e586_29
      have e588_39 : a588.eval (.tmp 39) = .func (.func 45) #[] #[.pointer (some ⟨cA529, 0, none⟩), .pointer (some ⟨cA530, 0, none⟩), .pointer (some ⟨cA531, 0, none⟩), .pointer (some ⟨cA532, 0, none⟩)] := (hk588 39 rfl).trans e586_39
      obtain ⟨(f_10 : a588.eval (.tmp 10) = .int .i64 x585), -⟩ := hf588 [0] rfl
      have e588_10 := f_10
      have hX588 := Evo.stepK hE586 hE588 rfl
      have b588_g309 := BlkO.evo (by decide) hE588 b587_g309
      have b588_g311 := BlkO.evo (by decide) hE588 b587_g311
      have b588_g313 := BlkO.evo (by decide) hE588 b587_g313
      have b588_g324 := BlkO.evo (by decide) hE588 b587_g324
      have b588_A559 := RwO.evo rfl hE588 b587_A559
      have b588_g328 := BlkO.evo (by decide) hE588 b587_g328
      have b588_g523 := BlkO.evo (by decide) hE588 b587_g523
      have b588_cA333 := BlkO.evo (by decide) hE588 b587_cA333
      have b588_cA334 := BlkO.evo (by decide) hE588 b587_cA334
      have b588_cA335 := BlkO.evo (by decide) hE588 b587_cA335
      have b588_cA336 := BlkO.evo (by decide) hE588 b587_cA336
      have b588_cA529 := BlkO.evo (by decide) hE588 b587_cA529
      have b588_cA530 := BlkO.evo (by decide) hE588 b587_cA530
      have b588_cA531 := BlkO.evo (by decide) hE588 b587_cA531
      have b588_cA532 := BlkO.evo (by decide) hE588 b587_cA532
      have b588_rc := RcO.evo (by decide) hE588 b587_rc
      refine hn586 _ _ _ hX588 (fun w589 own589 hE589 hrc589 => ?_)
      have b589_g309 := BlkO.evo (by decide) hE589 b588_g309
      have b589_g311 := BlkO.evo (by decide) hE589 b588_g311
      have b589_g313 := BlkO.evo (by decide) hE589 b588_g313
      have b589_g324 := BlkO.evo (by decide) hE589 b588_g324
      have b589_A559 := RwO.evo rfl hE589 b588_A559
      have b589_g328 := BlkO.evo (by decide) hE589 b588_g328
      have b589_g523 := BlkO.evo (by decide) hE589 b588_g523
      have b589_cA333 := BlkO.evo (by decide) hE589 b588_cA333
      have b589_cA334 := BlkO.evo (by decide) hE589 b588_cA334
      have b589_cA335 := BlkO.evo (by decide) hE589 b588_cA335
      have b589_cA336 := BlkO.evo (by decide) hE589 b588_cA336
      have b589_cA529 := BlkO.evo (by decide) hE589 b588_cA529
      have b589_cA530 := BlkO.evo (by decide) hE589 b588_cA530
      have b589_cA531 := BlkO.evo (by decide) hE589 b588_cA531
      have b589_cA532 := BlkO.evo (by decide) hE589 b588_cA532
      have b589_rc := RcO.evo (by decide) hE589 b588_rc
      have hU589 := Evo.stepK (Evo.stepK hE587 hX588 rfl) hE589 rfl
      have hX589 := Evo.refl [325, 376, 601, 603] own589 w589
      have hmk589 : MkO own589 11 w589 [] := MkO.nil_
      refine fl_block (fun Q590 hn590 hx590 hp590 => ?_)
      obtain ⟨x600, hx600, hs⟩ := obind hs
      refine rg_plain (n := 49) (rs := [Fct.rowAt 376 [] 27 R27 A559 c560 out561, Fct.at_ 325 g324 35 #[.slice A559 out561.length c560]]) (own0 := own589) (K := [376, 325])
          (bs := [0, 0, 0, 0, 14, 30, 63, 127])
          (ds := [⟨[9], [7], [], Fct.val 41 (.slice A559 out561.length c560)⟩,
          ⟨[], [3], [], Fct.val 42 (.int .i64 z1)⟩,
          ⟨[], [9], [], Fct.val 43 (.int .i64 x520)⟩,
          ⟨[], [10], [], Fct.val 44 (.int .i64 x585)⟩,
          ⟨[1, 2, 3], [], [], Fct.val 45 (.agg #[.int .i64 z1, .int .i64 x520, .int .i64 x585])⟩,
          ⟨[4], [], [], Fct.row 599 [] 46 27 R27 [(z1, x520, x585)]⟩,
          ⟨[0, 5, 8], [], [376], Fct.row 601 [] 47 27 R27 x600⟩,
          ⟨[6, 9], [7], [325], Fct.by_ [603] [47] (fun l own w => ∀ (A602 : Option Addr) (cA602 : Nat), l.getD 0 undef = .slice A602 x600.length cA602 → BlkO own 603 w g324 35 #[.slice A602 x600.length cA602]) (fun hk he h _ _ h0' => BlkO.evo (not_hit hk (by decide)) he (h _ _ h0'))⟩]) (by kernel_rfl) hz588 hd588 (by simp only [List.forall_mem_cons]; exact ⟨b589_A559, b589_g324, fun _ h => nomatch h⟩) ?_ ?_
      · refine steps_cons (fun own a wx hf hsl hE => ?_) ?_
        · obtain ⟨(b_g324 : BlkO own 325 wx g324 35 #[.slice A559 out561.length c560]), -⟩ := hf
          obtain ⟨s_7, -⟩ := hsl
          exact sg_plain rfl rfl (or_load1 to35 (s_7.trans e588_7) (Blk.at_ b_g324.2 0 rfl))
        refine steps_cons (fun own a wx hf hsl hE => ?_) ?_
        · obtain ⟨s_3, -⟩ := hsl
          exact sg_plain rfl rfl (or_load1 to3 (s_3.trans e588_3) (Blk.at_ (BlkO.evo (by decide) hE b589_g309).2 0 rfl))
        refine steps_cons (fun own a wx hf hsl hE => ?_) ?_
        · obtain ⟨s_9, -⟩ := hsl
          exact sg_plain rfl rfl (or_load1 to3 (s_9.trans e588_9) (Blk.at_ (BlkO.evo (by decide) hE b589_g523).2 0 rfl))
        refine steps_cons (fun own a wx hf hsl hE => ?_) ?_
        · obtain ⟨s_10, -⟩ := hsl
          exact sg_plain rfl rfl (or_move (s_10.trans e588_10))
        refine steps_cons (fun own a wx hf hsl hE => ?_) ?_
        · obtain ⟨(f_42 : a.eval (.tmp 42) = .int .i64 z1), (f_43 : a.eval (.tmp 43) = .int .i64 x520), (f_44 : a.eval (.tmp 44) = .int .i64 x585), -⟩ := hf
          exact sg_plain rfl rfl (or_k [(42, .int .i64 z1), (43, .int .i64 x520), (44, .int .i64 x585)] rfl rfl ⟨f_42, f_43, f_44, trivial⟩ (by kernel_rfl))
        refine steps_cons (fun own a wx hf hsl hE => ?_) ?_
        · obtain ⟨(f_45 : a.eval (.tmp 45) = .agg #[.int .i64 z1, .int .i64 x520, .int .i64 x585]), -⟩ := hf
          exact sg_plain rfl rfl (or_lit (lab := 599) (e := 27) (cs := #[.int .i64 z1, .int .i64 x520, .int .i64 x585]) (F := E27) (or_new [(45, .agg #[.int .i64 z1, .int .i64 x520, .int .i64 x585])] rfl rfl ⟨f_45, trivial⟩ (by kernel_rfl)) rfl rfl (show 1 ≤ maxLen by decide))
        refine steps_cons (fun own a wx hf hsl hE => ?_) ?_
        · obtain ⟨(f_41 : a.eval (.tmp 41) = .slice A559 out561.length c560), ⟨⟨A598, cA598⟩, (f_46 : a.eval (.tmp 46) = .slice A598 [(z1, x520, x585)].length cA598), (b_A598 : RwO own 599 [] wx 27 R27 A598 cA598 [(z1, x520, x585)])⟩, (b_A559 : RwO own 376 [] wx 27 R27 A559 c560 out561), -⟩ := hf
          exact sg_plain rfl rfl (or_append (R := R27) (lab := 376) (lab2 := 601) (L := []) (L3 := []) tp35 f_41 b_A559 (by decide) f_46 (RwO.rd b_A598) hx600 (by decide) (by decide) (mem_of rfl) (.inl (Rep.fl_flat _)))
        refine steps_cons (fun own a wx hf hsl hE => ?_) ?_
        · obtain ⟨⟨⟨A602, cA602⟩, (f_47 : a.eval (.tmp 47) = .slice A602 x600.length cA602), (b_A602 : RwO own 601 [] wx 27 R27 A602 cA602 x600)⟩, (b_g324 : BlkO own 325 wx g324 35 #[.slice A559 out561.length c560]), -⟩ := hf
          obtain ⟨s_7, -⟩ := hsl
          exact sg_plain rfl rfl (or_store1 (lab := 325) (lab2 := 603) ts35 (s_7.trans e588_7) f_47 b_g324 (by simp) rfl (mem_of rfl) (by decide) rfl (fun own' a' w' ha hb => fun _ _ h0' => by cases (f_47.symm.trans ((ha 47).symm.trans h0')); exact hb))
        exact steps_nil
      intro own604 a604 w604 hd604 hz604 hk604 hf604 hE604
      have e604_3 : a604.eval (.tmp 3) = .pointer (some ⟨g309, 0, none⟩) := (hk604 3 rfl).trans e588_3
      have e604_4 : a604.eval (.tmp 4) = .pointer (some ⟨g311, 0, none⟩) := (hk604 4 rfl).trans e588_4
      have e604_5 : a604.eval (.tmp 5) = .pointer (some ⟨g313, 0, none⟩) := (hk604 5 rfl).trans e588_5
      have e604_7 : a604.eval (.tmp 7) = .pointer (some ⟨g324, 0, none⟩) := (hk604 7 rfl).trans e588_7
      have e604_8 : a604.eval (.tmp 8) = .pointer (some ⟨g328, 0, none⟩) := (hk604 8 rfl).trans e588_8
      have e604_9 : a604.eval (.tmp 9) = .pointer (some ⟨g523, 0, none⟩) := (hk604 9 rfl).trans e588_9
      have e604_29 : a604.eval (.tmp 29) = .func (.func 45) #[] #[.pointer (some ⟨cA333, 0, none⟩), .pointer (some ⟨cA334, 0, none⟩), .pointer (some ⟨cA335, 0, none⟩), .pointer (some ⟨cA336, 0, none⟩)] := (hk604 29 rfl).trans e588_29
      have e604_39 : a604.eval (.tmp 39) = .func (.func 45) #[] #[.pointer (some ⟨cA529, 0, none⟩), .pointer (some ⟨cA530, 0, none⟩), .pointer (some ⟨cA531, 0, none⟩), .pointer (some ⟨cA532, 0, none⟩)] := (hk604 39 rfl).trans e588_39
      obtain ⟨⟨⟨A602, cA602⟩, (f_47 : a604.eval (.tmp 47) = .slice A602 x600.length cA602), (b_A602 : RwO own604 601 [] w604 27 R27 A602 cA602 x600)⟩, (bq_g324 : ∀ (A602 : Option Addr) (cA602 : Nat), a604.eval (.tmp 47) = .slice A602 x600.length cA602 → BlkO own604 603 w604 g324 35 #[.slice A602 x600.length cA602]), -⟩ := hf604 [6, 7] rfl
      have b_g324 := bq_g324 _ _ f_47
      have hX604 := Evo.stepK hX589 hE604 rfl
      have b604_g309 := BlkO.evo (by decide) hE604 b589_g309
      have b604_g311 := BlkO.evo (by decide) hE604 b589_g311
      have b604_g313 := BlkO.evo (by decide) hE604 b589_g313
      have b604_g328 := BlkO.evo (by decide) hE604 b589_g328
      have b604_g523 := BlkO.evo (by decide) hE604 b589_g523
      have b604_cA333 := BlkO.evo (by decide) hE604 b589_cA333
      have b604_cA334 := BlkO.evo (by decide) hE604 b589_cA334
      have b604_cA335 := BlkO.evo (by decide) hE604 b589_cA335
      have b604_cA336 := BlkO.evo (by decide) hE604 b589_cA336
      have b604_cA529 := BlkO.evo (by decide) hE604 b589_cA529
      have b604_cA530 := BlkO.evo (by decide) hE604 b589_cA530
      have b604_cA531 := BlkO.evo (by decide) hE604 b589_cA531
      have b604_cA532 := BlkO.evo (by decide) hE604 b589_cA532
      have b604_rc := RcO.evo (by decide) hE604 hrc589
      have b604_rc0 := RcO.evo (by decide) hE604 b589_rc
      have b604_mk := MkO.evo (by decide) hE604 hmk589
      have b604_g324 := b_g324
      have b604_A602 := b_A602
      refine hn590 _ _ ?_
      exact ⟨_, (rl [(601, 376), (603, 325)] own604), osome hs, (Evo.rlK hX604 rfl), A602, cA602, (Evo.stepK hU589 (Evo.rlK hX604 rfl) rfl), (BlkO.rl_ (mm := [(601, 376), (603, 325)]) b604_g309), (BlkO.rl_ (mm := [(601, 376), (603, 325)]) b604_g311), (BlkO.rl_ (mm := [(601, 376), (603, 325)]) b604_g313), (BlkO.rl_ (mm := [(601, 376), (603, 325)]) b604_g324), (RwO.rl_ (mm := [(601, 376), (603, 325)]) b604_A602), (BlkO.rl_ (mm := [(601, 376), (603, 325)]) b604_g328), (BlkO.rl_ (mm := [(601, 376), (603, 325)]) b604_g523), (BlkO.rl_ (mm := [(601, 376), (603, 325)]) b604_cA333), (BlkO.rl_ (mm := [(601, 376), (603, 325)]) b604_cA334), (BlkO.rl_ (mm := [(601, 376), (603, 325)]) b604_cA335), (BlkO.rl_ (mm := [(601, 376), (603, 325)]) b604_cA336), (BlkO.rl_ (mm := [(601, 376), (603, 325)]) b604_cA529), (BlkO.rl_ (mm := [(601, 376), (603, 325)]) b604_cA530), (BlkO.rl_ (mm := [(601, 376), (603, 325)]) b604_cA531), (BlkO.rl_ (mm := [(601, 376), (603, 325)]) b604_cA532), (RcO.rl_ (mm := [(601, 376), (603, 325)]) b604_rc0)⟩
    · rintro out561 a605 own605 w605 Ds605 hzz605 hd605 hz605 hkp605 hmk605 ⟨A559, c560, hE605, b605_g309, b605_g311, b605_g313, b605_g324, b605_A559, b605_g328, b605_g523, b605_cA333, b605_cA334, b605_cA335, b605_cA336, b605_cA529, b605_cA530, b605_cA531, b605_cA532, b605_rc⟩
      subst hzz605
      have hs : window_Shown_b2 out561 = some zz2 := hs
      have e605_3 : a605.eval (.tmp 3) = .pointer (some ⟨g309, 0, none⟩) := (hkp605 3).trans e537_3
      have e605_4 : a605.eval (.tmp 4) = .pointer (some ⟨g311, 0, none⟩) := (hkp605 4).trans e537_4
      have e605_5 : a605.eval (.tmp 5) = .pointer (some ⟨g313, 0, none⟩) := (hkp605 5).trans e537_5
      have e605_7 : a605.eval (.tmp 7) = .pointer (some ⟨g324, 0, none⟩) := (hkp605 7).trans e537_7
      have e605_8 : a605.eval (.tmp 8) = .pointer (some ⟨g328, 0, none⟩) := (hkp605 8).trans e537_8
      have e605_9 : a605.eval (.tmp 9) = .pointer (some ⟨g523, 0, none⟩) := (hkp605 9).trans e537_9
      have e605_29 : a605.eval (.tmp 29) = .func (.func 45) #[] #[.pointer (some ⟨cA333, 0, none⟩), .pointer (some ⟨cA334, 0, none⟩), .pointer (some ⟨cA335, 0, none⟩), .pointer (some ⟨cA336, 0, none⟩)] := (hkp605 29).trans e537_29
      have e605_39 : a605.eval (.tmp 39) = .func (.func 45) #[] #[.pointer (some ⟨cA529, 0, none⟩), .pointer (some ⟨cA530, 0, none⟩), .pointer (some ⟨cA531, 0, none⟩), .pointer (some ⟨cA532, 0, none⟩)] := (hkp605 39).trans e537_39
      refine hn538 _ _ ?_
      refine hn528 _ _ ?_
      exact ⟨_, own605, osome hs, hE605, A559, c560, (Evo.step hU527 (fun _ => Nat.le_refl 0) hE605 rfl), b605_g309, b605_g311, b605_g313, b605_g324, b605_A559, b605_g328, b605_cA333, b605_cA334, b605_cA335, b605_cA336⟩
    · intro e; exact nomatch e
  · rintro out430 a606 own606 w606 Ds606 hzz606 hd606 hz606 hkp606 hmk606 ⟨A428, c429, hE606, b606_g309, b606_g311, b606_g313, b606_g324, b606_A428, b606_g328, b606_cA333, b606_cA334, b606_cA335, b606_cA336⟩
    subst hzz606
    have hs : window_Shown_b4 out430 = some r := hs
    have e606_3 : a606.eval (.tmp 3) = .pointer (some ⟨g309, 0, none⟩) := (hkp606 3).trans e341_3
    have e606_4 : a606.eval (.tmp 4) = .pointer (some ⟨g311, 0, none⟩) := (hkp606 4).trans e341_4
    have e606_5 : a606.eval (.tmp 5) = .pointer (some ⟨g313, 0, none⟩) := (hkp606 5).trans e341_5
    have e606_7 : a606.eval (.tmp 7) = .pointer (some ⟨g324, 0, none⟩) := (hkp606 7).trans e341_7
    have e606_8 : a606.eval (.tmp 8) = .pointer (some ⟨g328, 0, none⟩) := (hkp606 8).trans e341_8
    have e606_29 : a606.eval (.tmp 29) = .func (.func 45) #[] #[.pointer (some ⟨cA333, 0, none⟩), .pointer (some ⟨cA334, 0, none⟩), .pointer (some ⟨cA335, 0, none⟩), .pointer (some ⟨cA336, 0, none⟩)] := (hkp606 29).trans e341_29
    refine hn342 _ _ ?_
    refine hn332 _ _ ?_
    refine rg_plain_seq (n := 49) (rs := []) (own0 := own606) (K := [])
        (bs := [0, 1])
        (ds := [⟨[], [7], [], Fct.val 48 (.slice A428 out430.length c429)⟩,
        ⟨[0], [], [], Fct.val 6 (.slice A428 out430.length c429)⟩]) (by kernel_rfl) hz606 hd606 (fun _ h => nomatch h) ?_ ?_
    · refine steps_cons (fun own a wx hf hsl hE => ?_) ?_
      · obtain ⟨s_7, -⟩ := hsl
        exact sg_plain rfl rfl (or_load1 to35 (s_7.trans e606_7) (Blk.at_ (BlkO.evo (by decide) hE b606_g324).2 0 rfl))
      refine steps_cons (fun own a wx hf hsl hE => ?_) ?_
      · obtain ⟨(f_48 : a.eval (.tmp 48) = .slice A428 out430.length c429), -⟩ := hf
        exact sg_plain rfl rfl (or_assign f_48)
      exact steps_nil
    intro own607 a607 w607 hd607 hz607 hk607 hf607 hE607
    obtain ⟨(f_6 : a607.eval (.tmp 6) = .slice A428 out430.length c429), -⟩ := hf607 [1] rfl
    have e607_6 := f_6
    have hX607 := Evo.step hE606 (fun _ => Nat.le_refl 0) hE607 rfl
    have b607_A428 := RwO.evo rfl hE607 b606_A428
    have b607_mk := MkO.evo (by decide) hE607 hmk606
    refine fl_ret ?_
    refine hret _ _ _ _ _ (.inl rfl) hd607 b607_mk (fun own608 w608 hE608 => ?_)
    have hX609 := Evo.step hX607 (fun _ => Nat.le_refl 0) hE608 rfl
    have b609_A428 := RwO.evo rfl hE608 b607_A428
    obtain rfl := (osome hs).symm
    exact ⟨_, results1_ rfl (RVal.tmp_ e607_6), ⟨(rl [(376, 1)] own608), (A428, c429), rfl, (Evo.rl_ hX609 (fun _ => Nat.le_refl 0) rfl), (RwO.rl_ (mm := [(376, 1)]) b609_A428)⟩⟩
  · intro e; exact nomatch e

end Go.Proofs.Ytehmjkdgakinbaa
