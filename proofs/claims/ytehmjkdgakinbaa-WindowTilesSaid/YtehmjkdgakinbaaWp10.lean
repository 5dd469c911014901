/-
  Chapter 20. The walks.
-/
import Derived.Test.YtehmjkdgakinbaaWp2
import Derived.Test.YtehmjkdgakinbaaWp3
import Derived.Test.YtehmjkdgakinbaaWp4
import Derived.Test.YtehmjkdgakinbaaWp5
import Derived.Test.YtehmjkdgakinbaaWp6
import Derived.Test.YtehmjkdgakinbaaSp10
namespace Go.Proofs.Ytehmjkdgakinbaa
open Go.RowKit
set_option linter.unusedVariables false
theorem exact_Less_w (w : World) (x1 : Int × Int) (b2 : Int × Int) (r : Bool) (hs : exact_Less x1 b2 = some r) :
    Calls Try.prog 40 #[.agg #[.int .i64 x1.1, .int .i64 x1.2], .agg #[.int .i64 b2.1, .int .i64 b2.2]] w fun e w' => ∃ own' : Own, e = .returned (.bool r) ∧ Evo [] (fun _ => 0) own' w w' := by
  refine fl_enter (n := 24) rfl rfl rfl (Nat.le_of_ble_eq_true rfl) ?_
  intro a0 Q hd0 hz0 harg hret
  have ha0 := harg 0 _ rfl
  have ha1 := harg 1 _ rfl
  clear harg
  have hE0 : Evo [] (fun _ => 0) (fun _ => 0) w w := Evo.refl _ _ _
  refine rg_plain_seq (n := 24) (rs := []) (own0 := (fun _ => 0)) (K := [])
      (bs := [0, 0, 0])
      (ds := [⟨[], [0], [], Fct.blk 19 2 (fun g => .pointer (some ⟨g, 0, none⟩)) 23 #[.int .i64 x1.1, .int .i64 x1.2]⟩,
      ⟨[], [1], [], Fct.blk 21 3 (fun g => .pointer (some ⟨g, 0, none⟩)) 23 #[.int .i64 b2.1, .int .i64 b2.2]⟩,
      ⟨[], [], [], Fct.val 4 (.bool false)⟩]) (by kernel_rfl) hz0 hd0 (fun _ h => nomatch h) ?_ ?_
  · refine steps_cons (fun own a wx hf hsl hE => ?_) ?_
    · obtain ⟨s_0, -⟩ := hsl
      exact sg_plain rfl rfl (or_new [(0, .agg #[.int .i64 x1.1, .int .i64 x1.2])] rfl rfl ⟨(s_0.trans ha0), trivial⟩ (by kernel_rfl))
    refine steps_cons (fun own a wx hf hsl hE => ?_) ?_
    · obtain ⟨s_1, -⟩ := hsl
      exact sg_plain rfl rfl (or_new [(1, .agg #[.int .i64 b2.1, .int .i64 b2.2])] rfl rfl ⟨(s_1.trans ha1), trivial⟩ (by kernel_rfl))
    refine steps_cons (fun own a wx hf hsl hE => ?_) ?_
    · exact sg_plain rfl rfl (or_assign rfl)
    exact steps_nil
  intro own22 a22 w22 hd22 hz22 hk22 hf22 hE22
  obtain ⟨⟨g18, (f_2 : a22.eval (.tmp 2) = .pointer (some ⟨g18, 0, none⟩)), (b_g18 : BlkO own22 19 w22 g18 23 #[.int .i64 x1.1, .int .i64 x1.2])⟩, ⟨g20, (f_3 : a22.eval (.tmp 3) = .pointer (some ⟨g20, 0, none⟩)), (b_g20 : BlkO own22 21 w22 g20 23 #[.int .i64 b2.1, .int .i64 b2.2])⟩, -⟩ := hf22 [0, 1] rfl
  have e22_2 := f_2
  have e22_3 := f_3
  have hX22 := Evo.step hE0 (fun _ => Nat.le_refl 0) hE22 rfl
  have b22_g18 := b_g18
  have b22_g20 := b_g20
  obtain ⟨x23, hx23, hs⟩ := obind hs
  refine rg_plain_seq (n := 24) (rs := []) (own0 := own22) (K := [])
      (bs := [0, 1, 0, 4, 15, 31, 63, 127, 63, 319, 1023, 2047, 4095, 8191, 4095, 20479, 65535, 131071, 262143, 524287])
      (ds := [⟨[], [2], [], Fct.val 5 (.pointer (some ⟨g18, 0, none⟩))⟩,
      ⟨[0], [], [], Fct.val 6 (.int .i64 x1.1)⟩,
      ⟨[], [3], [], Fct.val 7 (.pointer (some ⟨g20, 0, none⟩))⟩,
      ⟨[2], [], [], Fct.val 8 (.int .i64 b2.1)⟩,
      ⟨[1, 3], [], [], Fct.val 9 (.bool (decide (x1.1 < b2.1)))⟩,
      ⟨[4], [], [], Fct.val 10 (.bool (decide (x1.1 < b2.1)))⟩,
      ⟨[5], [2], [], Fct.cond (!(decide (x1.1 < b2.1))) (some 11) (Fct.val 11 (.pointer (some ⟨g18, 0, none⟩)))⟩,
      ⟨[5, 6], [], [], Fct.cond (!(decide (x1.1 < b2.1))) (some 12) (Fct.val 12 (.int .i64 x1.1))⟩,
      ⟨[5], [3], [], Fct.cond (!(decide (x1.1 < b2.1))) (some 13) (Fct.val 13 (.pointer (some ⟨g20, 0, none⟩)))⟩,
      ⟨[5, 8], [], [], Fct.cond (!(decide (x1.1 < b2.1))) (some 14) (Fct.val 14 (.int .i64 b2.1))⟩,
      ⟨[5, 7, 9], [], [], Fct.cond (!(decide (x1.1 < b2.1))) (some 15) (Fct.val 15 (.bool (decide (x1.1 = b2.1))))⟩,
      ⟨[5, 10], [], [], Fct.cond (!(decide (x1.1 < b2.1))) (some 16) (Fct.val 16 (.bool (decide (x1.1 = b2.1))))⟩,
      ⟨[11], [2], [], Fct.cond ((!(decide (x1.1 < b2.1))) && (decide (x1.1 = b2.1))) (some 17) (Fct.val 17 (.pointer (some ⟨g18, 1, none⟩)))⟩,
      ⟨[11, 12], [], [], Fct.cond ((!(decide (x1.1 < b2.1))) && (decide (x1.1 = b2.1))) (some 18) (Fct.val 18 (.int .i64 x1.2))⟩,
      ⟨[11], [3], [], Fct.cond ((!(decide (x1.1 < b2.1))) && (decide (x1.1 = b2.1))) (some 19) (Fct.val 19 (.pointer (some ⟨g20, 1, none⟩)))⟩,
      ⟨[11, 14], [], [], Fct.cond ((!(decide (x1.1 < b2.1))) && (decide (x1.1 = b2.1))) (some 20) (Fct.val 20 (.int .i64 b2.2))⟩,
      ⟨[11, 13, 15], [], [], Fct.cond ((!(decide (x1.1 < b2.1))) && (decide (x1.1 = b2.1))) (some 21) (Fct.val 21 (.bool (decide (x1.2 < b2.2))))⟩,
      ⟨[5, 11, 16], [], [], Fct.cond (!(decide (x1.1 < b2.1))) (some 22) (Fct.val 22 (.bool x23))⟩,
      ⟨[5, 17], [], [], Fct.val 23 (.bool ((decide (x1.1 < b2.1)) || x23))⟩,
      ⟨[18], [], [], Fct.val 4 (.bool ((decide (x1.1 < b2.1)) || x23))⟩]) (by kernel_rfl) hz22 hd22 (fun _ h => nomatch h) ?_ ?_
  · refine steps_cons (fun own a wx hf hsl hE => ?_) ?_
    · obtain ⟨s_2, -⟩ := hsl
      exact sg_plain rfl rfl (or_field fo23_0 (s_2.trans e22_2) (by rfl))
    refine steps_cons (fun own a wx hf hsl hE => ?_) ?_
    · obtain ⟨(f_5 : a.eval (.tmp 5) = .pointer (some ⟨g18, 0, none⟩)), -⟩ := hf
      exact sg_plain rfl rfl (or_load1 to3 f_5 (Blk.at_ (BlkO.evo (by decide) hE b22_g18).2 0 rfl))
    refine steps_cons (fun own a wx hf hsl hE => ?_) ?_
    · obtain ⟨s_3, -⟩ := hsl
      exact sg_plain rfl rfl (or_field fo23_0 (s_3.trans e22_3) (by rfl))
    refine steps_cons (fun own a wx hf hsl hE => ?_) ?_
    · obtain ⟨(f_7 : a.eval (.tmp 7) = .pointer (some ⟨g20, 0, none⟩)), -⟩ := hf
      exact sg_plain rfl rfl (or_load1 to3 f_7 (Blk.at_ (BlkO.evo (by decide) hE b22_g20).2 0 rfl))
    refine steps_cons (fun own a wx hf hsl hE => ?_) ?_
    · obtain ⟨(f_6 : a.eval (.tmp 6) = .int .i64 x1.1), (f_8 : a.eval (.tmp 8) = .int .i64 b2.1), -⟩ := hf
      exact sg_plain rfl rfl (or_lss f_6 f_8 rfl)
    refine steps_cons (fun own a wx hf hsl hE => ?_) ?_
    · obtain ⟨(f_9 : a.eval (.tmp 9) = .bool (decide (x1.1 < b2.1))), -⟩ := hf
      exact sg_plain rfl rfl (or_move f_9)
    refine steps_cons (fun own a wx hf hsl hE => ?_) ?_
    · obtain ⟨(f_10 : a.eval (.tmp 10) = .bool (decide (x1.1 < b2.1))), -⟩ := hf
      obtain ⟨s_2, -⟩ := hsl
      refine sg_f rfl rfl rfl f_10 (fun hg => ?_)
      exact or_field fo23_0 (s_2.trans e22_2) (by rfl)
    refine steps_cons (fun own a wx hf hsl hE => ?_) ?_
    · obtain ⟨(f_10 : a.eval (.tmp 10) = .bool (decide (x1.1 < b2.1))), c_11, -⟩ := hf
      refine sg_f rfl rfl rfl f_10 (fun hg => ?_)
      have f_11 : a.eval (.tmp 11) = .pointer (some ⟨g18, 0, none⟩) := c_11.1 hg
      exact or_load1 to3 f_11 (Blk.at_ (BlkO.evo (by decide) hE b22_g18).2 0 rfl)
    refine steps_cons (fun own a wx hf hsl hE => ?_) ?_
    · obtain ⟨(f_10 : a.eval (.tmp 10) = .bool (decide (x1.1 < b2.1))), -⟩ := hf
      obtain ⟨s_3, -⟩ := hsl
      refine sg_f rfl rfl rfl f_10 (fun hg => ?_)
      exact or_field fo23_0 (s_3.trans e22_3) (by rfl)
    refine steps_cons (fun own a wx hf hsl hE => ?_) ?_
    · obtain ⟨(f_10 : a.eval (.tmp 10) = .bool (decide (x1.1 < b2.1))), c_13, -⟩ := hf
      refine sg_f rfl rfl rfl f_10 (fun hg => ?_)
      have f_13 : a.eval (.tmp 13) = .pointer (some ⟨g20, 0, none⟩) := c_13.1 hg
      exact or_load1 to3 f_13 (Blk.at_ (BlkO.evo (by decide) hE b22_g20).2 0 rfl)
    refine steps_cons (fun own a wx hf hsl hE => ?_) ?_
    · obtain ⟨(f_10 : a.eval (.tmp 10) = .bool (decide (x1.1 < b2.1))), c_12, c_14, -⟩ := hf
      refine sg_f rfl rfl rfl f_10 (fun hg => ?_)
      have f_12 : a.eval (.tmp 12) = .int .i64 x1.1 := c_12.1 hg
      have f_14 : a.eval (.tmp 14) = .int .i64 b2.1 := c_14.1 hg
      exact or_eql f_12 f_14 rfl
    refine steps_cons (fun own a wx hf hsl hE => ?_) ?_
    · obtain ⟨(f_10 : a.eval (.tmp 10) = .bool (decide (x1.1 < b2.1))), c_15, -⟩ := hf
      refine sg_f rfl rfl rfl f_10 (fun hg => ?_)
      have f_15 : a.eval (.tmp 15) = .bool (decide (x1.1 = b2.1)) := c_15.1 hg
      exact or_move f_15
    refine steps_cons (fun own a wx hf hsl hE => ?_) ?_
    · obtain ⟨c_16, -⟩ := hf
      obtain ⟨s_2, -⟩ := hsl
      refine sg_tc rfl rfl rfl c_16 (fun hg => ?_)
      have f_16 : a.eval (.tmp 16) = .bool (decide (x1.1 = b2.1)) := c_16.1 (gL hg)
      exact or_field fo23_1 (s_2.trans e22_2) (by rfl)
    refine steps_cons (fun own a wx hf hsl hE => ?_) ?_
    · obtain ⟨c_16, c_17, -⟩ := hf
      refine sg_tc rfl rfl rfl c_16 (fun hg => ?_)
      have f_16 : a.eval (.tmp 16) = .bool (decide (x1.1 = b2.1)) := c_16.1 (gL hg)
      have f_17 : a.eval (.tmp 17) = .pointer (some ⟨g18, 1, none⟩) := c_17.1 hg
      exact or_load1 to3 f_17 (Blk.at_ (BlkO.evo (by decide) hE b22_g18).2 1 rfl)
    refine steps_cons (fun own a wx hf hsl hE => ?_) ?_
    · obtain ⟨c_16, -⟩ := hf
      obtain ⟨s_3, -⟩ := hsl
      refine sg_tc rfl rfl rfl c_16 (fun hg => ?_)
      have f_16 : a.eval (.tmp 16) = .bool (decide (x1.1 = b2.1)) := c_16.1 (gL hg)
      exact or_field fo23_1 (s_3.trans e22_3) (by rfl)
    refine steps_cons (fun own a wx hf hsl hE => ?_) ?_
    · obtain ⟨c_16, c_19, -⟩ := hf
      refine sg_tc rfl rfl rfl c_16 (fun hg => ?_)
      have f_16 : a.eval (.tmp 16) = .bool (decide (x1.1 = b2.1)) := c_16.1 (gL hg)
      have f_19 : a.eval (.tmp 19) = .pointer (some ⟨g20, 1, none⟩) := c_19.1 hg
      exact or_load1 to3 f_19 (Blk.at_ (BlkO.evo (by decide) hE b22_g20).2 1 rfl)
    refine steps_cons (fun own a wx hf hsl hE => ?_) ?_
    · obtain ⟨c_16, c_18, c_20, -⟩ := hf
      refine sg_tc rfl rfl rfl c_16 (fun hg => ?_)
      have f_16 : a.eval (.tmp 16) = .bool (decide (x1.1 = b2.1)) := c_16.1 (gL hg)
      have f_18 : a.eval (.tmp 18) = .int .i64 x1.2 := c_18.1 hg
      have f_20 : a.eval (.tmp 20) = .int .i64 b2.2 := c_20.1 hg
      exact or_lss f_18 f_20 rfl
    refine steps_cons (fun own a wx hf hsl hE => ?_) ?_
    · obtain ⟨(f_10 : a.eval (.tmp 10) = .bool (decide (x1.1 < b2.1))), c_16, c_21, -⟩ := hf
      refine sg_f rfl rfl rfl f_10 (fun hg => ?_)
      have f_16 : a.eval (.tmp 16) = .bool (decide (x1.1 = b2.1)) := c_16.1 hg
      exact or_and f_16 (fun hx => c_21.1 (gI hg hx)) rfl (osome hx23).symm
    refine steps_cons (fun own a wx hf hsl hE => ?_) ?_
    · obtain ⟨(f_10 : a.eval (.tmp 10) = .bool (decide (x1.1 < b2.1))), c_22, -⟩ := hf
      exact sg_plain rfl rfl (or_or f_10 rfl (fun hx => c_22.1 hx) rfl)
    refine steps_cons (fun own a wx hf hsl hE => ?_) ?_
    · obtain ⟨(f_23 : a.eval (.tmp 23) = .bool ((decide (x1.1 < b2.1)) || x23)), -⟩ := hf
      exact sg_plain rfl rfl (or_assign f_23)
    exact steps_nil
  intro own24 a24 w24 hd24 hz24 hk24 hf24 hE24
  obtain ⟨(f_4 : a24.eval (.tmp 4) = .bool ((decide (x1.1 < b2.1)) || x23)), -⟩ := hf24 [19] rfl
  have e24_4 := f_4
  have hX24 := Evo.step hX22 (fun _ => Nat.le_refl 0) hE24 rfl
  refine fl_ret ?_
  obtain rfl := osome hs
  exact hret _ _ _ _ (.inl rfl) hd24 (results1_ rfl (RVal.tmp_ e24_4)) ⟨own24, rfl, hX24⟩

theorem window_Less_w (w : World) (x1 : Int × Int × Int) (b2 : Int × Int × Int) (r : Bool) (hs : window_Less x1 b2 = some r) :
    Calls Try.prog 22 #[.agg #[.int .i64 x1.1, .int .i64 x1.2.1, .int .i64 x1.2.2], .agg #[.int .i64 b2.1, .int .i64 b2.2.1, .int .i64 b2.2.2]] w fun e w' => ∃ own' : Own, e = .returned (.bool r) ∧ Evo [] (fun _ => 0) own' w w' := by
  refine fl_enter (n := 26) rfl rfl rfl (Nat.le_of_ble_eq_true rfl) ?_
  intro a0 Q hd0 hz0 harg hret
  have ha0 := harg 0 _ rfl
  have ha1 := harg 1 _ rfl
  clear harg
  have hE0 : Evo [] (fun _ => 0) (fun _ => 0) w w := Evo.refl _ _ _
  refine rg_plain_seq (n := 26) (rs := []) (own0 := (fun _ => 0)) (K := [])
      (bs := [0, 0, 0])
      (ds := [⟨[], [0], [], Fct.blk 23 2 (fun g => .pointer (some ⟨g, 0, none⟩)) 27 #[.int .i64 x1.1, .int .i64 x1.2.1, .int .i64 x1.2.2]⟩,
      ⟨[], [1], [], Fct.blk 25 3 (fun g => .pointer (some ⟨g, 0, none⟩)) 27 #[.int .i64 b2.1, .int .i64 b2.2.1, .int .i64 b2.2.2]⟩,
      ⟨[], [], [], Fct.val 4 (.bool false)⟩]) (by kernel_rfl) hz0 hd0 (fun _ h => nomatch h) ?_ ?_
  · refine steps_cons (fun own a wx hf hsl hE => ?_) ?_
    · obtain ⟨s_0, -⟩ := hsl
      exact sg_plain rfl rfl (or_new [(0, .agg #[.int .i64 x1.1, .int .i64 x1.2.1, .int .i64 x1.2.2])] rfl rfl ⟨(s_0.trans ha0), trivial⟩ (by kernel_rfl))
    refine steps_cons (fun own a wx hf hsl hE => ?_) ?_
    · obtain ⟨s_1, -⟩ := hsl
      exact sg_plain rfl rfl (or_new [(1, .agg #[.int .i64 b2.1, .int .i64 b2.2.1, .int .i64 b2.2.2])] rfl rfl ⟨(s_1.trans ha1), trivial⟩ (by kernel_rfl))
    refine steps_cons (fun own a wx hf hsl hE => ?_) ?_
    · exact sg_plain rfl rfl (or_assign rfl)
    exact steps_nil
  intro own26 a26 w26 hd26 hz26 hk26 hf26 hE26
  obtain ⟨⟨g22, (f_2 : a26.eval (.tmp 2) = .pointer (some ⟨g22, 0, none⟩)), (b_g22 : BlkO own26 23 w26 g22 27 #[.int .i64 x1.1, .int .i64 x1.2.1, .int .i64 x1.2.2])⟩, ⟨g24, (f_3 : a26.eval (.tmp 3) = .pointer (some ⟨g24, 0, none⟩)), (b_g24 : BlkO own26 25 w26 g24 27 #[.int .i64 b2.1, .int .i64 b2.2.1, .int .i64 b2.2.2])⟩, -⟩ := hf26 [0, 1] rfl
  have e26_2 := f_2
  have e26_3 := f_3
  have hX26 := Evo.step hE0 (fun _ => Nat.le_refl 0) hE26 rfl
  have b26_g22 := b_g22
  have b26_g24 := b_g24
  refine fl_seq (fun Q27 hn27 hp27 => ?_)
  refine rg_plain_seq (n := 26) (rs := []) (own0 := own26) (K := [])
      (bs := [0, 1, 0, 4, 15])
      (ds := [⟨[], [2], [], Fct.val 5 (.pointer (some ⟨g22, 0, none⟩))⟩,
      ⟨[0], [], [], Fct.val 6 (.int .i64 x1.1)⟩,
      ⟨[], [3], [], Fct.val 7 (.pointer (some ⟨g24, 0, none⟩))⟩,
      ⟨[2], [], [], Fct.val 8 (.int .i64 b2.1)⟩,
      ⟨[1, 3], [], [], Fct.val 9 (.bool (!decide (x1.1 = b2.1)))⟩]) (by kernel_rfl) hz26 hd26 (fun _ h => nomatch h) ?_ ?_
  · refine steps_cons (fun own a wx hf hsl hE => ?_) ?_
    · obtain ⟨s_2, -⟩ := hsl
      exact sg_plain rfl rfl (or_field fo27_0 (s_2.trans e26_2) (by rfl))
    refine steps_cons (fun own a wx hf hsl hE => ?_) ?_
    · obtain ⟨(f_5 : a.eval (.tmp 5) = .pointer (some ⟨g22, 0, none⟩)), -⟩ := hf
      exact sg_plain rfl rfl (or_load1 to3 f_5 (Blk.at_ (BlkO.evo (by decide) hE b26_g22).2 0 rfl))
    refine steps_cons (fun own a wx hf hsl hE => ?_) ?_
    · obtain ⟨s_3, -⟩ := hsl
      exact sg_plain rfl rfl (or_field fo27_0 (s_3.trans e26_3) (by rfl))
    refine steps_cons (fun own a wx hf hsl hE => ?_) ?_
    · obtain ⟨(f_7 : a.eval (.tmp 7) = .pointer (some ⟨g24, 0, none⟩)), -⟩ := hf
      exact sg_plain rfl rfl (or_load1 to3 f_7 (Blk.at_ (BlkO.evo (by decide) hE b26_g24).2 0 rfl))
    refine steps_cons (fun own a wx hf hsl hE => ?_) ?_
    · obtain ⟨(f_6 : a.eval (.tmp 6) = .int .i64 x1.1), (f_8 : a.eval (.tmp 8) = .int .i64 b2.1), -⟩ := hf
      exact sg_plain rfl rfl (or_neq f_6 f_8 rfl)
    exact steps_nil
  intro own28 a28 w28 hd28 hz28 hk28 hf28 hE28
  have e28_2 : a28.eval (.tmp 2) = .pointer (some ⟨g22, 0, none⟩) := (hk28 2 rfl).trans e26_2
  have e28_3 : a28.eval (.tmp 3) = .pointer (some ⟨g24, 0, none⟩) := (hk28 3 rfl).trans e26_3
  obtain ⟨(f_9 : a28.eval (.tmp 9) = .bool (!decide (x1.1 = b2.1))), -⟩ := hf28 [4] rfl
  have e28_9 := f_9
  have hX28 := Evo.step hX26 (fun _ => Nat.le_refl 0) hE28 rfl
  have b28_g22 := BlkO.evo (by decide) hE28 b26_g22
  have b28_g24 := BlkO.evo (by decide) hE28 b26_g24
  refine fl_cond e28_9 hs (fun c29 hs => ?_) (fun c29 hs => ?_)
  · refine rg_plain_seq (n := 26) (rs := []) (own0 := own28) (K := [])
        (bs := [0, 1, 0, 4, 15, 31])
        (ds := [⟨[], [2], [], Fct.val 10 (.pointer (some ⟨g22, 0, none⟩))⟩,
        ⟨[0], [], [], Fct.val 11 (.int .i64 x1.1)⟩,
        ⟨[], [3], [], Fct.val 12 (.pointer (some ⟨g24, 0, none⟩))⟩,
        ⟨[2], [], [], Fct.val 13 (.int .i64 b2.1)⟩,
        ⟨[1, 3], [], [], Fct.val 14 (.bool (decide (x1.1 < b2.1)))⟩,
        ⟨[4], [], [], Fct.val 4 (.bool (decide (x1.1 < b2.1)))⟩]) (by kernel_rfl) hz28 hd28 (fun _ h => nomatch h) ?_ ?_
    · refine steps_cons (fun own a wx hf hsl hE => ?_) ?_
      · obtain ⟨s_2, -⟩ := hsl
        exact sg_plain rfl rfl (or_field fo27_0 (s_2.trans e28_2) (by rfl))
      refine steps_cons (fun own a wx hf hsl hE => ?_) ?_
      · obtain ⟨(f_10 : a.eval (.tmp 10) = .pointer (some ⟨g22, 0, none⟩)), -⟩ := hf
        exact sg_plain rfl rfl (or_load1 to3 f_10 (Blk.at_ (BlkO.evo (by decide) hE b28_g22).2 0 rfl))
      refine steps_cons (fun own a wx hf hsl hE => ?_) ?_
      · obtain ⟨s_3, -⟩ := hsl
        exact sg_plain rfl rfl (or_field fo27_0 (s_3.trans e28_3) (by rfl))
      refine steps_cons (fun own a wx hf hsl hE => ?_) ?_
      · obtain ⟨(f_12 : a.eval (.tmp 12) = .pointer (some ⟨g24, 0, none⟩)), -⟩ := hf
        exact sg_plain rfl rfl (or_load1 to3 f_12 (Blk.at_ (BlkO.evo (by decide) hE b28_g24).2 0 rfl))
      refine steps_cons (fun own a wx hf hsl hE => ?_) ?_
      · obtain ⟨(f_11 : a.eval (.tmp 11) = .int .i64 x1.1), (f_13 : a.eval (.tmp 13) = .int .i64 b2.1), -⟩ := hf
        exact sg_plain rfl rfl (or_lss f_11 f_13 rfl)
      refine steps_cons (fun own a wx hf hsl hE => ?_) ?_
      · obtain ⟨(f_14 : a.eval (.tmp 14) = .bool (decide (x1.1 < b2.1))), -⟩ := hf
        exact sg_plain rfl rfl (or_assign f_14)
      exact steps_nil
    intro own30 a30 w30 hd30 hz30 hk30 hf30 hE30
    obtain ⟨(f_4 : a30.eval (.tmp 4) = .bool (decide (x1.1 < b2.1))), -⟩ := hf30 [5] rfl
    have e30_4 := f_4
    have hX30 := Evo.step hX28 (fun _ => Nat.le_refl 0) hE30 rfl
    refine fl_ret ?_
    refine hp27 _ _ _ rfl ?_
    obtain rfl := osome hs
    exact hret _ _ _ _ (.inl rfl) hd30 (results1_ rfl (RVal.tmp_ e30_4)) ⟨own30, rfl, hX30⟩
  refine fl_skip ?_
  refine hn27 _ _ ?_
  obtain ⟨r31, hr31, hs⟩ := obind hs
  refine rg_plain_seq (n := 26) (rs := []) (own0 := own28) (K := [])
      (bs := [0, 1, 0, 4, 15, 0, 32, 0, 128, 480, 1023, 2047])
      (ds := [⟨[], [2], [], Fct.val 15 (.pointer (some ⟨g22, 1, none⟩))⟩,
      ⟨[0], [], [], Fct.val 16 (.int .i64 x1.2.1)⟩,
      ⟨[], [2], [], Fct.val 17 (.pointer (some ⟨g22, 2, none⟩))⟩,
      ⟨[2], [], [], Fct.val 18 (.int .i64 x1.2.2)⟩,
      ⟨[1, 3], [], [], Fct.val 19 (.agg #[.int .i64 x1.2.1, .int .i64 x1.2.2])⟩,
      ⟨[], [3], [], Fct.val 20 (.pointer (some ⟨g24, 1, none⟩))⟩,
      ⟨[5], [], [], Fct.val 21 (.int .i64 b2.2.1)⟩,
      ⟨[], [3], [], Fct.val 22 (.pointer (some ⟨g24, 2, none⟩))⟩,
      ⟨[7], [], [], Fct.val 23 (.int .i64 b2.2.2)⟩,
      ⟨[6, 8], [], [], Fct.val 24 (.agg #[.int .i64 b2.2.1, .int .i64 b2.2.2])⟩,
      ⟨[4, 9], [], [], Fct.val 25 (.bool r31)⟩,
      ⟨[10], [], [], Fct.val 4 (.bool r31)⟩]) (by kernel_rfl) hz28 hd28 (fun _ h => nomatch h) ?_ ?_
  · refine steps_cons (fun own a wx hf hsl hE => ?_) ?_
    · obtain ⟨s_2, -⟩ := hsl
      exact sg_plain rfl rfl (or_field fo27_1 (s_2.trans e28_2) (by rfl))
    refine steps_cons (fun own a wx hf hsl hE => ?_) ?_
    · obtain ⟨(f_15 : a.eval (.tmp 15) = .pointer (some ⟨g22, 1, none⟩)), -⟩ := hf
      exact sg_plain rfl rfl (or_load1 to3 f_15 (Blk.at_ (BlkO.evo (by decide) hE b28_g22).2 1 rfl))
    refine steps_cons (fun own a wx hf hsl hE => ?_) ?_
    · obtain ⟨s_2, -⟩ := hsl
      exact sg_plain rfl rfl (or_field fo27_2 (s_2.trans e28_2) (by rfl))
    refine steps_cons (fun own a wx hf hsl hE => ?_) ?_
    · obtain ⟨(f_17 : a.eval (.tmp 17) = .pointer (some ⟨g22, 2, none⟩)), -⟩ := hf
      exact sg_plain rfl rfl (or_load1 to3 f_17 (Blk.at_ (BlkO.evo (by decide) hE b28_g22).2 2 rfl))
    refine steps_cons (fun own a wx hf hsl hE => ?_) ?_
    · obtain ⟨(f_16 : a.eval (.tmp 16) = .int .i64 x1.2.1), (f_18 : a.eval (.tmp 18) = .int .i64 x1.2.2), -⟩ := hf
      exact sg_plain rfl rfl (or_k [(16, .int .i64 x1.2.1), (18, .int .i64 x1.2.2)] rfl rfl ⟨f_16, f_18, trivial⟩ (by kernel_rfl))
    refine steps_cons (fun own a wx hf hsl hE => ?_) ?_
    · obtain ⟨s_3, -⟩ := hsl
      exact sg_plain rfl rfl (or_field fo27_1 (s_3.trans e28_3) (by rfl))
    refine steps_cons (fun own a wx hf hsl hE => ?_) ?_
    · obtain ⟨(f_20 : a.eval (.tmp 20) = .pointer (some ⟨g24, 1, none⟩)), -⟩ := hf
      exact sg_plain rfl rfl (or_load1 to3 f_20 (Blk.at_ (BlkO.evo (by decide) hE b28_g24).2 1 rfl))
    refine steps_cons (fun own a wx hf hsl hE => ?_) ?_
    · obtain ⟨s_3, -⟩ := hsl
      exact sg_plain rfl rfl (or_field fo27_2 (s_3.trans e28_3) (by rfl))
    refine steps_cons (fun own a wx hf hsl hE => ?_) ?_
    · obtain ⟨(f_22 : a.eval (.tmp 22) = .pointer (some ⟨g24, 2, none⟩)), -⟩ := hf
      exact sg_plain rfl rfl (or_load1 to3 f_22 (Blk.at_ (BlkO.evo (by decide) hE b28_g24).2 2 rfl))
    refine steps_cons (fun own a wx hf hsl hE => ?_) ?_
    · obtain ⟨(f_21 : a.eval (.tmp 21) = .int .i64 b2.2.1), (f_23 : a.eval (.tmp 23) = .int .i64 b2.2.2), -⟩ := hf
      exact sg_plain rfl rfl (or_k [(21, .int .i64 b2.2.1), (23, .int .i64 b2.2.2)] rfl rfl ⟨f_21, f_23, trivial⟩ (by kernel_rfl))
    refine steps_cons (fun own a wx hf hsl hE => ?_) ?_
    · obtain ⟨(f_19 : a.eval (.tmp 19) = .agg #[.int .i64 x1.2.1, .int .i64 x1.2.2]), (f_24 : a.eval (.tmp 24) = .agg #[.int .i64 b2.2.1, .int .i64 b2.2.2]), -⟩ := hf
      exact sg_plain rfl rfl (or_call cf40 (args2 f_19 f_24) (exact_Less_w _ x1.2 b2.2  r31 hr31) post_val)
    refine steps_cons (fun own a wx hf hsl hE => ?_) ?_
    · obtain ⟨(f_25 : a.eval (.tmp 25) = .bool r31), -⟩ := hf
      exact sg_plain rfl rfl (or_assign f_25)
    exact steps_nil
  intro own32 a32 w32 hd32 hz32 hk32 hf32 hE32
  obtain ⟨(f_4 : a32.eval (.tmp 4) = .bool r31), -⟩ := hf32 [11] rfl
  have e32_4 := f_4
  have hX32 := Evo.step hX28 (fun _ => Nat.le_refl 0) hE32 rfl
  refine fl_ret ?_
  obtain rfl := (osome hs).symm
  exact hret _ _ _ _ (.inl rfl) hd32 (results1_ rfl (RVal.tmp_ e32_4)) ⟨own32, rfl, hX32⟩

theorem ref20_Less_w (w : World) (x1 : Int × Int × Int) (b2 : Int × Int × Int) (r : Bool) (hs : ref20_Less x1 b2 = some r) :
    Calls Try.prog 23 #[.agg #[.int .i64 x1.1, .int .i64 x1.2.1, .int .i64 x1.2.2], .agg #[.int .i64 b2.1, .int .i64 b2.2.1, .int .i64 b2.2.2]] w fun e w' => ∃ own' : Own, e = .returned (.bool r) ∧ Evo [] (fun _ => 0) own' w w' := by
  refine fl_enter (n := 30) rfl rfl rfl (Nat.le_of_ble_eq_true rfl) ?_
  intro a0 Q hd0 hz0 harg hret
  have ha0 := harg 0 _ rfl
  have ha1 := harg 1 _ rfl
  clear harg
  have hE0 : Evo [] (fun _ => 0) (fun _ => 0) w w := Evo.refl _ _ _
  refine rg_plain_seq (n := 30) (rs := []) (own0 := (fun _ => 0)) (K := [])
      (bs := [0, 0, 0])
      (ds := [⟨[], [0], [], Fct.blk 26 2 (fun g => .pointer (some ⟨g, 0, none⟩)) 30 #[.int .i64 x1.1, .int .i64 x1.2.1, .int .i64 x1.2.2]⟩,
      ⟨[], [1], [], Fct.blk 28 3 (fun g => .pointer (some ⟨g, 0, none⟩)) 30 #[.int .i64 b2.1, .int .i64 b2.2.1, .int .i64 b2.2.2]⟩,
      ⟨[], [], [], Fct.val 4 (.bool false)⟩]) (by kernel_rfl) hz0 hd0 (fun _ h => nomatch h) ?_ ?_
  · refine steps_cons (fun own a wx hf hsl hE => ?_) ?_
    · obtain ⟨s_0, -⟩ := hsl
      exact sg_plain rfl rfl (or_new [(0, .agg #[.int .i64 x1.1, .int .i64 x1.2.1, .int .i64 x1.2.2])] rfl rfl ⟨(s_0.trans ha0), trivial⟩ (by kernel_rfl))
    refine steps_cons (fun own a wx hf hsl hE => ?_) ?_
    · obtain ⟨s_1, -⟩ := hsl
      exact sg_plain rfl rfl (or_new [(1, .agg #[.int .i64 b2.1, .int .i64 b2.2.1, .int .i64 b2.2.2])] rfl rfl ⟨(s_1.trans ha1), trivial⟩ (by kernel_rfl))
    refine steps_cons (fun own a wx hf hsl hE => ?_) ?_
    · exact sg_plain rfl rfl (or_assign rfl)
    exact steps_nil
  intro own29 a29 w29 hd29 hz29 hk29 hf29 hE29
  obtain ⟨⟨g25, (f_2 : a29.eval (.tmp 2) = .pointer (some ⟨g25, 0, none⟩)), (b_g25 : BlkO own29 26 w29 g25 30 #[.int .i64 x1.1, .int .i64 x1.2.1, .int .i64 x1.2.2])⟩, ⟨g27, (f_3 : a29.eval (.tmp 3) = .pointer (some ⟨g27, 0, none⟩)), (b_g27 : BlkO own29 28 w29 g27 30 #[.int .i64 b2.1, .int .i64 b2.2.1, .int .i64 b2.2.2])⟩, -⟩ := hf29 [0, 1] rfl
  have e29_2 := f_2
  have e29_3 := f_3
  have hX29 := Evo.step hE0 (fun _ => Nat.le_refl 0) hE29 rfl
  have b29_g25 := b_g25
  have b29_g27 := b_g27
  refine fl_seq (fun Q30 hn30 hp30 => ?_)
  refine rg_plain_seq (n := 30) (rs := []) (own0 := own29) (K := [])
      (bs := [0, 1, 0, 4, 15])
      (ds := [⟨[], [2], [], Fct.val 5 (.pointer (some ⟨g25, 0, none⟩))⟩,
      ⟨[0], [], [], Fct.val 6 (.int .i64 x1.1)⟩,
      ⟨[], [3], [], Fct.val 7 (.pointer (some ⟨g27, 0, none⟩))⟩,
      ⟨[2], [], [], Fct.val 8 (.int .i64 b2.1)⟩,
      ⟨[1, 3], [], [], Fct.val 9 (.bool (!decide (x1.1 = b2.1)))⟩]) (by kernel_rfl) hz29 hd29 (fun _ h => nomatch h) ?_ ?_
  · refine steps_cons (fun own a wx hf hsl hE => ?_) ?_
    · obtain ⟨s_2, -⟩ := hsl
      exact sg_plain rfl rfl (or_field fo30_0 (s_2.trans e29_2) (by rfl))
    refine steps_cons (fun own a wx hf hsl hE => ?_) ?_
    · obtain ⟨(f_5 : a.eval (.tmp 5) = .pointer (some ⟨g25, 0, none⟩)), -⟩ := hf
      exact sg_plain rfl rfl (or_load1 to3 f_5 (Blk.at_ (BlkO.evo (by decide) hE b29_g25).2 0 rfl))
    refine steps_cons (fun own a wx hf hsl hE => ?_) ?_
    · obtain ⟨s_3, -⟩ := hsl
      exact sg_plain rfl rfl (or_field fo30_0 (s_3.trans e29_3) (by rfl))
    refine steps_cons (fun own a wx hf hsl hE => ?_) ?_
    · obtain ⟨(f_7 : a.eval (.tmp 7) = .pointer (some ⟨g27, 0, none⟩)), -⟩ := hf
      exact sg_plain rfl rfl (or_load1 to3 f_7 (Blk.at_ (BlkO.evo (by decide) hE b29_g27).2 0 rfl))
    refine steps_cons (fun own a wx hf hsl hE => ?_) ?_
    · obtain ⟨(f_6 : a.eval (.tmp 6) = .int .i64 x1.1), (f_8 : a.eval (.tmp 8) = .int .i64 b2.1), -⟩ := hf
      exact sg_plain rfl rfl (or_neq f_6 f_8 rfl)
    exact steps_nil
  intro own31 a31 w31 hd31 hz31 hk31 hf31 hE31
  have e31_2 : a31.eval (.tmp 2) = .pointer (some ⟨g25, 0, none⟩) := (hk31 2 rfl).trans e29_2
  have e31_3 : a31.eval (.tmp 3) = .pointer (some ⟨g27, 0, none⟩) := (hk31 3 rfl).trans e29_3
  obtain ⟨(f_9 : a31.eval (.tmp 9) = .bool (!decide (x1.1 = b2.1))), -⟩ := hf31 [4] rfl
  have e31_9 := f_9
  have hX31 := Evo.step hX29 (fun _ => Nat.le_refl 0) hE31 rfl
  have b31_g25 := BlkO.evo (by decide) hE31 b29_g25
  have b31_g27 := BlkO.evo (by decide) hE31 b29_g27
  refine fl_cond e31_9 hs (fun c32 hs => ?_) (fun c32 hs => ?_)
  · refine rg_plain_seq (n := 30) (rs := []) (own0 := own31) (K := [])
        (bs := [0, 1, 0, 4, 15, 31])
        (ds := [⟨[], [2], [], Fct.val 10 (.pointer (some ⟨g25, 0, none⟩))⟩,
        ⟨[0], [], [], Fct.val 11 (.int .i64 x1.1)⟩,
        ⟨[], [3], [], Fct.val 12 (.pointer (some ⟨g27, 0, none⟩))⟩,
        ⟨[2], [], [], Fct.val 13 (.int .i64 b2.1)⟩,
        ⟨[1, 3], [], [], Fct.val 14 (.bool (decide (x1.1 < b2.1)))⟩,
        ⟨[4], [], [], Fct.val 4 (.bool (decide (x1.1 < b2.1)))⟩]) (by kernel_rfl) hz31 hd31 (fun _ h => nomatch h) ?_ ?_
    · refine steps_cons (fun own a wx hf hsl hE => ?_) ?_
      · obtain ⟨s_2, -⟩ := hsl
        exact sg_plain rfl rfl (or_field fo30_0 (s_2.trans e31_2) (by rfl))
      refine steps_cons (fun own a wx hf hsl hE => ?_) ?_
      · obtain ⟨(f_10 : a.eval (.tmp 10) = .pointer (some ⟨g25, 0, none⟩)), -⟩ := hf
        exact sg_plain rfl rfl (or_load1 to3 f_10 (Blk.at_ (BlkO.evo (by decide) hE b31_g25).2 0 rfl))
      refine steps_cons (fun own a wx hf hsl hE => ?_) ?_
      · obtain ⟨s_3, -⟩ := hsl
        exact sg_plain rfl rfl (or_field fo30_0 (s_3.trans e31_3) (by rfl))
      refine steps_cons (fun own a wx hf hsl hE => ?_) ?_
      · obtain ⟨(f_12 : a.eval (.tmp 12) = .pointer (some ⟨g27, 0, none⟩)), -⟩ := hf
        exact sg_plain rfl rfl (or_load1 to3 f_12 (Blk.at_ (BlkO.evo (by decide) hE b31_g27).2 0 rfl))
      refine steps_cons (fun own a wx hf hsl hE => ?_) ?_
      · obtain ⟨(f_11 : a.eval (.tmp 11) = .int .i64 x1.1), (f_13 : a.eval (.tmp 13) = .int .i64 b2.1), -⟩ := hf
        exact sg_plain rfl rfl (or_lss f_11 f_13 rfl)
      refine steps_cons (fun own a wx hf hsl hE => ?_) ?_
      · obtain ⟨(f_14 : a.eval (.tmp 14) = .bool (decide (x1.1 < b2.1))), -⟩ := hf
        exact sg_plain rfl rfl (or_assign f_14)
      exact steps_nil
    intro own33 a33 w33 hd33 hz33 hk33 hf33 hE33
    obtain ⟨(f_4 : a33.eval (.tmp 4) = .bool (decide (x1.1 < b2.1))), -⟩ := hf33 [5] rfl
    have e33_4 := f_4
    have hX33 := Evo.step hX31 (fun _ => Nat.le_refl 0) hE33 rfl
    refine fl_ret ?_
    refine hp30 _ _ _ rfl ?_
    obtain rfl := osome hs
    exact hret _ _ _ _ (.inl rfl) hd33 (results1_ rfl (RVal.tmp_ e33_4)) ⟨own33, rfl, hX33⟩
  refine fl_skip ?_
  refine hn30 _ _ ?_
  refine fl_seq (fun Q34 hn34 hp34 => ?_)
  refine rg_plain_seq (n := 30) (rs := []) (own0 := own31) (K := [])
      (bs := [0, 1, 0, 4, 15])
      (ds := [⟨[], [2], [], Fct.val 15 (.pointer (some ⟨g25, 1, none⟩))⟩,
      ⟨[0], [], [], Fct.val 16 (.int .i64 x1.2.1)⟩,
      ⟨[], [3], [], Fct.val 17 (.pointer (some ⟨g27, 1, none⟩))⟩,
      ⟨[2], [], [], Fct.val 18 (.int .i64 b2.2.1)⟩,
      ⟨[1, 3], [], [], Fct.val 19 (.bool (!decide (x1.2.1 = b2.2.1)))⟩]) (by kernel_rfl) hz31 hd31 (fun _ h => nomatch h) ?_ ?_
  · refine steps_cons (fun own a wx hf hsl hE => ?_) ?_
    · obtain ⟨s_2, -⟩ := hsl
      exact sg_plain rfl rfl (or_field fo30_1 (s_2.trans e31_2) (by rfl))
    refine steps_cons (fun own a wx hf hsl hE => ?_) ?_
    · obtain ⟨(f_15 : a.eval (.tmp 15) = .pointer (some ⟨g25, 1, none⟩)), -⟩ := hf
      exact sg_plain rfl rfl (or_load1 to3 f_15 (Blk.at_ (BlkO.evo (by decide) hE b31_g25).2 1 rfl))
    refine steps_cons (fun own a wx hf hsl hE => ?_) ?_
    · obtain ⟨s_3, -⟩ := hsl
      exact sg_plain rfl rfl (or_field fo30_1 (s_3.trans e31_3) (by rfl))
    refine steps_cons (fun own a wx hf hsl hE => ?_) ?_
    · obtain ⟨(f_17 : a.eval (.tmp 17) = .pointer (some ⟨g27, 1, none⟩)), -⟩ := hf
      exact sg_plain rfl rfl (or_load1 to3 f_17 (Blk.at_ (BlkO.evo (by decide) hE b31_g27).2 1 rfl))
    refine steps_cons (fun own a wx hf hsl hE => ?_) ?_
    · obtain ⟨(f_16 : a.eval (.tmp 16) = .int .i64 x1.2.1), (f_18 : a.eval (.tmp 18) = .int .i64 b2.2.1), -⟩ := hf
      exact sg_plain rfl rfl (or_neq f_16 f_18 rfl)
    exact steps_nil
  intro own35 a35 w35 hd35 hz35 hk35 hf35 hE35
  have e35_2 : a35.eval (.tmp 2) = .pointer (some ⟨g25, 0, none⟩) := (hk35 2 rfl).trans e31_2
  have e35_3 : a35.eval (.tmp 3) = .pointer (some ⟨g27, 0, none⟩) := (hk35 3 rfl).trans e31_3
  obtain ⟨(f_19 : a35.eval (.tmp 19) = .bool (!decide (x1.2.1 = b2.2.1))), -⟩ := hf35 [4] rfl
  have e35_19 := f_19
  have hX35 := Evo.step hX31 (fun _ => Nat.le_refl 0) hE35 rfl
  have b35_g25 := BlkO.evo (by decide) hE35 b31_g25
  have b35_g27 := BlkO.evo (by decide) hE35 b31_g27
  refine fl_cond e35_19 hs (fun c36 hs => ?_) (fun c36 hs => ?_)
  · refine rg_plain_seq (n := 30) (rs := []) (own0 := own35) (K := [])
        (bs := [0, 1, 0, 4, 15, 31])
        (ds := [⟨[], [2], [], Fct.val 20 (.pointer (some ⟨g25, 1, none⟩))⟩,
        ⟨[0], [], [], Fct.val 21 (.int .i64 x1.2.1)⟩,
        ⟨[], [3], [], Fct.val 22 (.pointer (some ⟨g27, 1, none⟩))⟩,
        ⟨[2], [], [], Fct.val 23 (.int .i64 b2.2.1)⟩,
        ⟨[1, 3], [], [], Fct.val 24 (.bool (decide (x1.2.1 < b2.2.1)))⟩,
        ⟨[4], [], [], Fct.val 4 (.bool (decide (x1.2.1 < b2.2.1)))⟩]) (by kernel_rfl) hz35 hd35 (fun _ h => nomatch h) ?_ ?_
    · refine steps_cons (fun own a wx hf hsl hE => ?_) ?_
      · obtain ⟨s_2, -⟩ := hsl
        exact sg_plain rfl rfl (or_field fo30_1 (s_2.trans e35_2) (by rfl))
      refine steps_cons (fun own a wx hf hsl hE => ?_) ?_
      · obtain ⟨(f_20 : a.eval (.tmp 20) = .pointer (some ⟨g25, 1, none⟩)), -⟩ := hf
        exact sg_plain rfl rfl (or_load1 to3 f_20 (Blk.at_ (BlkO.evo (by decide) hE b35_g25).2 1 rfl))
      refine steps_cons (fun own a wx hf hsl hE => ?_) ?_
      · obtain ⟨s_3, -⟩ := hsl
        exact sg_plain rfl rfl (or_field fo30_1 (s_3.trans e35_3) (by rfl))
      refine steps_cons (fun own a wx hf hsl hE => ?_) ?_
      · obtain ⟨(f_22 : a.eval (.tmp 22) = .pointer (some ⟨g27, 1, none⟩)), -⟩ := hf
        exact sg_plain rfl rfl (or_load1 to3 f_22 (Blk.at_ (BlkO.evo (by decide) hE b35_g27).2 1 rfl))
      refine steps_cons (fun own a wx hf hsl hE => ?_) ?_
      · obtain ⟨(f_21 : a.eval (.tmp 21) = .int .i64 x1.2.1), (f_23 : a.eval (.tmp 23) = .int .i64 b2.2.1), -⟩ := hf
        exact sg_plain rfl rfl (or_lss f_21 f_23 rfl)
      refine steps_cons (fun own a wx hf hsl hE => ?_) ?_
      · obtain ⟨(f_24 : a.eval (.tmp 24) = .bool (decide (x1.2.1 < b2.2.1))), -⟩ := hf
        exact sg_plain rfl rfl (or_assign f_24)
      exact steps_nil
    intro own37 a37 w37 hd37 hz37 hk37 hf37 hE37
    obtain ⟨(f_4 : a37.eval (.tmp 4) = .bool (decide (x1.2.1 < b2.2.1))), -⟩ := hf37 [5] rfl
    have e37_4 := f_4
    have hX37 := Evo.step hX35 (fun _ => Nat.le_refl 0) hE37 rfl
    refine fl_ret ?_
    refine hp34 _ _ _ rfl ?_
    obtain rfl := osome hs
    exact hret _ _ _ _ (.inl rfl) hd37 (results1_ rfl (RVal.tmp_ e37_4)) ⟨own37, rfl, hX37⟩
  refine fl_skip ?_
  refine hn34 _ _ ?_
  refine rg_plain_seq (n := 30) (rs := []) (own0 := own35) (K := [])
      (bs := [0, 1, 0, 4, 15, 31])
      (ds := [⟨[], [2], [], Fct.val 25 (.pointer (some ⟨g25, 2, none⟩))⟩,
      ⟨[0], [], [], Fct.val 26 (.int .i64 x1.2.2)⟩,
      ⟨[], [3], [], Fct.val 27 (.pointer (some ⟨g27, 2, none⟩))⟩,
      ⟨[2], [], [], Fct.val 28 (.int .i64 b2.2.2)⟩,
      ⟨[1, 3], [], [], Fct.val 29 (.bool (decide (x1.2.2 < b2.2.2)))⟩,
      ⟨[4], [], [], Fct.val 4 (.bool (decide (x1.2.2 < b2.2.2)))⟩]) (by kernel_rfl) hz35 hd35 (fun _ h => nomatch h) ?_ ?_
  · refine steps_cons (fun own a wx hf hsl hE => ?_) ?_
    · obtain ⟨s_2, -⟩ := hsl
      exact sg_plain rfl rfl (or_field fo30_2 (s_2.trans e35_2) (by rfl))
    refine steps_cons (fun own a wx hf hsl hE => ?_) ?_
    · obtain ⟨(f_25 : a.eval (.tmp 25) = .pointer (some ⟨g25, 2, none⟩)), -⟩ := hf
      exact sg_plain rfl rfl (or_load1 to3 f_25 (Blk.at_ (BlkO.evo (by decide) hE b35_g25).2 2 rfl))
    refine steps_cons (fun own a wx hf hsl hE => ?_) ?_
    · obtain ⟨s_3, -⟩ := hsl
      exact sg_plain rfl rfl (or_field fo30_2 (s_3.trans e35_3) (by rfl))
    refine steps_cons (fun own a wx hf hsl hE => ?_) ?_
    · obtain ⟨(f_27 : a.eval (.tmp 27) = .pointer (some ⟨g27, 2, none⟩)), -⟩ := hf
      exact sg_plain rfl rfl (or_load1 to3 f_27 (Blk.at_ (BlkO.evo (by decide) hE b35_g27).2 2 rfl))
    refine steps_cons (fun own a wx hf hsl hE => ?_) ?_
    · obtain ⟨(f_26 : a.eval (.tmp 26) = .int .i64 x1.2.2), (f_28 : a.eval (.tmp 28) = .int .i64 b2.2.2), -⟩ := hf
      exact sg_plain rfl rfl (or_lss f_26 f_28 rfl)
    refine steps_cons (fun own a wx hf hsl hE => ?_) ?_
    · obtain ⟨(f_29 : a.eval (.tmp 29) = .bool (decide (x1.2.2 < b2.2.2))), -⟩ := hf
      exact sg_plain rfl rfl (or_assign f_29)
    exact steps_nil
  intro own38 a38 w38 hd38 hz38 hk38 hf38 hE38
  obtain ⟨(f_4 : a38.eval (.tmp 4) = .bool (decide (x1.2.2 < b2.2.2))), -⟩ := hf38 [5] rfl
  have e38_4 := f_4
  have hX38 := Evo.step hX35 (fun _ => Nat.le_refl 0) hE38 rfl
  refine fl_ret ?_
  obtain rfl := osome hs
  exact hret _ _ _ _ (.inl rfl) hd38 (results1_ rfl (RVal.tmp_ e38_4)) ⟨own38, rfl, hX38⟩

theorem window_All_w (w : World) (z1 : Int) (r : List (Int × Int × Int)) (hs : window_All z1 = some r) :
    Calls Try.prog 24 #[.int .i64 z1] w fun e w' => ∃ (own' : Own) (x : Option Addr × Nat), e = .returned (.slice x.1 r.length x.2) ∧ Evo [] (fun _ => 0) own' w w' ∧ RwO own' 1 [] w' 27 R27 x.1 x.2 r := by
  refine fl_enter (n := 26) rfl rfl rfl (Nat.le_of_ble_eq_true rfl) ?_
  intro a0 Q hd0 hz0 harg hret
  have ha0 := harg 0 _ rfl
  clear harg
  have hE0 : Evo [] (fun _ => 0) (fun _ => 0) w w := Evo.refl _ _ _
  refine rg_plain_seq (n := 26) (rs := []) (own0 := (fun _ => 0)) (K := [])
      (bs := [0])
      (ds := [⟨[], [], [], Fct.val 2 (.slice none 0 0)⟩]) (by kernel_rfl) hz0 hd0 (fun _ h => nomatch h) ?_ ?_
  · refine steps_cons (fun own a wx hf hsl hE => ?_) ?_
    · exact sg_plain rfl rfl (or_assign rfl)
    exact steps_nil
  intro own218 a218 w218 hd218 hz218 hk218 hf218 hE218
  have e218_0 : a218.eval (.tmp 0) = .int .i64 z1 := (hk218 0 rfl).trans ha0
  have hX218 := Evo.step hE0 (fun _ => Nat.le_refl 0) hE218 rfl
  refine rg_plain_seq (n := 26) (rs := []) (own0 := own218) (K := [])
      (bs := [0])
      (ds := [⟨[], [], [], Fct.val 3 (.slice none 0 0)⟩]) (by kernel_rfl) hz218 hd218 (fun _ h => nomatch h) ?_ ?_
  · refine steps_cons (fun own a wx hf hsl hE => ?_) ?_
    · exact sg_plain rfl rfl (or_assign rfl)
    exact steps_nil
  intro own219 a219 w219 hd219 hz219 hk219 hf219 hE219
  have e219_0 : a219.eval (.tmp 0) = .int .i64 z1 := (hk219 0 rfl).trans e218_0
  obtain ⟨(f_3 : a219.eval (.tmp 3) = .slice none 0 0), -⟩ := hf219 [0] rfl
  have e219_3 := f_3
  have hX219 := Evo.step hX218 (fun _ => Nat.le_refl 0) hE219 rfl
  refine fl_seq (fun Q220 hn220 hp220 => ?_)
  obtain ⟨r221, hr221, hs⟩ := obind hs
  refine rg_plain_seq (n := 26) (rs := []) (own0 := own219) (K := [])
      (bs := [0, 1, 0])
      (ds := [⟨[], [0], [], Fct.val 6 (.int .i64 z1)⟩,
      ⟨[0], [], [], Fct.val 7 (.int .i64 r221)⟩,
      ⟨[], [], [], Fct.val 8 (.int .i64 0)⟩]) (by kernel_rfl) hz219 hd219 (fun _ h => nomatch h) ?_ ?_
  · refine steps_cons (fun own a wx hf hsl hE => ?_) ?_
    · obtain ⟨s_0, -⟩ := hsl
      exact sg_plain rfl rfl (or_move (s_0.trans e219_0))
    refine steps_cons (fun own a wx hf hsl hE => ?_) ?_
    · obtain ⟨(f_6 : a.eval (.tmp 6) = .int .i64 z1), -⟩ := hf
      exact sg_plain rfl rfl (or_call cf32 (args1 f_6) (window_count_w _ z1  r221 hr221) post_val)
    refine steps_cons (fun own a wx hf hsl hE => ?_) ?_
    · exact sg_plain rfl rfl (or_move rfl)
    exact steps_nil
  intro own222 a222 w222 hd222 hz222 hk222 hf222 hE222
  have e222_0 : a222.eval (.tmp 0) = .int .i64 z1 := (hk222 0 rfl).trans e219_0
  have e222_3 : a222.eval (.tmp 3) = .slice none 0 0 := (hk222 3 rfl).trans e219_3
  obtain ⟨(f_7 : a222.eval (.tmp 7) = .int .i64 r221), (f_8 : a222.eval (.tmp 8) = .int .i64 0), -⟩ := hf222 [1, 2] rfl
  have e222_7 := f_7
  have e222_8 := f_8
  have hX222 := Evo.step hX219 (fun _ => Nat.le_refl 0) hE222 rfl
  refine fl_block (fun Q223 hn223 hx223 hp223 => ?_)
  refine fl_loop (body := (fun s => window_All_b1 z1 r221 s.1 s.2)) (z := r) (show loopO _ _ = _ from hs) (fun (s : (List (Int × Int × Int)) × Int) a wx => match s with | (out290, x292) => ∃ (ox : Own) (A288 : Option Addr) (c289 : Nat), a.defers = [] ∧ a.tmps.size = 26 ∧ a.eval (.tmp 0) = .int .i64 z1 ∧ a.eval (.tmp 3) = .slice A288 out290.length c289 ∧ a.eval (.tmp 7) = .int .i64 r221 ∧ a.eval (.tmp 8) = .int .i64 x292 ∧ Evo [] (fun _ => 0) ox w wx ∧ RwO ox 291 [] wx 27 R27 A288 c289 out290) ?_ ?_
  · exact ⟨own222, none, 0, hd222, hz222, e222_0, e222_3, e222_7, e222_8, hX222, RwO.nil_⟩
  · rintro ⟨out290, x292⟩ zz358 a358 w358 ⟨own358, A288, c289, hd359, hz359, e359_0, e359_3, e359_7, e359_8, hE359, b359_A288⟩ hs Q358 hn358 hp358 hz358
    have hs : window_All_b1 z1 r221 out290 x292 = some zz358 := hs
    refine rg_plain_seq (n := 26) (rs := []) (own0 := own358) (K := [])
        (bs := [0])
        (ds := [⟨[], [8, 7], [], Fct.val 9 (.bool (decide (x292 < r221)))⟩]) (by kernel_rfl) hz359 hd359 (fun _ h => nomatch h) ?_ ?_
    · refine steps_cons (fun own a wx hf hsl hE => ?_) ?_
      · obtain ⟨s_8, s_7, -⟩ := hsl
        exact sg_plain rfl rfl (or_lss (s_8.trans e359_8) (s_7.trans e359_7) rfl)
      exact steps_nil
    intro own360 a360 w360 hd360 hz360 hk360 hf360 hE360
    have e360_0 : a360.eval (.tmp 0) = .int .i64 z1 := (hk360 0 rfl).trans e359_0
    have e360_3 : a360.eval (.tmp 3) = .slice A288 out290.length c289 := (hk360 3 rfl).trans e359_3
    have e360_7 : a360.eval (.tmp 7) = .int .i64 r221 := (hk360 7 rfl).trans e359_7
    have e360_8 : a360.eval (.tmp 8) = .int .i64 x292 := (hk360 8 rfl).trans e359_8
    obtain ⟨(f_9 : a360.eval (.tmp 9) = .bool (decide (x292 < r221))), -⟩ := hf360 [0] rfl
    have e360_9 := f_9
    have hX360 := Evo.step hE359 (fun _ => Nat.le_refl 0) hE360 rfl
    have b360_A288 := RwO.evo rfl hE360 b359_A288
    refine fl_seq (fun Q361 hn361 hp361 => ?_)
    refine fl_cond e360_9 hs (fun c362 hs => ?_) (fun c362 hs => ?_)
    · refine fl_skip ?_
      refine hn361 _ _ ?_
      refine fl_seq (fun Q363 hn363 hp363 => ?_)
      refine fl_block (fun Q364 hn364 hx364 hp364 => ?_)
      refine rg_plain_seq (n := 26) (rs := []) (own0 := own360) (K := [])
          (bs := [0, 1])
          (ds := [⟨[], [8], [], Fct.val 10 (.int .i64 x292)⟩,
          ⟨[0], [], [], Fct.val 4 (.int .i64 x292)⟩]) (by kernel_rfl) hz360 hd360 (fun _ h => nomatch h) ?_ ?_
      · refine steps_cons (fun own a wx hf hsl hE => ?_) ?_
        · obtain ⟨s_8, -⟩ := hsl
          exact sg_plain rfl rfl (or_move (s_8.trans e360_8))
        refine steps_cons (fun own a wx hf hsl hE => ?_) ?_
        · obtain ⟨(f_10 : a.eval (.tmp 10) = .int .i64 x292), -⟩ := hf
          exact sg_plain rfl rfl (or_assign f_10)
        exact steps_nil
      intro own365 a365 w365 hd365 hz365 hk365 hf365 hE365
      have e365_0 : a365.eval (.tmp 0) = .int .i64 z1 := (hk365 0 rfl).trans e360_0
      have e365_3 : a365.eval (.tmp 3) = .slice A288 out290.length c289 := (hk365 3 rfl).trans e360_3
      have e365_7 : a365.eval (.tmp 7) = .int .i64 r221 := (hk365 7 rfl).trans e360_7
      have e365_8 : a365.eval (.tmp 8) = .int .i64 x292 := (hk365 8 rfl).trans e360_8
      obtain ⟨(f_4 : a365.eval (.tmp 4) = .int .i64 x292), -⟩ := hf365 [1] rfl
      have e365_4 := f_4
      have hX365 := Evo.step hX360 (fun _ => Nat.le_refl 0) hE365 rfl
      have b365_A288 := RwO.evo rfl hE365 b360_A288
      obtain ⟨r366, hr366, hs⟩ := obind hs
      refine rg_plain_seq (n := 26) (rs := []) (own0 := own365) (K := [])
          (bs := [0, 1, 0])
          (ds := [⟨[], [0], [], Fct.val 11 (.int .i64 z1)⟩,
          ⟨[0], [], [], Fct.val 12 (.int .i64 r366)⟩,
          ⟨[], [], [], Fct.val 13 (.int .i64 0)⟩]) (by kernel_rfl) hz365 hd365 (fun _ h => nomatch h) ?_ ?_
      · refine steps_cons (fun own a wx hf hsl hE => ?_) ?_
        · obtain ⟨s_0, -⟩ := hsl
          exact sg_plain rfl rfl (or_move (s_0.trans e365_0))
        refine steps_cons (fun own a wx hf hsl hE => ?_) ?_
        · obtain ⟨(f_11 : a.eval (.tmp 11) = .int .i64 z1), -⟩ := hf
          exact sg_plain rfl rfl (or_call cf32 (args1 f_11) (window_count_w _ z1  r366 hr366) post_val)
        refine steps_cons (fun own a wx hf hsl hE => ?_) ?_
        · exact sg_plain rfl rfl (or_move rfl)
        exact steps_nil
      intro own367 a367 w367 hd367 hz367 hk367 hf367 hE367
      have e367_0 : a367.eval (.tmp 0) = .int .i64 z1 := (hk367 0 rfl).trans e365_0
      have e367_3 : a367.eval (.tmp 3) = .slice A288 out290.length c289 := (hk367 3 rfl).trans e365_3
      have e367_4 : a367.eval (.tmp 4) = .int .i64 x292 := (hk367 4 rfl).trans e365_4
      have e367_7 : a367.eval (.tmp 7) = .int .i64 r221 := (hk367 7 rfl).trans e365_7
      have e367_8 : a367.eval (.tmp 8) = .int .i64 x292 := (hk367 8 rfl).trans e365_8
      obtain ⟨(f_12 : a367.eval (.tmp 12) = .int .i64 r366), (f_13 : a367.eval (.tmp 13) = .int .i64 0), -⟩ := hf367 [1, 2] rfl
      have e367_12 := f_12
      have e367_13 := f_13
      have hX367 := Evo.step hX365 (fun _ => Nat.le_refl 0) hE367 rfl
      have b367_A288 := RwO.evo rfl hE367 b365_A288
      refine fl_block (fun Q368 hn368 hx368 hp368 => ?_)
      refine fl_loop (body := (fun s => window_All_b2 z1 x292 r366 s.1 s.2)) (z := zz358) (show loopO _ _ = _ from hs) (fun (s : (List (Int × Int × Int)) × Int) a wx => match s with | (out387, x389) => ∃ (ox : Own) (A385 : Option Addr) (c386 : Nat), a.defers = [] ∧ a.tmps.size = 26 ∧ a.eval (.tmp 0) = .int .i64 z1 ∧ a.eval (.tmp 3) = .slice A385 out387.length c386 ∧ a.eval (.tmp 4) = .int .i64 x292 ∧ a.eval (.tmp 7) = .int .i64 r221 ∧ a.eval (.tmp 8) = .int .i64 x292 ∧ a.eval (.tmp 12) = .int .i64 r366 ∧ a.eval (.tmp 13) = .int .i64 x389 ∧ Evo [] (fun _ => 0) ox w wx ∧ RwO ox 388 [] wx 27 R27 A385 c386 out387) ?_ ?_
      · exact ⟨(rl [(291, 388)] own367), A288, c289, hd367, hz367, e367_0, e367_3, e367_4, e367_7, e367_8, e367_12, e367_13, (Evo.rl_ hX367 (fun _ => Nat.le_refl 0) rfl), (RwO.rl_ (mm := [(291, 388)]) b367_A288)⟩
      · rintro ⟨out387, x389⟩ zz406 a406 w406 ⟨own406, A385, c386, hd407, hz407, e407_0, e407_3, e407_4, e407_7, e407_8, e407_12, e407_13, hE407, b407_A385⟩ hs Q406 hn406 hp406 hz406
        have hs : window_All_b2 z1 x292 r366 out387 x389 = some zz406 := hs
        refine rg_plain_seq (n := 26) (rs := []) (own0 := own406) (K := [])
            (bs := [0])
            (ds := [⟨[], [13, 12], [], Fct.val 14 (.bool (decide (x389 < r366)))⟩]) (by kernel_rfl) hz407 hd407 (fun _ h => nomatch h) ?_ ?_
        · refine steps_cons (fun own a wx hf hsl hE => ?_) ?_
          · obtain ⟨s_13, s_12, -⟩ := hsl
            exact sg_plain rfl rfl (or_lss (s_13.trans e407_13) (s_12.trans e407_12) rfl)
          exact steps_nil
        intro own408 a408 w408 hd408 hz408 hk408 hf408 hE408
        have e408_0 : a408.eval (.tmp 0) = .int .i64 z1 := (hk408 0 rfl).trans e407_0
        have e408_3 : a408.eval (.tmp 3) = .slice A385 out387.length c386 := (hk408 3 rfl).trans e407_3
        have e408_4 : a408.eval (.tmp 4) = .int .i64 x292 := (hk408 4 rfl).trans e407_4
        have e408_7 : a408.eval (.tmp 7) = .int .i64 r221 := (hk408 7 rfl).trans e407_7
        have e408_8 : a408.eval (.tmp 8) = .int .i64 x292 := (hk408 8 rfl).trans e407_8
        have e408_12 : a408.eval (.tmp 12) = .int .i64 r366 := (hk408 12 rfl).trans e407_12
        have e408_13 : a408.eval (.tmp 13) = .int .i64 x389 := (hk408 13 rfl).trans e407_13
        obtain ⟨(f_14 : a408.eval (.tmp 14) = .bool (decide (x389 < r366))), -⟩ := hf408 [0] rfl
        have e408_14 := f_14
        have hX408 := Evo.step hE407 (fun _ => Nat.le_refl 0) hE408 rfl
        have b408_A385 := RwO.evo rfl hE408 b407_A385
        refine fl_seq (fun Q409 hn409 hp409 => ?_)
        refine fl_cond e408_14 hs (fun c410 hs => ?_) (fun c410 hs => ?_)
        · refine fl_skip ?_
          refine hn409 _ _ ?_
          refine fl_seq (fun Q411 hn411 hp411 => ?_)
          refine fl_block (fun Q412 hn412 hx412 hp412 => ?_)
          refine rg_plain_seq (n := 26) (rs := []) (own0 := own408) (K := [])
              (bs := [0, 1])
              (ds := [⟨[], [13], [], Fct.val 15 (.int .i64 x389)⟩,
              ⟨[0], [], [], Fct.val 5 (.int .i64 x389)⟩]) (by kernel_rfl) hz408 hd408 (fun _ h => nomatch h) ?_ ?_
          · refine steps_cons (fun own a wx hf hsl hE => ?_) ?_
            · obtain ⟨s_13, -⟩ := hsl
              exact sg_plain rfl rfl (or_move (s_13.trans e408_13))
            refine steps_cons (fun own a wx hf hsl hE => ?_) ?_
            · obtain ⟨(f_15 : a.eval (.tmp 15) = .int .i64 x389), -⟩ := hf
              exact sg_plain rfl rfl (or_assign f_15)
            exact steps_nil
          intro own413 a413 w413 hd413 hz413 hk413 hf413 hE413
          have e413_0 : a413.eval (.tmp 0) = .int .i64 z1 := (hk413 0 rfl).trans e408_0
          have e413_3 : a413.eval (.tmp 3) = .slice A385 out387.length c386 := (hk413 3 rfl).trans e408_3
          have e413_4 : a413.eval (.tmp 4) = .int .i64 x292 := (hk413 4 rfl).trans e408_4
          have e413_7 : a413.eval (.tmp 7) = .int .i64 r221 := (hk413 7 rfl).trans e408_7
          have e413_8 : a413.eval (.tmp 8) = .int .i64 x292 := (hk413 8 rfl).trans e408_8
          have e413_12 : a413.eval (.tmp 12) = .int .i64 r366 := (hk413 12 rfl).trans e408_12
          have e413_13 : a413.eval (.tmp 13) = .int .i64 x389 := (hk413 13 rfl).trans e408_13
          obtain ⟨(f_5 : a413.eval (.tmp 5) = .int .i64 x389), -⟩ := hf413 [1] rfl
          have e413_5 := f_5
          have hX413 := Evo.step hX408 (fun _ => Nat.le_refl 0) hE413 rfl
          have b413_A385 := RwO.evo rfl hE413 b408_A385
          obtain ⟨x418, hx418, hs⟩ := obind hs
          refine rg_plain (n := 26) (rs := [Fct.rowAt 388 [] 27 R27 A385 c386 out387]) (own0 := own413) (K := [388])
              (bs := [0, 0, 0, 0, 14, 30, 63, 127])
              (ds := [⟨[], [3], [], Fct.val 16 (.slice A385 out387.length c386)⟩,
              ⟨[], [0], [], Fct.val 17 (.int .i64 z1)⟩,
              ⟨[], [4], [], Fct.val 18 (.int .i64 x292)⟩,
              ⟨[], [5], [], Fct.val 19 (.int .i64 x389)⟩,
              ⟨[1, 2, 3], [], [], Fct.val 20 (.agg #[.int .i64 z1, .int .i64 x292, .int .i64 x389])⟩,
              ⟨[4], [], [], Fct.row 417 [] 21 27 R27 [(z1, x292, x389)]⟩,
              ⟨[0, 5, 8], [], [388], Fct.row 419 [] 22 27 R27 x418⟩,
              ⟨[6], [], [], Fct.rel [3, 22] (fun l => ∀ (A420 : Option Addr) (cA420 : Nat), l.getD 1 undef = .slice A420 x418.length cA420 → l.getD 0 undef = .slice A420 x418.length cA420)⟩]) (by kernel_rfl) hz413 hd413 (by simp only [List.forall_mem_cons]; exact ⟨b413_A385, fun _ h => nomatch h⟩) ?_ ?_
          · refine steps_cons (fun own a wx hf hsl hE => ?_) ?_
            · obtain ⟨s_3, -⟩ := hsl
              exact sg_plain rfl rfl (or_move (s_3.trans e413_3))
            refine steps_cons (fun own a wx hf hsl hE => ?_) ?_
            · obtain ⟨s_0, -⟩ := hsl
              exact sg_plain rfl rfl (or_move (s_0.trans e413_0))
            refine steps_cons (fun own a wx hf hsl hE => ?_) ?_
            · obtain ⟨s_4, -⟩ := hsl
              exact sg_plain rfl rfl (or_move (s_4.trans e413_4))
            refine steps_cons (fun own a wx hf hsl hE => ?_) ?_
            · obtain ⟨s_5, -⟩ := hsl
              exact sg_plain rfl rfl (or_move (s_5.trans e413_5))
            refine steps_cons (fun own a wx hf hsl hE => ?_) ?_
            · obtain ⟨(f_17 : a.eval (.tmp 17) = .int .i64 z1), (f_18 : a.eval (.tmp 18) = .int .i64 x292), (f_19 : a.eval (.tmp 19) = .int .i64 x389), -⟩ := hf
              exact sg_plain rfl rfl (or_k [(17, .int .i64 z1), (18, .int .i64 x292), (19, .int .i64 x389)] rfl rfl ⟨f_17, f_18, f_19, trivial⟩ (by kernel_rfl))
            refine steps_cons (fun own a wx hf hsl hE => ?_) ?_
            · obtain ⟨(f_20 : a.eval (.tmp 20) = .agg #[.int .i64 z1, .int .i64 x292, .int .i64 x389]), -⟩ := hf
              exact sg_plain rfl rfl (or_lit (lab := 417) (e := 27) (cs := #[.int .i64 z1, .int .i64 x292, .int .i64 x389]) (F := E27) (or_new [(20, .agg #[.int .i64 z1, .int .i64 x292, .int .i64 x389])] rfl rfl ⟨f_20, trivial⟩ (by kernel_rfl)) rfl rfl (show 1 ≤ maxLen by decide))
            refine steps_cons (fun own a wx hf hsl hE => ?_) ?_
            · obtain ⟨(f_16 : a.eval (.tmp 16) = .slice A385 out387.length c386), ⟨⟨A416, cA416⟩, (f_21 : a.eval (.tmp 21) = .slice A416 [(z1, x292, x389)].length cA416), (b_A416 : RwO own 417 [] wx 27 R27 A416 cA416 [(z1, x292, x389)])⟩, (b_A385 : RwO own 388 [] wx 27 R27 A385 c386 out387), -⟩ := hf
              exact sg_plain rfl rfl (or_append (R := R27) (lab := 388) (lab2 := 419) (L := []) (L3 := []) tp35 f_16 b_A385 (by decide) f_21 (RwO.rd b_A416) hx418 (by decide) (by decide) (mem_of rfl) (.inl (Rep.fl_flat _)))
            refine steps_cons (fun own a wx hf hsl hE => ?_) ?_
            · obtain ⟨⟨⟨A420, cA420⟩, (f_22 : a.eval (.tmp 22) = .slice A420 x418.length cA420), (b_A420 : RwO own 419 [] wx 27 R27 A420 cA420 x418)⟩, -⟩ := hf
              exact sg_plain rfl rfl (or_mono (f := Fct.val 3 (.slice A420 x418.length cA420)) (or_assign f_22) (fun own' a' w' v' hp h => fun _ _ h0' => by cases (f_22.symm.trans ((hp.2 22 (by decide)).symm.trans h0')); exact h))
            exact steps_nil
          intro own421 a421 w421 hd421 hz421 hk421 hf421 hE421
          have e421_0 : a421.eval (.tmp 0) = .int .i64 z1 := (hk421 0 rfl).trans e413_0
          have e421_4 : a421.eval (.tmp 4) = .int .i64 x292 := (hk421 4 rfl).trans e413_4
          have e421_7 : a421.eval (.tmp 7) = .int .i64 r221 := (hk421 7 rfl).trans e413_7
          have e421_8 : a421.eval (.tmp 8) = .int .i64 x292 := (hk421 8 rfl).trans e413_8
          have e421_12 : a421.eval (.tmp 12) = .int .i64 r366 := (hk421 12 rfl).trans e413_12
          have e421_13 : a421.eval (.tmp 13) = .int .i64 x389 := (hk421 13 rfl).trans e413_13
          obtain ⟨⟨⟨A420, cA420⟩, (f_22 : a421.eval (.tmp 22) = .slice A420 x418.length cA420), (b_A420 : RwO own421 419 [] w421 27 R27 A420 cA420 x418)⟩, (q_3 : ∀ (A420 : Option Addr) (cA420 : Nat), a421.eval (.tmp 22) = .slice A420 x418.length cA420 → a421.eval (.tmp 3) = .slice A420 x418.length cA420), -⟩ := hf421 [6, 7] rfl
          have f_3 := q_3 _ _ f_22
          have e421_3 := f_3
          have hX421 := Evo.step hX413 (fun _ => Nat.le_refl 0) hE421 rfl
          have b421_A420 := b_A420
          refine hn412 _ _ ?_
          refine hn411 _ _ ?_
          refine rg_plain (n := 26) (rs := []) (own0 := own421) (K := [])
              (bs := [0, 1])
              (ds := [⟨[], [13], [], Fct.val 23 (.int .i64 (ad x389 1))⟩,
              ⟨[0], [], [], Fct.val 13 (.int .i64 (ad x389 1))⟩]) (by kernel_rfl) hz421 hd421 (fun _ h => nomatch h) ?_ ?_
          · refine steps_cons (fun own a wx hf hsl hE => ?_) ?_
            · obtain ⟨s_13, -⟩ := hsl
              exact sg_plain rfl rfl (or_add (s_13.trans e421_13) rfl rfl)
            refine steps_cons (fun own a wx hf hsl hE => ?_) ?_
            · obtain ⟨(f_23 : a.eval (.tmp 23) = .int .i64 (ad x389 1)), -⟩ := hf
              exact sg_plain rfl rfl (or_move f_23)
            exact steps_nil
          intro own422 a422 w422 hd422 hz422 hk422 hf422 hE422
          have e422_0 : a422.eval (.tmp 0) = .int .i64 z1 := (hk422 0 rfl).trans e421_0
          have e422_3 : a422.eval (.tmp 3) = .slice A420 x418.length cA420 := (hk422 3 rfl).trans e421_3
          have e422_4 : a422.eval (.tmp 4) = .int .i64 x292 := (hk422 4 rfl).trans e421_4
          have e422_7 : a422.eval (.tmp 7) = .int .i64 r221 := (hk422 7 rfl).trans e421_7
          have e422_8 : a422.eval (.tmp 8) = .int .i64 x292 := (hk422 8 rfl).trans e421_8
          have e422_12 : a422.eval (.tmp 12) = .int .i64 r366 := (hk422 12 rfl).trans e421_12
          obtain ⟨(f_13 : a422.eval (.tmp 13) = .int .i64 (ad x389 1)), -⟩ := hf422 [1] rfl
          have e422_13 := f_13
          have hX422 := Evo.step hX421 (fun _ => Nat.le_refl 0) hE422 rfl
          have b422_A420 := RwO.evo rfl hE422 b421_A420
          exact hn406 _ _ _ hs ⟨(rl [(419, 388)] own422), A420, cA420, hd422, hz422, e422_0, e422_3, e422_4, e422_7, e422_8, e422_12, e422_13, (Evo.rl_ hX422 (fun _ => Nat.le_refl 0) rfl), (RwO.rl_ (mm := [(419, 388)]) b422_A420)⟩
        refine fl_exit ?_
        refine hp409 _ _ _ rfl ?_
        replace hs := hz406 _ hs
        refine hp406 _ _ _ rfl ?_
        refine hx368 _ _ ?_
        refine hn364 _ _ ?_
        refine hn363 _ _ ?_
        refine rg_plain (n := 26) (rs := []) (own0 := own408) (K := [])
            (bs := [0, 1])
            (ds := [⟨[], [8], [], Fct.val 24 (.int .i64 (ad x292 1))⟩,
            ⟨[0], [], [], Fct.val 8 (.int .i64 (ad x292 1))⟩]) (by kernel_rfl) hz408 hd408 (fun _ h => nomatch h) ?_ ?_
        · refine steps_cons (fun own a wx hf hsl hE => ?_) ?_
          · obtain ⟨s_8, -⟩ := hsl
            exact sg_plain rfl rfl (or_add (s_8.trans e408_8) rfl rfl)
          refine steps_cons (fun own a wx hf hsl hE => ?_) ?_
          · obtain ⟨(f_24 : a.eval (.tmp 24) = .int .i64 (ad x292 1)), -⟩ := hf
            exact sg_plain rfl rfl (or_move f_24)
          exact steps_nil
        intro own423 a423 w423 hd423 hz423 hk423 hf423 hE423
        have e423_0 : a423.eval (.tmp 0) = .int .i64 z1 := (hk423 0 rfl).trans e408_0
        have e423_3 : a423.eval (.tmp 3) = .slice A385 out387.length c386 := (hk423 3 rfl).trans e408_3
        have e423_7 : a423.eval (.tmp 7) = .int .i64 r221 := (hk423 7 rfl).trans e408_7
        obtain ⟨(f_8 : a423.eval (.tmp 8) = .int .i64 (ad x292 1)), -⟩ := hf423 [1] rfl
        have e423_8 := f_8
        have hX423 := Evo.step hX408 (fun _ => Nat.le_refl 0) hE423 rfl
        have b423_A385 := RwO.evo rfl hE423 b408_A385
        exact hn358 _ _ _ hs ⟨(rl [(388, 291)] own423), A385, c386, hd423, hz423, e423_0, e423_3, e423_7, e423_8, (Evo.rl_ hX423 (fun _ => Nat.le_refl 0) rfl), (RwO.rl_ (mm := [(388, 291)]) b423_A385)⟩
    refine fl_exit ?_
    refine hp361 _ _ _ rfl ?_
    replace hs := hz358 _ hs
    refine hp358 _ _ _ rfl ?_
    refine hx223 _ _ ?_
    refine hn220 _ _ ?_
    refine rg_plain_seq (n := 26) (rs := []) (own0 := own360) (K := [])
        (bs := [0, 1])
        (ds := [⟨[], [3], [], Fct.val 25 (.slice A288 out290.length c289)⟩,
        ⟨[0], [], [], Fct.val 2 (.slice A288 out290.length c289)⟩]) (by kernel_rfl) hz360 hd360 (fun _ h => nomatch h) ?_ ?_
    · refine steps_cons (fun own a wx hf hsl hE => ?_) ?_
      · obtain ⟨s_3, -⟩ := hsl
        exact sg_plain rfl rfl (or_move (s_3.trans e360_3))
      refine steps_cons (fun own a wx hf hsl hE => ?_) ?_
      · obtain ⟨(f_25 : a.eval (.tmp 25) = .slice A288 out290.length c289), -⟩ := hf
        exact sg_plain rfl rfl (or_assign f_25)
      exact steps_nil
    intro own424 a424 w424 hd424 hz424 hk424 hf424 hE424
    obtain ⟨(f_2 : a424.eval (.tmp 2) = .slice A288 out290.length c289), -⟩ := hf424 [1] rfl
    have e424_2 := f_2
    have hX424 := Evo.step hX360 (fun _ => Nat.le_refl 0) hE424 rfl
    have b424_A288 := RwO.evo rfl hE424 b360_A288
    refine fl_ret ?_
    obtain rfl := (osome hs).symm
    exact hret _ _ _ _ (.inl rfl) hd424 (results1_ rfl (RVal.tmp_ e424_2)) ⟨(rl [(291, 1)] own424), (A288, c289), rfl, (Evo.rl_ hX424 (fun _ => Nat.le_refl 0) rfl), (RwO.rl_ (mm := [(291, 1)]) b424_A288)⟩

set_option maxHeartbeats 2000000 in
theorem law20_WindowTiles_w (w : World) (x1 : Int × Int × Int) (b2 : Int × Int × Int) (buffer3 : Int) (r : Bool) (hs : law20_WindowTiles x1 b2 buffer3 = some r) :
    Calls Try.prog 5 #[.agg #[.int .i64 x1.1, .int .i64 x1.2.1, .int .i64 x1.2.2], .agg #[.int .i64 b2.1, .int .i64 b2.2.1, .int .i64 b2.2.2], .int .i64 buffer3] w fun e w' => ∃ own' : Own, e = .returned (.bool r) ∧ Evo [] (fun _ => 0) own' w w' := by
  refine fl_enter (n := 122) rfl rfl rfl (Nat.le_of_ble_eq_true rfl) ?_
  intro a0 Q hd0 hz0 harg hret
  have ha0 := harg 0 _ rfl
  have ha1 := harg 1 _ rfl
  have ha2 := harg 2 _ rfl
  clear harg
  have hE0 : Evo [] (fun _ => 0) (fun _ => 0) w w := Evo.refl _ _ _
  refine rg_plain_seq (n := 122) (rs := []) (own0 := (fun _ => 0)) (K := [])
      (bs := [0, 0, 0])
      (ds := [⟨[], [0], [], Fct.blk 92 3 (fun g => .pointer (some ⟨g, 0, none⟩)) 27 #[.int .i64 x1.1, .int .i64 x1.2.1, .int .i64 x1.2.2]⟩,
      ⟨[], [1], [], Fct.blk 94 4 (fun g => .pointer (some ⟨g, 0, none⟩)) 27 #[.int .i64 b2.1, .int .i64 b2.2.1, .int .i64 b2.2.2]⟩,
      ⟨[], [], [], Fct.val 6 (.bool false)⟩]) (by kernel_rfl) hz0 hd0 (fun _ h => nomatch h) ?_ ?_
  · refine steps_cons (fun own a wx hf hsl hE => ?_) ?_
    · obtain ⟨s_0, -⟩ := hsl
      exact sg_plain rfl rfl (or_new [(0, .agg #[.int .i64 x1.1, .int .i64 x1.2.1, .int .i64 x1.2.2])] rfl rfl ⟨(s_0.trans ha0), trivial⟩ (by kernel_rfl))
    refine steps_cons (fun own a wx hf hsl hE => ?_) ?_
    · obtain ⟨s_1, -⟩ := hsl
      exact sg_plain rfl rfl (or_new [(1, .agg #[.int .i64 b2.1, .int .i64 b2.2.1, .int .i64 b2.2.2])] rfl rfl ⟨(s_1.trans ha1), trivial⟩ (by kernel_rfl))
    refine steps_cons (fun own a wx hf hsl hE => ?_) ?_
    · exact sg_plain rfl rfl (or_assign rfl)
    exact steps_nil
  intro own95 a95 w95 hd95 hz95 hk95 hf95 hE95
  have e95_2 : a95.eval (.tmp 2) = .int .i64 buffer3 := (hk95 2 rfl).trans ha2
  obtain ⟨⟨g91, (f_3 : a95.eval (.tmp 3) = .pointer (some ⟨g91, 0, none⟩)), (b_g91 : BlkO own95 92 w95 g91 27 #[.int .i64 x1.1, .int .i64 x1.2.1, .int .i64 x1.2.2])⟩, ⟨g93, (f_4 : a95.eval (.tmp 4) = .pointer (some ⟨g93, 0, none⟩)), (b_g93 : BlkO own95 94 w95 g93 27 #[.int .i64 b2.1, .int .i64 b2.2.1, .int .i64 b2.2.2])⟩, -⟩ := hf95 [0, 1] rfl
  have e95_3 := f_3
  have e95_4 := f_4
  have hX95 := Evo.step hE0 (fun _ => Nat.le_refl 0) hE95 rfl
  have b95_g91 := b_g91
  have b95_g93 := b_g93
  obtain ⟨r96, hr96, hs⟩ := obind hs
  refine rg_plain_seq (n := 122) (rs := []) (own0 := own95) (K := [98])
      (bs := [0, 0, 3, 7, 15, 15, 0, 95, 255])
      (ds := [⟨[], [3], [], Fct.val 20 (.agg #[.int .i64 x1.1, .int .i64 x1.2.1, .int .i64 x1.2.2])⟩,
      ⟨[], [2], [], Fct.val 21 (.int .i64 buffer3)⟩,
      ⟨[0, 1], [], [], Fct.val 22 (.tuple #[.agg #[.int .i64 r96.1.1.1, .int .i64 r96.1.1.2, .int .i64 r96.1.2.1, .int .i64 r96.1.2.2], .bool r96.2])⟩,
      ⟨[2], [], [], Fct.val 19 (.tuple #[.agg #[.int .i64 r96.1.1.1, .int .i64 r96.1.1.2, .int .i64 r96.1.2.1, .int .i64 r96.1.2.2], .bool r96.2])⟩,
      ⟨[3], [], [], Fct.val 23 (.agg #[.int .i64 r96.1.1.1, .int .i64 r96.1.1.2, .int .i64 r96.1.2.1, .int .i64 r96.1.2.2])⟩,
      ⟨[3], [], [], Fct.val 24 (.bool r96.2)⟩,
      ⟨[], [], [], Fct.blk 98 7 (fun g => .pointer (some ⟨g, 0, none⟩)) 25 #[.int .i64 0, .int .i64 0, .int .i64 0, .int .i64 0]⟩,
      ⟨[6, 4], [], [98], Fct.blk 99 7 (fun g => .pointer (some ⟨g, 0, none⟩)) 25 #[.int .i64 r96.1.1.1, .int .i64 r96.1.1.2, .int .i64 r96.1.2.1, .int .i64 r96.1.2.2]⟩,
      ⟨[5], [], [], Fct.val 8 (.bool r96.2)⟩]) (by kernel_rfl) hz95 hd95 (fun _ h => nomatch h) ?_ ?_
  · refine steps_cons (fun own a wx hf hsl hE => ?_) ?_
    · obtain ⟨s_3, -⟩ := hsl
      exact sg_plain rfl rfl (or_load (l := [.int .i64 x1.1, .int .i64 x1.2.1, .int .i64 x1.2.2]) ta27 (s_3.trans e95_3) (Blk.cellsFrom (BlkO.evo (by decide) hE b95_g91).2 0 rfl) rfl)
    refine steps_cons (fun own a wx hf hsl hE => ?_) ?_
    · obtain ⟨s_2, -⟩ := hsl
      exact sg_plain rfl rfl (or_move (s_2.trans e95_2))
    refine steps_cons (fun own a wx hf hsl hE => ?_) ?_
    · obtain ⟨(f_20 : a.eval (.tmp 20) = .agg #[.int .i64 x1.1, .int .i64 x1.2.1, .int .i64 x1.2.2]), (f_21 : a.eval (.tmp 21) = .int .i64 buffer3), -⟩ := hf
      exact sg_plain rfl rfl (or_call cf14 (args2 f_20 f_21) (window_Window_w _ x1 buffer3  r96 hr96) post_val)
    refine steps_cons (fun own a wx hf hsl hE => ?_) ?_
    · obtain ⟨(f_22 : a.eval (.tmp 22) = .tuple #[.agg #[.int .i64 r96.1.1.1, .int .i64 r96.1.1.2, .int .i64 r96.1.2.1, .int .i64 r96.1.2.2], .bool r96.2]), -⟩ := hf
      exact sg_plain rfl rfl (or_move f_22)
    refine steps_cons (fun own a wx hf hsl hE => ?_) ?_
    · obtain ⟨(f_19 : a.eval (.tmp 19) = .tuple #[.agg #[.int .i64 r96.1.1.1, .int .i64 r96.1.1.2, .int .i64 r96.1.2.1, .int .i64 r96.1.2.2], .bool r96.2]), -⟩ := hf
      exact sg_plain rfl rfl (or_k [(19, .tuple #[.agg #[.int .i64 r96.1.1.1, .int .i64 r96.1.1.2, .int .i64 r96.1.2.1, .int .i64 r96.1.2.2], .bool r96.2])] rfl rfl ⟨f_19, trivial⟩ (by kernel_rfl))
    refine steps_cons (fun own a wx hf hsl hE => ?_) ?_
    · obtain ⟨(f_19 : a.eval (.tmp 19) = .tuple #[.agg #[.int .i64 r96.1.1.1, .int .i64 r96.1.1.2, .int .i64 r96.1.2.1, .int .i64 r96.1.2.2], .bool r96.2]), -⟩ := hf
      exact sg_plain rfl rfl (or_k [(19, .tuple #[.agg #[.int .i64 r96.1.1.1, .int .i64 r96.1.1.2, .int .i64 r96.1.2.1, .int .i64 r96.1.2.2], .bool r96.2])] rfl rfl ⟨f_19, trivial⟩ (by kernel_rfl))
    refine steps_cons (fun own a wx hf hsl hE => ?_) ?_
    · exact sg_plain rfl rfl (or_new [] rfl rfl trivial (by kernel_rfl))
    refine steps_cons (fun own a wx hf hsl hE => ?_) ?_
    · obtain ⟨⟨g97, (f_7 : a.eval (.tmp 7) = .pointer (some ⟨g97, 0, none⟩)), (b_g97 : BlkO own 98 wx g97 25 #[.int .i64 0, .int .i64 0, .int .i64 0, .int .i64 0])⟩, (f_23 : a.eval (.tmp 23) = .agg #[.int .i64 r96.1.1.1, .int .i64 r96.1.1.2, .int .i64 r96.1.2.1, .int .i64 r96.1.2.2]), -⟩ := hf
      exact sg_plain rfl rfl (or_store (l := #[.int .i64 r96.1.1.1, .int .i64 r96.1.1.2, .int .i64 r96.1.2.1, .int .i64 r96.1.2.2]) (lab := 98) (lab2 := 99) ts25 f_7 f_23 b_g97 (by simp) (by kernel_rfl) (mem_of rfl) (by decide) (by kernel_rfl) (fun own' a' w' ha hb => ⟨_, (ha 7).trans f_7, hb⟩))
    refine steps_cons (fun own a wx hf hsl hE => ?_) ?_
    · obtain ⟨(f_24 : a.eval (.tmp 24) = .bool r96.2), -⟩ := hf
      exact sg_plain rfl rfl (or_assign f_24)
    exact steps_nil
  intro own100 a100 w100 hd100 hz100 hk100 hf100 hE100
  have e100_2 : a100.eval (.tmp 2) = .int .i64 buffer3 := (hk100 2 rfl).trans e95_2
  have e100_3 : a100.eval (.tmp 3) = .pointer (some ⟨g91, 0, none⟩) := (hk100 3 rfl).trans e95_3
  have e100_4 : a100.eval (.tmp 4) = .pointer (some ⟨g93, 0, none⟩) := (hk100 4 rfl).trans e95_4
  obtain ⟨⟨g97, (f_7 : a100.eval (.tmp 7) = .pointer (some ⟨g97, 0, none⟩)), (b_g97 : BlkO own100 99 w100 g97 25 #[.int .i64 r96.1.1.1, .int .i64 r96.1.1.2, .int .i64 r96.1.2.1, .int .i64 r96.1.2.2])⟩, (f_8 : a100.eval (.tmp 8) = .bool r96.2), -⟩ := hf100 [7, 8] rfl
  have e100_7 := f_7
  have e100_8 := f_8
  have hX100 := Evo.step hX95 (fun _ => Nat.le_refl 0) hE100 rfl
  have b100_g91 := BlkO.evo (by decide) hE100 b95_g91
  have b100_g93 := BlkO.evo (by decide) hE100 b95_g93
  have b100_g97 := b_g97
  obtain ⟨r101, hr101, hs⟩ := obind hs
  refine rg_plain_seq (n := 122) (rs := []) (own0 := own100) (K := [103])
      (bs := [0, 0, 3, 7, 15, 15, 0, 95, 255])
      (ds := [⟨[], [3], [], Fct.val 26 (.agg #[.int .i64 x1.1, .int .i64 x1.2.1, .int .i64 x1.2.2])⟩,
      ⟨[], [2], [], Fct.val 27 (.int .i64 buffer3)⟩,
      ⟨[0, 1], [], [], Fct.val 28 (.tuple #[.agg #[.int .i64 r101.1.1.1, .int .i64 r101.1.1.2, .int .i64 r101.1.2.1, .int .i64 r101.1.2.2], .bool r101.2])⟩,
      ⟨[2], [], [], Fct.val 25 (.tuple #[.agg #[.int .i64 r101.1.1.1, .int .i64 r101.1.1.2, .int .i64 r101.1.2.1, .int .i64 r101.1.2.2], .bool r101.2])⟩,
      ⟨[3], [], [], Fct.val 29 (.agg #[.int .i64 r101.1.1.1, .int .i64 r101.1.1.2, .int .i64 r101.1.2.1, .int .i64 r101.1.2.2])⟩,
      ⟨[3], [], [], Fct.val 30 (.bool r101.2)⟩,
      ⟨[], [], [], Fct.blk 103 9 (fun g => .pointer (some ⟨g, 0, none⟩)) 41 #[.int .i64 0, .int .i64 0, .int .i64 0, .int .i64 0]⟩,
      ⟨[6, 4], [], [103], Fct.blk 104 9 (fun g => .pointer (some ⟨g, 0, none⟩)) 41 #[.int .i64 r101.1.1.1, .int .i64 r101.1.1.2, .int .i64 r101.1.2.1, .int .i64 r101.1.2.2]⟩,
      ⟨[5], [], [], Fct.val 10 (.bool r101.2)⟩]) (by kernel_rfl) hz100 hd100 (fun _ h => nomatch h) ?_ ?_
  · refine steps_cons (fun own a wx hf hsl hE => ?_) ?_
    · obtain ⟨s_3, -⟩ := hsl
      exact sg_plain rfl rfl (or_load (l := [.int .i64 x1.1, .int .i64 x1.2.1, .int .i64 x1.2.2]) ta27 (s_3.trans e100_3) (Blk.cellsFrom (BlkO.evo (by decide) hE b100_g91).2 0 rfl) rfl)
    refine steps_cons (fun own a wx hf hsl hE => ?_) ?_
    · obtain ⟨s_2, -⟩ := hsl
      exact sg_plain rfl rfl (or_move (s_2.trans e100_2))
    refine steps_cons (fun own a wx hf hsl hE => ?_) ?_
    · obtain ⟨(f_26 : a.eval (.tmp 26) = .agg #[.int .i64 x1.1, .int .i64 x1.2.1, .int .i64 x1.2.2]), (f_27 : a.eval (.tmp 27) = .int .i64 buffer3), -⟩ := hf
      exact sg_plain rfl rfl (or_call cf19 (args2 f_26 f_27) (ref20_Window_w _ x1 buffer3  r101 hr101) post_val)
    refine steps_cons (fun own a wx hf hsl hE => ?_) ?_
    · obtain ⟨(f_28 : a.eval (.tmp 28) = .tuple #[.agg #[.int .i64 r101.1.1.1, .int .i64 r101.1.1.2, .int .i64 r101.1.2.1, .int .i64 r101.1.2.2], .bool r101.2]), -⟩ := hf
      exact sg_plain rfl rfl (or_move f_28)
    refine steps_cons (fun own a wx hf hsl hE => ?_) ?_
    · obtain ⟨(f_25 : a.eval (.tmp 25) = .tuple #[.agg #[.int .i64 r101.1.1.1, .int .i64 r101.1.1.2, .int .i64 r101.1.2.1, .int .i64 r101.1.2.2], .bool r101.2]), -⟩ := hf
      exact sg_plain rfl rfl (or_k [(25, .tuple #[.agg #[.int .i64 r101.1.1.1, .int .i64 r101.1.1.2, .int .i64 r101.1.2.1, .int .i64 r101.1.2.2], .bool r101.2])] rfl rfl ⟨f_25, trivial⟩ (by kernel_rfl))
    refine steps_cons (fun own a wx hf hsl hE => ?_) ?_
    · obtain ⟨(f_25 : a.eval (.tmp 25) = .tuple #[.agg #[.int .i64 r101.1.1.1, .int .i64 r101.1.1.2, .int .i64 r101.1.2.1, .int .i64 r101.1.2.2], .bool r101.2]), -⟩ := hf
      exact sg_plain rfl rfl (or_k [(25, .tuple #[.agg #[.int .i64 r101.1.1.1, .int .i64 r101.1.1.2, .int .i64 r101.1.2.1, .int .i64 r101.1.2.2], .bool r101.2])] rfl rfl ⟨f_25, trivial⟩ (by kernel_rfl))
    refine steps_cons (fun own a wx hf hsl hE => ?_) ?_
    · exact sg_plain rfl rfl (or_new [] rfl rfl trivial (by kernel_rfl))
    refine steps_cons (fun own a wx hf hsl hE => ?_) ?_
    · obtain ⟨⟨g102, (f_9 : a.eval (.tmp 9) = .pointer (some ⟨g102, 0, none⟩)), (b_g102 : BlkO own 103 wx g102 41 #[.int .i64 0, .int .i64 0, .int .i64 0, .int .i64 0])⟩, (f_29 : a.eval (.tmp 29) = .agg #[.int .i64 r101.1.1.1, .int .i64 r101.1.1.2, .int .i64 r101.1.2.1, .int .i64 r101.1.2.2]), -⟩ := hf
      exact sg_plain rfl rfl (or_store (l := #[.int .i64 r101.1.1.1, .int .i64 r101.1.1.2, .int .i64 r101.1.2.1, .int .i64 r101.1.2.2]) (lab := 103) (lab2 := 104) ts41 f_9 f_29 b_g102 (by simp) (by kernel_rfl) (mem_of rfl) (by decide) (by kernel_rfl) (fun own' a' w' ha hb => ⟨_, (ha 9).trans f_9, hb⟩))
    refine steps_cons (fun own a wx hf hsl hE => ?_) ?_
    · obtain ⟨(f_30 : a.eval (.tmp 30) = .bool r101.2), -⟩ := hf
      exact sg_plain rfl rfl (or_assign f_30)
    exact steps_nil
  intro own105 a105 w105 hd105 hz105 hk105 hf105 hE105
  have e105_3 : a105.eval (.tmp 3) = .pointer (some ⟨g91, 0, none⟩) := (hk105 3 rfl).trans e100_3
  have e105_4 : a105.eval (.tmp 4) = .pointer (some ⟨g93, 0, none⟩) := (hk105 4 rfl).trans e100_4
  have e105_7 : a105.eval (.tmp 7) = .pointer (some ⟨g97, 0, none⟩) := (hk105 7 rfl).trans e100_7
  have e105_8 : a105.eval (.tmp 8) = .bool r96.2 := (hk105 8 rfl).trans e100_8
  obtain ⟨⟨g102, (f_9 : a105.eval (.tmp 9) = .pointer (some ⟨g102, 0, none⟩)), (b_g102 : BlkO own105 104 w105 g102 41 #[.int .i64 r101.1.1.1, .int .i64 r101.1.1.2, .int .i64 r101.1.2.1, .int .i64 r101.1.2.2])⟩, (f_10 : a105.eval (.tmp 10) = .bool r101.2), -⟩ := hf105 [7, 8] rfl
  have e105_9 := f_9
  have e105_10 := f_10
  have hX105 := Evo.step hX100 (fun _ => Nat.le_refl 0) hE105 rfl
  have b105_g91 := BlkO.evo (by decide) hE105 b100_g91
  have b105_g93 := BlkO.evo (by decide) hE105 b100_g93
  have b105_g97 := BlkO.evo (by decide) hE105 b100_g97
  have b105_g102 := b_g102
  obtain ⟨r106, hr106, hs⟩ := obind hs
  refine rg_plain_seq (n := 122) (rs := []) (own0 := own105) (K := [108])
      (bs := [0, 1, 3, 7, 7, 0, 47, 127])
      (ds := [⟨[], [3], [], Fct.val 32 (.agg #[.int .i64 x1.1, .int .i64 x1.2.1, .int .i64 x1.2.2])⟩,
      ⟨[0], [], [], Fct.val 33 (.tuple #[.agg #[.int .i64 r106.1.1.1, .int .i64 r106.1.1.2, .int .i64 r106.1.2.1, .int .i64 r106.1.2.2], .bool r106.2])⟩,
      ⟨[1], [], [], Fct.val 31 (.tuple #[.agg #[.int .i64 r106.1.1.1, .int .i64 r106.1.1.2, .int .i64 r106.1.2.1, .int .i64 r106.1.2.2], .bool r106.2])⟩,
      ⟨[2], [], [], Fct.val 34 (.agg #[.int .i64 r106.1.1.1, .int .i64 r106.1.1.2, .int .i64 r106.1.2.1, .int .i64 r106.1.2.2])⟩,
      ⟨[2], [], [], Fct.val 35 (.bool r106.2)⟩,
      ⟨[], [], [], Fct.blk 108 11 (fun g => .pointer (some ⟨g, 0, none⟩)) 25 #[.int .i64 0, .int .i64 0, .int .i64 0, .int .i64 0]⟩,
      ⟨[5, 3], [], [108], Fct.blk 109 11 (fun g => .pointer (some ⟨g, 0, none⟩)) 25 #[.int .i64 r106.1.1.1, .int .i64 r106.1.1.2, .int .i64 r106.1.2.1, .int .i64 r106.1.2.2]⟩,
      ⟨[4], [], [], Fct.val 12 (.bool r106.2)⟩]) (by kernel_rfl) hz105 hd105 (fun _ h => nomatch h) ?_ ?_
  · refine steps_cons (fun own a wx hf hsl hE => ?_) ?_
    · obtain ⟨s_3, -⟩ := hsl
      exact sg_plain rfl rfl (or_load (l := [.int .i64 x1.1, .int .i64 x1.2.1, .int .i64 x1.2.2]) ta27 (s_3.trans e105_3) (Blk.cellsFrom (BlkO.evo (by decide) hE b105_g91).2 0 rfl) rfl)
    refine steps_cons (fun own a wx hf hsl hE => ?_) ?_
    · obtain ⟨(f_32 : a.eval (.tmp 32) = .agg #[.int .i64 x1.1, .int .i64 x1.2.1, .int .i64 x1.2.2]), -⟩ := hf
      exact sg_plain rfl rfl (or_call cf18 (args1 f_32) (window_Place_w _ x1  r106 hr106) post_val)
    refine steps_cons (fun own a wx hf hsl hE => ?_) ?_
    · obtain ⟨(f_33 : a.eval (.tmp 33) = .tuple #[.agg #[.int .i64 r106.1.1.1, .int .i64 r106.1.1.2, .int .i64 r106.1.2.1, .int .i64 r106.1.2.2], .bool r106.2]), -⟩ := hf
      exact sg_plain rfl rfl (or_move f_33)
    refine steps_cons (fun own a wx hf hsl hE => ?_) ?_
    · obtain ⟨(f_31 : a.eval (.tmp 31) = .tuple #[.agg #[.int .i64 r106.1.1.1, .int .i64 r106.1.1.2, .int .i64 r106.1.2.1, .int .i64 r106.1.2.2], .bool r106.2]), -⟩ := hf
      exact sg_plain rfl rfl (or_k [(31, .tuple #[.agg #[.int .i64 r106.1.1.1, .int .i64 r106.1.1.2, .int .i64 r106.1.2.1, .int .i64 r106.1.2.2], .bool r106.2])] rfl rfl ⟨f_31, trivial⟩ (by kernel_rfl))
    refine steps_cons (fun own a wx hf hsl hE => ?_) ?_
    · obtain ⟨(f_31 : a.eval (.tmp 31) = .tuple #[.agg #[.int .i64 r106.1.1.1, .int .i64 r106.1.1.2, .int .i64 r106.1.2.1, .int .i64 r106.1.2.2], .bool r106.2]), -⟩ := hf
      exact sg_plain rfl rfl (or_k [(31, .tuple #[.agg #[.int .i64 r106.1.1.1, .int .i64 r106.1.1.2, .int .i64 r106.1.2.1, .int .i64 r106.1.2.2], .bool r106.2])] rfl rfl ⟨f_31, trivial⟩ (by kernel_rfl))
    refine steps_cons (fun own a wx hf hsl hE => ?_) ?_
    · exact sg_plain rfl rfl (or_new [] rfl rfl trivial (by kernel_rfl))
    refine steps_cons (fun own a wx hf hsl hE => ?_) ?_
    · obtain ⟨⟨g107, (f_11 : a.eval (.tmp 11) = .pointer (some ⟨g107, 0, none⟩)), (b_g107 : BlkO own 108 wx g107 25 #[.int .i64 0, .int .i64 0, .int .i64 0, .int .i64 0])⟩, (f_34 : a.eval (.tmp 34) = .agg #[.int .i64 r106.1.1.1, .int .i64 r106.1.1.2, .int .i64 r106.1.2.1, .int .i64 r106.1.2.2]), -⟩ := hf
      exact sg_plain rfl rfl (or_store (l := #[.int .i64 r106.1.1.1, .int .i64 r106.1.1.2, .int .i64 r106.1.2.1, .int .i64 r106.1.2.2]) (lab := 108) (lab2 := 109) ts25 f_11 f_34 b_g107 (by simp) (by kernel_rfl) (mem_of rfl) (by decide) (by kernel_rfl) (fun own' a' w' ha hb => ⟨_, (ha 11).trans f_11, hb⟩))
    refine steps_cons (fun own a wx hf hsl hE => ?_) ?_
    · obtain ⟨(f_35 : a.eval (.tmp 35) = .bool r106.2), -⟩ := hf
      exact sg_plain rfl rfl (or_assign f_35)
    exact steps_nil
  intro own110 a110 w110 hd110 hz110 hk110 hf110 hE110
  have e110_3 : a110.eval (.tmp 3) = .pointer (some ⟨g91, 0, none⟩) := (hk110 3 rfl).trans e105_3
  have e110_4 : a110.eval (.tmp 4) = .pointer (some ⟨g93, 0, none⟩) := (hk110 4 rfl).trans e105_4
  have e110_7 : a110.eval (.tmp 7) = .pointer (some ⟨g97, 0, none⟩) := (hk110 7 rfl).trans e105_7
  have e110_8 : a110.eval (.tmp 8) = .bool r96.2 := (hk110 8 rfl).trans e105_8
  have e110_9 : a110.eval (.tmp 9) = .pointer (some ⟨g102, 0, none⟩) := (hk110 9 rfl).trans e105_9
  have e110_10 : a110.eval (.tmp 10) = .bool r101.2 := (hk110 10 rfl).trans e105_10
  obtain ⟨⟨g107, (f_11 : a110.eval (.tmp 11) = .pointer (some ⟨g107, 0, none⟩)), (b_g107 : BlkO own110 109 w110 g107 25 #[.int .i64 r106.1.1.1, .int .i64 r106.1.1.2, .int .i64 r106.1.2.1, .int .i64 r106.1.2.2])⟩, (f_12 : a110.eval (.tmp 12) = .bool r106.2), -⟩ := hf110 [6, 7] rfl
  have e110_11 := f_11
  have e110_12 := f_12
  have hX110 := Evo.step hX105 (fun _ => Nat.le_refl 0) hE110 rfl
  have b110_g91 := BlkO.evo (by decide) hE110 b105_g91
  have b110_g93 := BlkO.evo (by decide) hE110 b105_g93
  have b110_g97 := BlkO.evo (by decide) hE110 b105_g97
  have b110_g102 := BlkO.evo (by decide) hE110 b105_g102
  have b110_g107 := b_g107
  obtain ⟨r111, hr111, hs⟩ := obind hs
  refine rg_plain_seq (n := 122) (rs := []) (own0 := own110) (K := [113])
      (bs := [0, 1, 3, 7, 7, 0, 47, 127])
      (ds := [⟨[], [3], [], Fct.val 37 (.agg #[.int .i64 x1.1, .int .i64 x1.2.1, .int .i64 x1.2.2])⟩,
      ⟨[0], [], [], Fct.val 38 (.tuple #[.agg #[.int .i64 r111.1.1.1, .int .i64 r111.1.1.2, .int .i64 r111.1.2.1, .int .i64 r111.1.2.2], .bool r111.2])⟩,
      ⟨[1], [], [], Fct.val 36 (.tuple #[.agg #[.int .i64 r111.1.1.1, .int .i64 r111.1.1.2, .int .i64 r111.1.2.1, .int .i64 r111.1.2.2], .bool r111.2])⟩,
      ⟨[2], [], [], Fct.val 39 (.agg #[.int .i64 r111.1.1.1, .int .i64 r111.1.1.2, .int .i64 r111.1.2.1, .int .i64 r111.1.2.2])⟩,
      ⟨[2], [], [], Fct.val 40 (.bool r111.2)⟩,
      ⟨[], [], [], Fct.blk 113 13 (fun g => .pointer (some ⟨g, 0, none⟩)) 41 #[.int .i64 0, .int .i64 0, .int .i64 0, .int .i64 0]⟩,
      ⟨[5, 3], [], [113], Fct.blk 114 13 (fun g => .pointer (some ⟨g, 0, none⟩)) 41 #[.int .i64 r111.1.1.1, .int .i64 r111.1.1.2, .int .i64 r111.1.2.1, .int .i64 r111.1.2.2]⟩,
      ⟨[4], [], [], Fct.val 14 (.bool r111.2)⟩]) (by kernel_rfl) hz110 hd110 (fun _ h => nomatch h) ?_ ?_
  · refine steps_cons (fun own a wx hf hsl hE => ?_) ?_
    · obtain ⟨s_3, -⟩ := hsl
      exact sg_plain rfl rfl (or_load (l := [.int .i64 x1.1, .int .i64 x1.2.1, .int .i64 x1.2.2]) ta27 (s_3.trans e110_3) (Blk.cellsFrom (BlkO.evo (by decide) hE b110_g91).2 0 rfl) rfl)
    refine steps_cons (fun own a wx hf hsl hE => ?_) ?_
    · obtain ⟨(f_37 : a.eval (.tmp 37) = .agg #[.int .i64 x1.1, .int .i64 x1.2.1, .int .i64 x1.2.2]), -⟩ := hf
      exact sg_plain rfl rfl (or_call cf19 (args2 f_37 rfl) (ref20_Window_w _ x1 0  r111 hr111) post_val)
    refine steps_cons (fun own a wx hf hsl hE => ?_) ?_
    · obtain ⟨(f_38 : a.eval (.tmp 38) = .tuple #[.agg #[.int .i64 r111.1.1.1, .int .i64 r111.1.1.2, .int .i64 r111.1.2.1, .int .i64 r111.1.2.2], .bool r111.2]), -⟩ := hf
      exact sg_plain rfl rfl (or_move f_38)
    refine steps_cons (fun own a wx hf hsl hE => ?_) ?_
    · obtain ⟨(f_36 : a.eval (.tmp 36) = .tuple #[.agg #[.int .i64 r111.1.1.1, .int .i64 r111.1.1.2, .int .i64 r111.1.2.1, .int .i64 r111.1.2.2], .bool r111.2]), -⟩ := hf
      exact sg_plain rfl rfl (or_k [(36, .tuple #[.agg #[.int .i64 r111.1.1.1, .int .i64 r111.1.1.2, .int .i64 r111.1.2.1, .int .i64 r111.1.2.2], .bool r111.2])] rfl rfl ⟨f_36, trivial⟩ (by kernel_rfl))
    refine steps_cons (fun own a wx hf hsl hE => ?_) ?_
    · obtain ⟨(f_36 : a.eval (.tmp 36) = .tuple #[.agg #[.int .i64 r111.1.1.1, .int .i64 r111.1.1.2, .int .i64 r111.1.2.1, .int .i64 r111.1.2.2], .bool r111.2]), -⟩ := hf
      exact sg_plain rfl rfl (or_k [(36, .tuple #[.agg #[.int .i64 r111.1.1.1, .int .i64 r111.1.1.2, .int .i64 r111.1.2.1, .int .i64 r111.1.2.2], .bool r111.2])] rfl rfl ⟨f_36, trivial⟩ (by kernel_rfl))
    refine steps_cons (fun own a wx hf hsl hE => ?_) ?_
    · exact sg_plain rfl rfl (or_new [] rfl rfl trivial (by kernel_rfl))
    refine steps_cons (fun own a wx hf hsl hE => ?_) ?_
    · obtain ⟨⟨g112, (f_13 : a.eval (.tmp 13) = .pointer (some ⟨g112, 0, none⟩)), (b_g112 : BlkO own 113 wx g112 41 #[.int .i64 0, .int .i64 0, .int .i64 0, .int .i64 0])⟩, (f_39 : a.eval (.tmp 39) = .agg #[.int .i64 r111.1.1.1, .int .i64 r111.1.1.2, .int .i64 r111.1.2.1, .int .i64 r111.1.2.2]), -⟩ := hf
      exact sg_plain rfl rfl (or_store (l := #[.int .i64 r111.1.1.1, .int .i64 r111.1.1.2, .int .i64 r111.1.2.1, .int .i64 r111.1.2.2]) (lab := 113) (lab2 := 114) ts41 f_13 f_39 b_g112 (by simp) (by kernel_rfl) (mem_of rfl) (by decide) (by kernel_rfl) (fun own' a' w' ha hb => ⟨_, (ha 13).trans f_13, hb⟩))
    refine steps_cons (fun own a wx hf hsl hE => ?_) ?_
    · obtain ⟨(f_40 : a.eval (.tmp 40) = .bool r111.2), -⟩ := hf
      exact sg_plain rfl rfl (or_assign f_40)
    exact steps_nil
  intro own115 a115 w115 hd115 hz115 hk115 hf115 hE115
  have e115_3 : a115.eval (.tmp 3) = .pointer (some ⟨g91, 0, none⟩) := (hk115 3 rfl).trans e110_3
  have e115_4 : a115.eval (.tmp 4) = .pointer (some ⟨g93, 0, none⟩) := (hk115 4 rfl).trans e110_4
  have e115_7 : a115.eval (.tmp 7) = .pointer (some ⟨g97, 0, none⟩) := (hk115 7 rfl).trans e110_7
  have e115_8 : a115.eval (.tmp 8) = .bool r96.2 := (hk115 8 rfl).trans e110_8
  have e115_9 : a115.eval (.tmp 9) = .pointer (some ⟨g102, 0, none⟩) := (hk115 9 rfl).trans e110_9
  have e115_10 : a115.eval (.tmp 10) = .bool r101.2 := (hk115 10 rfl).trans e110_10
  have e115_11 : a115.eval (.tmp 11) = .pointer (some ⟨g107, 0, none⟩) := (hk115 11 rfl).trans e110_11
  have e115_12 : a115.eval (.tmp 12) = .bool r106.2 := (hk115 12 rfl).trans e110_12
  obtain ⟨⟨g112, (f_13 : a115.eval (.tmp 13) = .pointer (some ⟨g112, 0, none⟩)), (b_g112 : BlkO own115 114 w115 g112 41 #[.int .i64 r111.1.1.1, .int .i64 r111.1.1.2, .int .i64 r111.1.2.1, .int .i64 r111.1.2.2])⟩, (f_14 : a115.eval (.tmp 14) = .bool r111.2), -⟩ := hf115 [6, 7] rfl
  have e115_13 := f_13
  have e115_14 := f_14
  have hX115 := Evo.step hX110 (fun _ => Nat.le_refl 0) hE115 rfl
  have b115_g91 := BlkO.evo (by decide) hE115 b110_g91
  have b115_g93 := BlkO.evo (by decide) hE115 b110_g93
  have b115_g97 := BlkO.evo (by decide) hE115 b110_g97
  have b115_g102 := BlkO.evo (by decide) hE115 b110_g102
  have b115_g107 := BlkO.evo (by decide) hE115 b110_g107
  have b115_g112 := b_g112
  refine fl_seq (fun Q116 hn116 hp116 => ?_)
  obtain ⟨r117, hr117, hs⟩ := obind hs
  obtain ⟨r118, hr118, hs⟩ := obind hs
  obtain ⟨x119, hx119, hs⟩ := obind hs
  obtain ⟨r120, hr120, hs⟩ := obind hs
  obtain ⟨x121, hx121, hs⟩ := obind hs
  obtain ⟨r122, hr122, hs⟩ := obind hs
  obtain ⟨r123, hr123, hs⟩ := obind hs
  obtain ⟨r124, hr124, hs⟩ := obind hs
  obtain ⟨x125, hx125, hs⟩ := obind hs
  obtain ⟨r126, hr126, hs⟩ := obind hs
  obtain ⟨r129, hr129, hs⟩ := obind hs
  obtain ⟨r132, hr132, hs⟩ := obind hs
  refine rg_draw_seq g_mixed (n := 122) (rs := []) (own0 := own115) (K := [])
      (bs := [0, 1, 0, 7, 15, 31, 63, 63, 255, 511, 1023, 2047, 4095, 2047, 16383, 32767, 65535, 131071, 131071, 524287, 1048575, 2097151, 4194303, 8388607, 4194303, 33554431, 67108863, 134217727, 268435455, 268435455, 1073741823, 268435455, 268435455, 8589934591, 17179869183, 34359738367, 68719476735, 137438953471, 274877906943, 549755813887, 137438953471, 1236950581247, 4398046511103, 8796093022207, 17592186044415, 35184372088831])
      (ds := [⟨[], [3], [], Fct.val 41 (.agg #[.int .i64 x1.1, .int .i64 x1.2.1, .int .i64 x1.2.2])⟩,
      ⟨[0], [], [], Fct.val 42 (.bool r117)⟩,
      ⟨[], [3], [], Fct.val 43 (.agg #[.int .i64 x1.1, .int .i64 x1.2.1, .int .i64 x1.2.2])⟩,
      ⟨[2], [], [], Fct.val 44 (.bool r118)⟩,
      ⟨[1, 3], [], [], Fct.val 45 (.bool (!(r117 == r118)))⟩,
      ⟨[4], [], [], Fct.val 46 (.bool (!(r117 == r118)))⟩,
      ⟨[5], [8], [], Fct.cond (!(!(r117 == r118))) (some 47) (Fct.val 47 (.bool r96.2))⟩,
      ⟨[5], [10], [], Fct.cond (!(!(r117 == r118))) (some 48) (Fct.val 48 (.bool r101.2))⟩,
      ⟨[5, 6, 7], [], [], Fct.cond (!(!(r117 == r118))) (some 49) (Fct.val 49 (.bool (!(r96.2 == r101.2))))⟩,
      ⟨[5, 8], [], [], Fct.val 50 (.bool x119)⟩,
      ⟨[9], [], [], Fct.val 51 (.bool x119)⟩,
      ⟨[10], [7], [], Fct.cond (!x119) (some 52) (Fct.val 52 (.agg #[.int .i64 r96.1.1.1, .int .i64 r96.1.1.2, .int .i64 r96.1.2.1, .int .i64 r96.1.2.2]))⟩,
      ⟨[10, 11], [], [], Fct.cond (!x119) (some 53) (Fct.val 53 (.agg #[.int .i64 r120.1.1, .int .i64 r120.1.2, .int .i64 r120.2.1, .int .i64 r120.2.2]))⟩,
      ⟨[10], [9], [], Fct.cond (!x119) (some 54) (Fct.val 54 (.agg #[.int .i64 r101.1.1.1, .int .i64 r101.1.1.2, .int .i64 r101.1.2.1, .int .i64 r101.1.2.2]))⟩,
      ⟨[10, 12, 13], [], [], Fct.cond (!x119) (some 55) (Fct.val 55 (.bool (!decide (r120 = r101.1))))⟩,
      ⟨[10, 14], [], [], Fct.val 56 (.bool (x119 || (!decide (r120 = r101.1))))⟩,
      ⟨[15], [], [], Fct.val 57 (.bool (x119 || (!decide (r120 = r101.1))))⟩,
      ⟨[16], [12], [], Fct.cond (!(x119 || (!decide (r120 = r101.1)))) (some 58) (Fct.val 58 (.bool r106.2))⟩,
      ⟨[16], [14], [], Fct.cond (!(x119 || (!decide (r120 = r101.1)))) (some 59) (Fct.val 59 (.bool r111.2))⟩,
      ⟨[16, 17, 18], [], [], Fct.cond (!(x119 || (!decide (r120 = r101.1)))) (some 60) (Fct.val 60 (.bool (!(r106.2 == r111.2))))⟩,
      ⟨[16, 19], [], [], Fct.val 61 (.bool x121)⟩,
      ⟨[20], [], [], Fct.val 62 (.bool x121)⟩,
      ⟨[21], [11], [], Fct.cond (!x121) (some 63) (Fct.val 63 (.agg #[.int .i64 r106.1.1.1, .int .i64 r106.1.1.2, .int .i64 r106.1.2.1, .int .i64 r106.1.2.2]))⟩,
      ⟨[21, 22], [], [], Fct.cond (!x121) (some 64) (Fct.val 64 (.agg #[.int .i64 r122.1.1, .int .i64 r122.1.2, .int .i64 r122.2.1, .int .i64 r122.2.2]))⟩,
      ⟨[21], [13], [], Fct.cond (!x121) (some 65) (Fct.val 65 (.agg #[.int .i64 r111.1.1.1, .int .i64 r111.1.1.2, .int .i64 r111.1.2.1, .int .i64 r111.1.2.2]))⟩,
      ⟨[21, 23, 24], [], [], Fct.cond (!x121) (some 66) (Fct.val 66 (.bool (!decide (r122 = r111.1))))⟩,
      ⟨[21, 25], [], [], Fct.val 67 (.bool (x121 || (!decide (r122 = r111.1))))⟩,
      ⟨[26], [], [], Fct.val 68 (.bool (x121 || (!decide (r122 = r111.1))))⟩,
      ⟨[27], [3], [], Fct.cond (!(x121 || (!decide (r122 = r111.1)))) (some 69) (Fct.val 69 (.agg #[.int .i64 x1.1, .int .i64 x1.2.1, .int .i64 x1.2.2]))⟩,
      ⟨[27], [4], [], Fct.cond (!(x121 || (!decide (r122 = r111.1)))) (some 70) (Fct.val 70 (.agg #[.int .i64 b2.1, .int .i64 b2.2.1, .int .i64 b2.2.2]))⟩,
      ⟨[27, 28, 29], [], [], Fct.cond (!(x121 || (!decide (r122 = r111.1)))) (some 71) (Fct.val 71 (.bool r123))⟩,
      ⟨[27], [3], [], Fct.cond (!(x121 || (!decide (r122 = r111.1)))) (some 72) (Fct.val 72 (.agg #[.int .i64 x1.1, .int .i64 x1.2.1, .int .i64 x1.2.2]))⟩,
      ⟨[27], [4], [], Fct.cond (!(x121 || (!decide (r122 = r111.1)))) (some 73) (Fct.val 73 (.agg #[.int .i64 b2.1, .int .i64 b2.2.1, .int .i64 b2.2.2]))⟩,
      ⟨[27, 31, 32], [], [], Fct.cond (!(x121 || (!decide (r122 = r111.1)))) (some 74) (Fct.val 74 (.bool r124))⟩,
      ⟨[27, 30, 33], [], [], Fct.cond (!(x121 || (!decide (r122 = r111.1)))) (some 75) (Fct.val 75 (.bool (!(r123 == r124))))⟩,
      ⟨[27, 34], [], [], Fct.val 76 (.bool x125)⟩,
      ⟨[35], [], [], Fct.val 77 (.bool x125)⟩,
      ⟨[36], [3], [], Fct.cond (!x125) (some 78) (Fct.val 78 (.pointer (some ⟨g91, 0, none⟩)))⟩,
      ⟨[36, 37], [], [], Fct.cond (!x125) (some 79) (Fct.val 79 (.int .i64 x1.1))⟩,
      ⟨[36, 38], [], [], Fct.cond (!x125) (some 80) (Fct.row 128 [] 80 27 R27 r126)⟩,
      ⟨[36], [3], [], Fct.cond (!x125) (some 81) (Fct.val 81 (.pointer (some ⟨g91, 0, none⟩)))⟩,
      ⟨[36, 40], [], [], Fct.cond (!x125) (some 82) (Fct.val 82 (.int .i64 x1.1))⟩,
      ⟨[36, 41], [], [], Fct.cond (!x125) (some 83) (Fct.row 131 [] 83 30 R30 r129)⟩,
      ⟨[36, 39, 42], [], [], Fct.cond (!x125) (some 84) (Fct.val 84 (.bool r132))⟩,
      ⟨[36, 43], [], [], Fct.cond (!x125) (some 85) (Fct.val 85 (.bool (!r132)))⟩,
      ⟨[36, 44], [], [], Fct.val 86 (.bool (x125 || (!r132)))⟩]) (by kernel_rfl) hz115 hd115 (fun _ h => nomatch h) ?_ ?_
  · refine steps_cons (fun own a wx hf hsl hE => ?_) ?_
    · obtain ⟨s_3, -⟩ := hsl
      exact sg_plain rfl rfl (or_load (l := [.int .i64 x1.1, .int .i64 x1.2.1, .int .i64 x1.2.2]) ta27 (s_3.trans e115_3) (Blk.cellsFrom (BlkO.evo (by decide) hE b115_g91).2 0 rfl) rfl)
    refine steps_cons (fun own a wx hf hsl hE => ?_) ?_
    · obtain ⟨(f_41 : a.eval (.tmp 41) = .agg #[.int .i64 x1.1, .int .i64 x1.2.1, .int .i64 x1.2.2]), -⟩ := hf
      exact sg_plain rfl rfl (or_call cf20 (args1 f_41) (window_Right_w _ x1  r117 hr117) post_val)
    refine steps_cons (fun own a wx hf hsl hE => ?_) ?_
    · obtain ⟨s_3, -⟩ := hsl
      exact sg_plain rfl rfl (or_load (l := [.int .i64 x1.1, .int .i64 x1.2.1, .int .i64 x1.2.2]) ta27 (s_3.trans e115_3) (Blk.cellsFrom (BlkO.evo (by decide) hE b115_g91).2 0 rfl) rfl)
    refine steps_cons (fun own a wx hf hsl hE => ?_) ?_
    · obtain ⟨(f_43 : a.eval (.tmp 43) = .agg #[.int .i64 x1.1, .int .i64 x1.2.1, .int .i64 x1.2.2]), -⟩ := hf
      exact sg_plain rfl rfl (or_call cf21 (args1 f_43) (ref20_Right_w _ x1  r118 hr118) post_val)
    refine steps_cons (fun own a wx hf hsl hE => ?_) ?_
    · obtain ⟨(f_42 : a.eval (.tmp 42) = .bool r117), (f_44 : a.eval (.tmp 44) = .bool r118), -⟩ := hf
      exact sg_plain rfl rfl (or_neqb tb4 f_42 f_44 rfl)
    refine steps_cons (fun own a wx hf hsl hE => ?_) ?_
    · obtain ⟨(f_45 : a.eval (.tmp 45) = .bool (!(r117 == r118))), -⟩ := hf
      exact sg_plain rfl rfl (or_move f_45)
    refine steps_cons (fun own a wx hf hsl hE => ?_) ?_
    · obtain ⟨(f_46 : a.eval (.tmp 46) = .bool (!(r117 == r118))), -⟩ := hf
      obtain ⟨s_8, -⟩ := hsl
      refine sg_f rfl rfl rfl f_46 (fun hg => ?_)
      exact or_move (s_8.trans e115_8)
    refine steps_cons (fun own a wx hf hsl hE => ?_) ?_
    · obtain ⟨(f_46 : a.eval (.tmp 46) = .bool (!(r117 == r118))), -⟩ := hf
      obtain ⟨s_10, -⟩ := hsl
      refine sg_f rfl rfl rfl f_46 (fun hg => ?_)
      exact or_move (s_10.trans e115_10)
    refine steps_cons (fun own a wx hf hsl hE => ?_) ?_
    · obtain ⟨(f_46 : a.eval (.tmp 46) = .bool (!(r117 == r118))), c_47, c_48, -⟩ := hf
      refine sg_f rfl rfl rfl f_46 (fun hg => ?_)
      have f_47 : a.eval (.tmp 47) = .bool r96.2 := c_47.1 hg
      have f_48 : a.eval (.tmp 48) = .bool r101.2 := c_48.1 hg
      exact or_neqb tb4 f_47 f_48 rfl
    refine steps_cons (fun own a wx hf hsl hE => ?_) ?_
    · obtain ⟨(f_46 : a.eval (.tmp 46) = .bool (!(r117 == r118))), c_49, -⟩ := hf
      exact sg_plain rfl rfl (or_or f_46 rfl (fun hx => c_49.1 hx) (osome hx119).symm)
    refine steps_cons (fun own a wx hf hsl hE => ?_) ?_
    · obtain ⟨(f_50 : a.eval (.tmp 50) = .bool x119), -⟩ := hf
      exact sg_plain rfl rfl (or_move f_50)
    refine steps_cons (fun own a wx hf hsl hE => ?_) ?_
    · obtain ⟨(f_51 : a.eval (.tmp 51) = .bool x119), -⟩ := hf
      obtain ⟨s_7, -⟩ := hsl
      refine sg_f rfl rfl rfl f_51 (fun hg => ?_)
      exact or_load (l := [.int .i64 r96.1.1.1, .int .i64 r96.1.1.2, .int .i64 r96.1.2.1, .int .i64 r96.1.2.2]) ta25 (s_7.trans e115_7) (Blk.cellsFrom (BlkO.evo (by decide) hE b115_g97).2 0 rfl) rfl
    refine steps_cons (fun own a wx hf hsl hE => ?_) ?_
    · obtain ⟨(f_51 : a.eval (.tmp 51) = .bool x119), c_52, -⟩ := hf
      refine sg_f rfl rfl rfl f_51 (fun hg => ?_)
      have f_52 : a.eval (.tmp 52) = .agg #[.int .i64 r96.1.1.1, .int .i64 r96.1.1.2, .int .i64 r96.1.2.1, .int .i64 r96.1.2.2] := c_52.1 hg
      exact or_call cf13 (args1 f_52) (law20_box_w _ r96.1  r120 (gd_t hr120 hg)) post_val
    refine steps_cons (fun own a wx hf hsl hE => ?_) ?_
    · obtain ⟨(f_51 : a.eval (.tmp 51) = .bool x119), -⟩ := hf
      obtain ⟨s_9, -⟩ := hsl
      refine sg_f rfl rfl rfl f_51 (fun hg => ?_)
      exact or_load (l := [.int .i64 r101.1.1.1, .int .i64 r101.1.1.2, .int .i64 r101.1.2.1, .int .i64 r101.1.2.2]) ta41 (s_9.trans e115_9) (Blk.cellsFrom (BlkO.evo (by decide) hE b115_g102).2 0 rfl) rfl
    refine steps_cons (fun own a wx hf hsl hE => ?_) ?_
    · obtain ⟨(f_51 : a.eval (.tmp 51) = .bool x119), c_53, c_54, -⟩ := hf
      refine sg_f rfl rfl rfl f_51 (fun hg => ?_)
      have f_53 : a.eval (.tmp 53) = .agg #[.int .i64 r120.1.1, .int .i64 r120.1.2, .int .i64 r120.2.1, .int .i64 r120.2.2] := c_53.1 hg
      have f_54 : a.eval (.tmp 54) = .agg #[.int .i64 r101.1.1.1, .int .i64 r101.1.1.2, .int .i64 r101.1.2.1, .int .i64 r101.1.2.2] := c_54.1 hg
      exact or_neqA sg41 f_53 f_54 (sn41 r120.1.1 r120.1.2 r120.2.1 r120.2.2 r101.1.1.1 r101.1.1.2 r101.1.2.1 r101.1.2.2 _) rfl
    refine steps_cons (fun own a wx hf hsl hE => ?_) ?_
    · obtain ⟨(f_51 : a.eval (.tmp 51) = .bool x119), c_55, -⟩ := hf
      exact sg_plain rfl rfl (or_or f_51 rfl (fun hx => c_55.1 hx) rfl)
    refine steps_cons (fun own a wx hf hsl hE => ?_) ?_
    · obtain ⟨(f_56 : a.eval (.tmp 56) = .bool (x119 || (!decide (r120 = r101.1)))), -⟩ := hf
      exact sg_plain rfl rfl (or_move f_56)
    refine steps_cons (fun own a wx hf hsl hE => ?_) ?_
    · obtain ⟨(f_57 : a.eval (.tmp 57) = .bool (x119 || (!decide (r120 = r101.1)))), -⟩ := hf
      obtain ⟨s_12, -⟩ := hsl
      refine sg_f rfl rfl rfl f_57 (fun hg => ?_)
      exact or_move (s_12.trans e115_12)
    refine steps_cons (fun own a wx hf hsl hE => ?_) ?_
    · obtain ⟨(f_57 : a.eval (.tmp 57) = .bool (x119 || (!decide (r120 = r101.1)))), -⟩ := hf
      obtain ⟨s_14, -⟩ := hsl
      refine sg_f rfl rfl rfl f_57 (fun hg => ?_)
      exact or_move (s_14.trans e115_14)
    refine steps_cons (fun own a wx hf hsl hE => ?_) ?_
    · obtain ⟨(f_57 : a.eval (.tmp 57) = .bool (x119 || (!decide (r120 = r101.1)))), c_58, c_59, -⟩ := hf
      refine sg_f rfl rfl rfl f_57 (fun hg => ?_)
      have f_58 : a.eval (.tmp 58) = .bool r106.2 := c_58.1 hg
      have f_59 : a.eval (.tmp 59) = .bool r111.2 := c_59.1 hg
      exact or_neqb tb4 f_58 f_59 rfl
    refine steps_cons (fun own a wx hf hsl hE => ?_) ?_
    · obtain ⟨(f_57 : a.eval (.tmp 57) = .bool (x119 || (!decide (r120 = r101.1)))), c_60, -⟩ := hf
      exact sg_plain rfl rfl (or_or f_57 rfl (fun hx => c_60.1 hx) (osome hx121).symm)
    refine steps_cons (fun own a wx hf hsl hE => ?_) ?_
    · obtain ⟨(f_61 : a.eval (.tmp 61) = .bool x121), -⟩ := hf
      exact sg_plain rfl rfl (or_move f_61)
    refine steps_cons (fun own a wx hf hsl hE => ?_) ?_
    · obtain ⟨(f_62 : a.eval (.tmp 62) = .bool x121), -⟩ := hf
      obtain ⟨s_11, -⟩ := hsl
      refine sg_f rfl rfl rfl f_62 (fun hg => ?_)
      exact or_load (l := [.int .i64 r106.1.1.1, .int .i64 r106.1.1.2, .int .i64 r106.1.2.1, .int .i64 r106.1.2.2]) ta25 (s_11.trans e115_11) (Blk.cellsFrom (BlkO.evo (by decide) hE b115_g107).2 0 rfl) rfl
    refine steps_cons (fun own a wx hf hsl hE => ?_) ?_
    · obtain ⟨(f_62 : a.eval (.tmp 62) = .bool x121), c_63, -⟩ := hf
      refine sg_f rfl rfl rfl f_62 (fun hg => ?_)
      have f_63 : a.eval (.tmp 63) = .agg #[.int .i64 r106.1.1.1, .int .i64 r106.1.1.2, .int .i64 r106.1.2.1, .int .i64 r106.1.2.2] := c_63.1 hg
      exact or_call cf13 (args1 f_63) (law20_box_w _ r106.1  r122 (gd_t hr122 hg)) post_val
    refine steps_cons (fun own a wx hf hsl hE => ?_) ?_
    · obtain ⟨(f_62 : a.eval (.tmp 62) = .bool x121), -⟩ := hf
      obtain ⟨s_13, -⟩ := hsl
      refine sg_f rfl rfl rfl f_62 (fun hg => ?_)
      exact or_load (l := [.int .i64 r111.1.1.1, .int .i64 r111.1.1.2, .int .i64 r111.1.2.1, .int .i64 r111.1.2.2]) ta41 (s_13.trans e115_13) (Blk.cellsFrom (BlkO.evo (by decide) hE b115_g112).2 0 rfl) rfl
    refine steps_cons (fun own a wx hf hsl hE => ?_) ?_
    · obtain ⟨(f_62 : a.eval (.tmp 62) = .bool x121), c_64, c_65, -⟩ := hf
      refine sg_f rfl rfl rfl f_62 (fun hg => ?_)
      have f_64 : a.eval (.tmp 64) = .agg #[.int .i64 r122.1.1, .int .i64 r122.1.2, .int .i64 r122.2.1, .int .i64 r122.2.2] := c_64.1 hg
      have f_65 : a.eval (.tmp 65) = .agg #[.int .i64 r111.1.1.1, .int .i64 r111.1.1.2, .int .i64 r111.1.2.1, .int .i64 r111.1.2.2] := c_65.1 hg
      exact or_neqA sg41 f_64 f_65 (sn41 r122.1.1 r122.1.2 r122.2.1 r122.2.2 r111.1.1.1 r111.1.1.2 r111.1.2.1 r111.1.2.2 _) rfl
    refine steps_cons (fun own a wx hf hsl hE => ?_) ?_
    · obtain ⟨(f_62 : a.eval (.tmp 62) = .bool x121), c_66, -⟩ := hf
      exact sg_plain rfl rfl (or_or f_62 rfl (fun hx => c_66.1 hx) rfl)
    refine steps_cons (fun own a wx hf hsl hE => ?_) ?_
    · obtain ⟨(f_67 : a.eval (.tmp 67) = .bool (x121 || (!decide (r122 = r111.1)))), -⟩ := hf
      exact sg_plain rfl rfl (or_move f_67)
    refine steps_cons (fun own a wx hf hsl hE => ?_) ?_
    · obtain ⟨(f_68 : a.eval (.tmp 68) = .bool (x121 || (!decide (r122 = r111.1)))), -⟩ := hf
      obtain ⟨s_3, -⟩ := hsl
      refine sg_f rfl rfl rfl f_68 (fun hg => ?_)
      exact or_load (l := [.int .i64 x1.1, .int .i64 x1.2.1, .int .i64 x1.2.2]) ta27 (s_3.trans e115_3) (Blk.cellsFrom (BlkO.evo (by decide) hE b115_g91).2 0 rfl) rfl
    refine steps_cons (fun own a wx hf hsl hE => ?_) ?_
    · obtain ⟨(f_68 : a.eval (.tmp 68) = .bool (x121 || (!decide (r122 = r111.1)))), -⟩ := hf
      obtain ⟨s_4, -⟩ := hsl
      refine sg_f rfl rfl rfl f_68 (fun hg => ?_)
      exact or_load (l := [.int .i64 b2.1, .int .i64 b2.2.1, .int .i64 b2.2.2]) ta27 (s_4.trans e115_4) (Blk.cellsFrom (BlkO.evo (by decide) hE b115_g93).2 0 rfl) rfl
    refine steps_cons (fun own a wx hf hsl hE => ?_) ?_
    · obtain ⟨(f_68 : a.eval (.tmp 68) = .bool (x121 || (!decide (r122 = r111.1)))), c_69, c_70, -⟩ := hf
      refine sg_f rfl rfl rfl f_68 (fun hg => ?_)
      have f_69 : a.eval (.tmp 69) = .agg #[.int .i64 x1.1, .int .i64 x1.2.1, .int .i64 x1.2.2] := c_69.1 hg
      have f_70 : a.eval (.tmp 70) = .agg #[.int .i64 b2.1, .int .i64 b2.2.1, .int .i64 b2.2.2] := c_70.1 hg
      exact or_call cf22 (args2 f_69 f_70) (window_Less_w _ x1 b2  r123 (gd_t hr123 hg)) post_val
    refine steps_cons (fun own a wx hf hsl hE => ?_) ?_
    · obtain ⟨(f_68 : a.eval (.tmp 68) = .bool (x121 || (!decide (r122 = r111.1)))), -⟩ := hf
      obtain ⟨s_3, -⟩ := hsl
      refine sg_f rfl rfl rfl f_68 (fun hg => ?_)
      exact or_load (l := [.int .i64 x1.1, .int .i64 x1.2.1, .int .i64 x1.2.2]) ta27 (s_3.trans e115_3) (Blk.cellsFrom (BlkO.evo (by decide) hE b115_g91).2 0 rfl) rfl
    refine steps_cons (fun own a wx hf hsl hE => ?_) ?_
    · obtain ⟨(f_68 : a.eval (.tmp 68) = .bool (x121 || (!decide (r122 = r111.1)))), -⟩ := hf
      obtain ⟨s_4, -⟩ := hsl
      refine sg_f rfl rfl rfl f_68 (fun hg => ?_)
      exact or_load (l := [.int .i64 b2.1, .int .i64 b2.2.1, .int .i64 b2.2.2]) ta27 (s_4.trans e115_4) (Blk.cellsFrom (BlkO.evo (by decide) hE b115_g93).2 0 rfl) rfl
    refine steps_cons (fun own a wx hf hsl hE => ?_) ?_
    · obtain ⟨(f_68 : a.eval (.tmp 68) = .bool (x121 || (!decide (r122 = r111.1)))), c_72, c_73, -⟩ := hf
      refine sg_f rfl rfl rfl f_68 (fun hg => ?_)
      have f_72 : a.eval (.tmp 72) = .agg #[.int .i64 x1.1, .int .i64 x1.2.1, .int .i64 x1.2.2] := c_72.1 hg
      have f_73 : a.eval (.tmp 73) = .agg #[.int .i64 b2.1, .int .i64 b2.2.1, .int .i64 b2.2.2] := c_73.1 hg
      exact or_call cf23 (args2 f_72 f_73) (ref20_Less_w _ x1 b2  r124 (gd_t hr124 hg)) post_val
    refine steps_cons (fun own a wx hf hsl hE => ?_) ?_
    · obtain ⟨(f_68 : a.eval (.tmp 68) = .bool (x121 || (!decide (r122 = r111.1)))), c_71, c_74, -⟩ := hf
      refine sg_f rfl rfl rfl f_68 (fun hg => ?_)
      have f_71 : a.eval (.tmp 71) = .bool r123 := c_71.1 hg
      have f_74 : a.eval (.tmp 74) = .bool r124 := c_74.1 hg
      exact or_neqb tb4 f_71 f_74 rfl
    refine steps_cons (fun own a wx hf hsl hE => ?_) ?_
    · obtain ⟨(f_68 : a.eval (.tmp 68) = .bool (x121 || (!decide (r122 = r111.1)))), c_75, -⟩ := hf
      exact sg_plain rfl rfl (or_or f_68 rfl (fun hx => c_75.1 hx) (osome hx125).symm)
    refine steps_cons (fun own a wx hf hsl hE => ?_) ?_
    · obtain ⟨(f_76 : a.eval (.tmp 76) = .bool x125), -⟩ := hf
      exact sg_plain rfl rfl (or_move f_76)
    refine steps_cons (fun own a wx hf hsl hE => ?_) ?_
    · obtain ⟨(f_77 : a.eval (.tmp 77) = .bool x125), -⟩ := hf
      obtain ⟨s_3, -⟩ := hsl
      refine sg_f rfl rfl rfl f_77 (fun hg => ?_)
      exact or_field fo27_0 (s_3.trans e115_3) (by rfl)
    refine steps_cons (fun own a wx hf hsl hE => ?_) ?_
    · obtain ⟨(f_77 : a.eval (.tmp 77) = .bool x125), c_78, -⟩ := hf
      refine sg_f rfl rfl rfl f_77 (fun hg => ?_)
      have f_78 : a.eval (.tmp 78) = .pointer (some ⟨g91, 0, none⟩) := c_78.1 hg
      exact or_load1 to3 f_78 (Blk.at_ (BlkO.evo (by decide) hE b115_g91).2 0 rfl)
    refine steps_cons (fun own a wx hf hsl hE => ?_) ?_
    · obtain ⟨(f_77 : a.eval (.tmp 77) = .bool x125), c_79, -⟩ := hf
      refine sg_f rfl rfl rfl f_77 (fun hg => ?_)
      have f_79 : a.eval (.tmp 79) = .int .i64 x1.1 := c_79.1 hg
      exact or_call cf24 (args1 f_79) (window_All_w _ x1.1  r126 (gd_t hr126 hg)) (post_row (m' := (look0 [(1, 128)])) (.inl (Rep.fl_flat _)) rfl rfl (fun _ => rfl))
    refine steps_cons (fun own a wx hf hsl hE => ?_) ?_
    · obtain ⟨(f_77 : a.eval (.tmp 77) = .bool x125), -⟩ := hf
      obtain ⟨s_3, -⟩ := hsl
      refine sg_f rfl rfl rfl f_77 (fun hg => ?_)
      exact or_field fo27_0 (s_3.trans e115_3) (by rfl)
    refine steps_cons (fun own a wx hf hsl hE => ?_) ?_
    · obtain ⟨(f_77 : a.eval (.tmp 77) = .bool x125), c_81, -⟩ := hf
      refine sg_f rfl rfl rfl f_77 (fun hg => ?_)
      have f_81 : a.eval (.tmp 81) = .pointer (some ⟨g91, 0, none⟩) := c_81.1 hg
      exact or_load1 to3 f_81 (Blk.at_ (BlkO.evo (by decide) hE b115_g91).2 0 rfl)
    refine steps_cons (fun own a wx hf hsl hE => ?_) ?_
    · obtain ⟨(f_77 : a.eval (.tmp 77) = .bool x125), c_82, -⟩ := hf
      refine sg_f rfl rfl rfl f_77 (fun hg => ?_)
      have f_82 : a.eval (.tmp 82) = .int .i64 x1.1 := c_82.1 hg
      exact or_call cf25 (args1 f_82) (ref20_All_w _ x1.1  r129 (gd_t hr129 hg)) (post_row (m' := (look0 [(1, 131)])) (.inl (Rep.fl_flat _)) rfl rfl (fun _ => rfl))
    refine steps_cons (fun own a wx hf hsl hE => ?_) ?_
    · obtain ⟨(f_77 : a.eval (.tmp 77) = .bool x125), c_80, c_83, -⟩ := hf
      refine sg_f rfl rfl rfl f_77 (fun hg => ?_)
      obtain ⟨⟨A127, cA127⟩, (f_80 : a.eval (.tmp 80) = .slice A127 r126.length cA127), (b_A127 : RwO own 128 [] wx 27 R27 A127 cA127 r126)⟩ := c_80.1 hg
      obtain ⟨⟨A130, cA130⟩, (f_83 : a.eval (.tmp 83) = .slice A130 r129.length cA130), (b_A130 : RwO own 131 [] wx 30 R30 A130 cA130 r129)⟩ := c_83.1 hg
      exact or_call cf11 (args2 f_80 f_83) (law20_same_w _ r126 A127 cA127 r129 A130 cA130 (RdO.zero (RwO.rd b_A127)) (RdO.zero (RwO.rd b_A130)) r132 (gd_t hr132 hg)) post_val
    refine steps_cons (fun own a wx hf hsl hE => ?_) ?_
    · obtain ⟨(f_77 : a.eval (.tmp 77) = .bool x125), c_84, -⟩ := hf
      refine sg_f rfl rfl rfl f_77 (fun hg => ?_)
      have f_84 : a.eval (.tmp 84) = .bool r132 := c_84.1 hg
      exact or_not f_84 rfl
    refine steps_cons (fun own a wx hf hsl hE => ?_) ?_
    · obtain ⟨(f_77 : a.eval (.tmp 77) = .bool x125), c_85, -⟩ := hf
      exact sg_plain rfl rfl (or_or f_77 rfl (fun hx => c_85.1 hx) rfl)
    exact steps_nil
  intro own133 a133 w133 hd133 hz133 hk133 hf133 hE133
  have e133_3 : a133.eval (.tmp 3) = .pointer (some ⟨g91, 0, none⟩) := (hk133 3 rfl).trans e115_3
  obtain ⟨(f_86 : a133.eval (.tmp 86) = .bool (x125 || (!r132))), -⟩ := hf133 [45] rfl
  have e133_86 := f_86
  have hX133 := Evo.step hX115 (fun _ => Nat.le_refl 0) hE133 rfl
  have b133_g91 := BlkO.evo (by decide) hE133 b115_g91
  refine fl_cond e133_86 hs (fun c134 hs => ?_) (fun c134 hs => ?_)
  · refine rg_plain_seq (n := 122) (rs := []) (own0 := own133) (K := [])
        (bs := [0])
        (ds := [⟨[], [], [], Fct.val 6 (.bool false)⟩]) (by kernel_rfl) hz133 hd133 (fun _ h => nomatch h) ?_ ?_
    · refine steps_cons (fun own a wx hf hsl hE => ?_) ?_
      · exact sg_plain rfl rfl (or_assign rfl)
      exact steps_nil
    intro own135 a135 w135 hd135 hz135 hk135 hf135 hE135
    obtain ⟨(f_6 : a135.eval (.tmp 6) = .bool false), -⟩ := hf135 [0] rfl
    have e135_6 := f_6
    have hX135 := Evo.step hX133 (fun _ => Nat.le_refl 0) hE135 rfl
    refine fl_ret ?_
    refine hp116 _ _ _ rfl ?_
    obtain rfl := osome hs
    exact hret _ _ _ _ (.inl rfl) hd135 (results1_ rfl (RVal.tmp_ e135_6)) ⟨own135, rfl, hX135⟩
  refine fl_skip ?_
  refine hn116 _ _ ?_
  obtain ⟨r136, hr136, hs⟩ := obind hs
  refine rg_plain_seq (n := 122) (rs := []) (own0 := own133) (K := [138])
      (bs := [0, 1, 3, 7, 7, 0, 47, 127])
      (ds := [⟨[], [3], [], Fct.val 88 (.agg #[.int .i64 x1.1, .int .i64 x1.2.1, .int .i64 x1.2.2])⟩,
      ⟨[0], [], [], Fct.val 89 (.tuple #[.agg #[.int .i64 r136.1.1, .int .i64 r136.1.2.1, .int .i64 r136.1.2.2], .bool r136.2])⟩,
      ⟨[1], [], [], Fct.val 87 (.tuple #[.agg #[.int .i64 r136.1.1, .int .i64 r136.1.2.1, .int .i64 r136.1.2.2], .bool r136.2])⟩,
      ⟨[2], [], [], Fct.val 90 (.agg #[.int .i64 r136.1.1, .int .i64 r136.1.2.1, .int .i64 r136.1.2.2])⟩,
      ⟨[2], [], [], Fct.val 91 (.bool r136.2)⟩,
      ⟨[], [], [], Fct.blk 138 15 (fun g => .pointer (some ⟨g, 0, none⟩)) 27 #[.int .i64 0, .int .i64 0, .int .i64 0]⟩,
      ⟨[5, 3], [], [138], Fct.blk 139 15 (fun g => .pointer (some ⟨g, 0, none⟩)) 27 #[.int .i64 r136.1.1, .int .i64 r136.1.2.1, .int .i64 r136.1.2.2]⟩,
      ⟨[4], [], [], Fct.val 16 (.bool r136.2)⟩]) (by kernel_rfl) hz133 hd133 (fun _ h => nomatch h) ?_ ?_
  · refine steps_cons (fun own a wx hf hsl hE => ?_) ?_
    · obtain ⟨s_3, -⟩ := hsl
      exact sg_plain rfl rfl (or_load (l := [.int .i64 x1.1, .int .i64 x1.2.1, .int .i64 x1.2.2]) ta27 (s_3.trans e133_3) (Blk.cellsFrom (BlkO.evo (by decide) hE b133_g91).2 0 rfl) rfl)
    refine steps_cons (fun own a wx hf hsl hE => ?_) ?_
    · obtain ⟨(f_88 : a.eval (.tmp 88) = .agg #[.int .i64 x1.1, .int .i64 x1.2.1, .int .i64 x1.2.2]), -⟩ := hf
      exact sg_plain rfl rfl (or_call cf17 (args1 f_88) (window_Parent_w _ x1  r136 hr136) post_val)
    refine steps_cons (fun own a wx hf hsl hE => ?_) ?_
    · obtain ⟨(f_89 : a.eval (.tmp 89) = .tuple #[.agg #[.int .i64 r136.1.1, .int .i64 r136.1.2.1, .int .i64 r136.1.2.2], .bool r136.2]), -⟩ := hf
      exact sg_plain rfl rfl (or_move f_89)
    refine steps_cons (fun own a wx hf hsl hE => ?_) ?_
    · obtain ⟨(f_87 : a.eval (.tmp 87) = .tuple #[.agg #[.int .i64 r136.1.1, .int .i64 r136.1.2.1, .int .i64 r136.1.2.2], .bool r136.2]), -⟩ := hf
      exact sg_plain rfl rfl (or_k [(87, .tuple #[.agg #[.int .i64 r136.1.1, .int .i64 r136.1.2.1, .int .i64 r136.1.2.2], .bool r136.2])] rfl rfl ⟨f_87, trivial⟩ (by kernel_rfl))
    refine steps_cons (fun own a wx hf hsl hE => ?_) ?_
    · obtain ⟨(f_87 : a.eval (.tmp 87) = .tuple #[.agg #[.int .i64 r136.1.1, .int .i64 r136.1.2.1, .int .i64 r136.1.2.2], .bool r136.2]), -⟩ := hf
      exact sg_plain rfl rfl (or_k [(87, .tuple #[.agg #[.int .i64 r136.1.1, .int .i64 r136.1.2.1, .int .i64 r136.1.2.2], .bool r136.2])] rfl rfl ⟨f_87, trivial⟩ (by kernel_rfl))
    refine steps_cons (fun own a wx hf hsl hE => ?_) ?_
    · exact sg_plain rfl rfl (or_new [] rfl rfl trivial (by kernel_rfl))
    refine steps_cons (fun own a wx hf hsl hE => ?_) ?_
    · obtain ⟨⟨g137, (f_15 : a.eval (.tmp 15) = .pointer (some ⟨g137, 0, none⟩)), (b_g137 : BlkO own 138 wx g137 27 #[.int .i64 0, .int .i64 0, .int .i64 0])⟩, (f_90 : a.eval (.tmp 90) = .agg #[.int .i64 r136.1.1, .int .i64 r136.1.2.1, .int .i64 r136.1.2.2]), -⟩ := hf
      exact sg_plain rfl rfl (or_store (l := #[.int .i64 r136.1.1, .int .i64 r136.1.2.1, .int .i64 r136.1.2.2]) (lab := 138) (lab2 := 139) ts27 f_15 f_90 b_g137 (by simp) (by kernel_rfl) (mem_of rfl) (by decide) (by kernel_rfl) (fun own' a' w' ha hb => ⟨_, (ha 15).trans f_15, hb⟩))
    refine steps_cons (fun own a wx hf hsl hE => ?_) ?_
    · obtain ⟨(f_91 : a.eval (.tmp 91) = .bool r136.2), -⟩ := hf
      exact sg_plain rfl rfl (or_assign f_91)
    exact steps_nil
  intro own140 a140 w140 hd140 hz140 hk140 hf140 hE140
  have e140_3 : a140.eval (.tmp 3) = .pointer (some ⟨g91, 0, none⟩) := (hk140 3 rfl).trans e133_3
  obtain ⟨⟨g137, (f_15 : a140.eval (.tmp 15) = .pointer (some ⟨g137, 0, none⟩)), (b_g137 : BlkO own140 139 w140 g137 27 #[.int .i64 r136.1.1, .int .i64 r136.1.2.1, .int .i64 r136.1.2.2])⟩, (f_16 : a140.eval (.tmp 16) = .bool r136.2), -⟩ := hf140 [6, 7] rfl
  have e140_15 := f_15
  have e140_16 := f_16
  have hX140 := Evo.step hX133 (fun _ => Nat.le_refl 0) hE140 rfl
  have b140_g91 := BlkO.evo (by decide) hE140 b133_g91
  have b140_g137 := b_g137
  refine rg_plain_seq (n := 122) (rs := []) (own0 := own140) (K := [142])
      (bs := [0, 0, 3])
      (ds := [⟨[], [], [], Fct.val 92 (.agg #[.int .i64 0, .int .i64 0, .int .i64 0])⟩,
      ⟨[], [], [], Fct.blk 142 17 (fun g => .pointer (some ⟨g, 0, none⟩)) 30 #[.int .i64 0, .int .i64 0, .int .i64 0]⟩,
      ⟨[1, 0], [], [142], Fct.blk 143 17 (fun g => .pointer (some ⟨g, 0, none⟩)) 30 #[.int .i64 0, .int .i64 0, .int .i64 0]⟩]) (by kernel_rfl) hz140 hd140 (fun _ h => nomatch h) ?_ ?_
  · refine steps_cons (fun own a wx hf hsl hE => ?_) ?_
    · exact sg_plain rfl rfl (or_k [] rfl rfl trivial (by kernel_rfl))
    refine steps_cons (fun own a wx hf hsl hE => ?_) ?_
    · exact sg_plain rfl rfl (or_new [] rfl rfl trivial (by kernel_rfl))
    refine steps_cons (fun own a wx hf hsl hE => ?_) ?_
    · obtain ⟨⟨g141, (f_17 : a.eval (.tmp 17) = .pointer (some ⟨g141, 0, none⟩)), (b_g141 : BlkO own 142 wx g141 30 #[.int .i64 0, .int .i64 0, .int .i64 0])⟩, (f_92 : a.eval (.tmp 92) = .agg #[.int .i64 0, .int .i64 0, .int .i64 0]), -⟩ := hf
      exact sg_plain rfl rfl (or_store (l := #[.int .i64 0, .int .i64 0, .int .i64 0]) (lab := 142) (lab2 := 143) ts30 f_17 f_92 b_g141 (by simp) (by kernel_rfl) (mem_of rfl) (by decide) (by kernel_rfl) (fun own' a' w' ha hb => ⟨_, (ha 17).trans f_17, hb⟩))
    exact steps_nil
  intro own144 a144 w144 hd144 hz144 hk144 hf144 hE144
  have e144_3 : a144.eval (.tmp 3) = .pointer (some ⟨g91, 0, none⟩) := (hk144 3 rfl).trans e140_3
  have e144_15 : a144.eval (.tmp 15) = .pointer (some ⟨g137, 0, none⟩) := (hk144 15 rfl).trans e140_15
  have e144_16 : a144.eval (.tmp 16) = .bool r136.2 := (hk144 16 rfl).trans e140_16
  obtain ⟨⟨g141, (f_17 : a144.eval (.tmp 17) = .pointer (some ⟨g141, 0, none⟩)), (b_g141 : BlkO own144 143 w144 g141 30 #[.int .i64 0, .int .i64 0, .int .i64 0])⟩, -⟩ := hf144 [2] rfl
  have e144_17 := f_17
  have hX144 := Evo.step hX140 (fun _ => Nat.le_refl 0) hE144 rfl
  have b144_g91 := BlkO.evo (by decide) hE144 b140_g91
  have b144_g137 := BlkO.evo (by decide) hE144 b140_g137
  have b144_g141 := b_g141
  obtain ⟨r145, hr145, hs⟩ := obind hs
  refine rg_plain_seq (n := 122) (rs := []) (own0 := own144) (K := [])
      (bs := [0, 1, 3, 7, 15, 31, 63, 127])
      (ds := [⟨[], [3], [], Fct.val 93 (.agg #[.int .i64 x1.1, .int .i64 x1.2.1, .int .i64 x1.2.2])⟩,
      ⟨[0], [], [], Fct.val 94 (.bool r145)⟩,
      ⟨[1], [], [], Fct.val 95 (.bool r145)⟩,
      ⟨[2], [3], [], Fct.cond r145 (some 96) (Fct.val 96 (.pointer (some ⟨g91, 0, none⟩)))⟩,
      ⟨[2, 3], [], [], Fct.cond r145 (some 97) (Fct.val 97 (.int .i64 x1.1))⟩,
      ⟨[2, 4], [], [], Fct.cond r145 (some 98) (Fct.val 98 (.bool (decide (0 < x1.1))))⟩,
      ⟨[2, 5], [], [], Fct.val 99 (.bool (r145 && (decide (0 < x1.1))))⟩,
      ⟨[6], [], [], Fct.val 18 (.bool (r145 && (decide (0 < x1.1))))⟩]) (by kernel_rfl) hz144 hd144 (fun _ h => nomatch h) ?_ ?_
  · refine steps_cons (fun own a wx hf hsl hE => ?_) ?_
    · obtain ⟨s_3, -⟩ := hsl
      exact sg_plain rfl rfl (or_load (l := [.int .i64 x1.1, .int .i64 x1.2.1, .int .i64 x1.2.2]) ta27 (s_3.trans e144_3) (Blk.cellsFrom (BlkO.evo (by decide) hE b144_g91).2 0 rfl) rfl)
    refine steps_cons (fun own a wx hf hsl hE => ?_) ?_
    · obtain ⟨(f_93 : a.eval (.tmp 93) = .agg #[.int .i64 x1.1, .int .i64 x1.2.1, .int .i64 x1.2.2]), -⟩ := hf
      exact sg_plain rfl rfl (or_call cf21 (args1 f_93) (ref20_Right_w _ x1  r145 hr145) post_val)
    refine steps_cons (fun own a wx hf hsl hE => ?_) ?_
    · obtain ⟨(f_94 : a.eval (.tmp 94) = .bool r145), -⟩ := hf
      exact sg_plain rfl rfl (or_move f_94)
    refine steps_cons (fun own a wx hf hsl hE => ?_) ?_
    · obtain ⟨(f_95 : a.eval (.tmp 95) = .bool r145), -⟩ := hf
      obtain ⟨s_3, -⟩ := hsl
      refine sg_t rfl rfl rfl f_95 (fun hg => ?_)
      exact or_field fo27_0 (s_3.trans e144_3) (by rfl)
    refine steps_cons (fun own a wx hf hsl hE => ?_) ?_
    · obtain ⟨(f_95 : a.eval (.tmp 95) = .bool r145), c_96, -⟩ := hf
      refine sg_t rfl rfl rfl f_95 (fun hg => ?_)
      have f_96 : a.eval (.tmp 96) = .pointer (some ⟨g91, 0, none⟩) := c_96.1 hg
      exact or_load1 to3 f_96 (Blk.at_ (BlkO.evo (by decide) hE b144_g91).2 0 rfl)
    refine steps_cons (fun own a wx hf hsl hE => ?_) ?_
    · obtain ⟨(f_95 : a.eval (.tmp 95) = .bool r145), c_97, -⟩ := hf
      refine sg_t rfl rfl rfl f_95 (fun hg => ?_)
      have f_97 : a.eval (.tmp 97) = .int .i64 x1.1 := c_97.1 hg
      exact or_gtr f_97 rfl rfl
    refine steps_cons (fun own a wx hf hsl hE => ?_) ?_
    · obtain ⟨(f_95 : a.eval (.tmp 95) = .bool r145), c_98, -⟩ := hf
      exact sg_plain rfl rfl (or_and f_95 (fun hx => c_98.1 hx) rfl rfl)
    refine steps_cons (fun own a wx hf hsl hE => ?_) ?_
    · obtain ⟨(f_99 : a.eval (.tmp 99) = .bool (r145 && (decide (0 < x1.1)))), -⟩ := hf
      exact sg_plain rfl rfl (or_assign f_99)
    exact steps_nil
  intro own146 a146 w146 hd146 hz146 hk146 hf146 hE146
  have e146_3 : a146.eval (.tmp 3) = .pointer (some ⟨g91, 0, none⟩) := (hk146 3 rfl).trans e144_3
  have e146_15 : a146.eval (.tmp 15) = .pointer (some ⟨g137, 0, none⟩) := (hk146 15 rfl).trans e144_15
  have e146_16 : a146.eval (.tmp 16) = .bool r136.2 := (hk146 16 rfl).trans e144_16
  have e146_17 : a146.eval (.tmp 17) = .pointer (some ⟨g141, 0, none⟩) := (hk146 17 rfl).trans e144_17
  obtain ⟨(f_18 : a146.eval (.tmp 18) = .bool (r145 && (decide (0 < x1.1)))), -⟩ := hf146 [7] rfl
  have e146_18 := f_18
  have hX146 := Evo.step hX144 (fun _ => Nat.le_refl 0) hE146 rfl
  have b146_g91 := BlkO.evo (by decide) hE146 b144_g91
  have b146_g137 := BlkO.evo (by decide) hE146 b144_g137
  have b146_g141 := BlkO.evo (by decide) hE146 b144_g141
  refine fl_seq (fun Q147 hn147 hp147 => ?_)
  have K158 : ∀ (a158 : Act) (w158 : World) (own158 : Own) (want157 : Int × Int × Int), a158.defers = [] → a158.tmps.size = 122 → a158.eval (.tmp 15) = .pointer (some ⟨g137, 0, none⟩) → a158.eval (.tmp 16) = .bool r136.2 → a158.eval (.tmp 17) = .pointer (some ⟨g141, 0, none⟩) → a158.eval (.tmp 18) = .bool (r145 && (decide (0 < x1.1))) → Evo [] (fun _ => 0) own158 w w158 → BlkO own158 139 w158 g137 27 #[.int .i64 r136.1.1, .int .i64 r136.1.2.1, .int .i64 r136.1.2.2] → BlkO own158 156 w158 g141 30 #[.int .i64 want157.1, .int .i64 want157.2.1, .int .i64 want157.2.2] → law20_WindowTiles_k1 x1 r136 r145 want157 = some r → Q147 .normal a158 w158 := by
    intro a158 w158 own158 want157 hd159 hz159 e159_15 e159_16 e159_17 e159_18 hE159 b159_g137 b159_g141 hs
    refine hn147 _ _ ?_
    obtain ⟨r160, hr160, hs⟩ := obind hs
    obtain ⟨x161, hx161, hs⟩ := obind hs
    obtain ⟨x162, hx162, hs⟩ := obind hs
    refine rg_plain_seq (n := 122) (rs := []) (own0 := own158) (K := [])
        (bs := [0, 1, 3, 3, 15, 31, 63, 127, 127, 511, 1023, 2047])
        (ds := [⟨[], [], [], Fct.val 111 (.bool r160)⟩,
        ⟨[0], [], [], Fct.val 112 (.bool r160)⟩,
        ⟨[1], [16], [], Fct.cond r160 (some 113) (Fct.val 113 (.bool r136.2))⟩,
        ⟨[1], [18], [], Fct.cond r160 (some 114) (Fct.val 114 (.bool (r145 && (decide (0 < x1.1)))))⟩,
        ⟨[1, 2, 3], [], [], Fct.cond r160 (some 115) (Fct.val 115 (.bool (r136.2 == (r145 && (decide (0 < x1.1))))))⟩,
        ⟨[1, 4], [], [], Fct.val 116 (.bool x161)⟩,
        ⟨[5], [], [], Fct.val 117 (.bool x161)⟩,
        ⟨[6], [15], [], Fct.cond x161 (some 118) (Fct.val 118 (.agg #[.int .i64 r136.1.1, .int .i64 r136.1.2.1, .int .i64 r136.1.2.2]))⟩,
        ⟨[6], [17], [], Fct.cond x161 (some 119) (Fct.val 119 (.agg #[.int .i64 want157.1, .int .i64 want157.2.1, .int .i64 want157.2.2]))⟩,
        ⟨[6, 7, 8], [], [], Fct.cond x161 (some 120) (Fct.val 120 (.bool (decide (r136.1 = want157))))⟩,
        ⟨[6, 9], [], [], Fct.val 121 (.bool x162)⟩,
        ⟨[10], [], [], Fct.val 6 (.bool x162)⟩]) (by kernel_rfl) hz159 hd159 (fun _ h => nomatch h) ?_ ?_
    · refine steps_cons (fun own a wx hf hsl hE => ?_) ?_
      · exact sg_plain rfl rfl (or_call cf15 (args0) (law20_known_w _   r160 hr160) post_val)
      refine steps_cons (fun own a wx hf hsl hE => ?_) ?_
      · obtain ⟨(f_111 : a.eval (.tmp 111) = .bool r160), -⟩ := hf
        exact sg_plain rfl rfl (or_move f_111)
      refine steps_cons (fun own a wx hf hsl hE => ?_) ?_
      · obtain ⟨(f_112 : a.eval (.tmp 112) = .bool r160), -⟩ := hf
        obtain ⟨s_16, -⟩ := hsl
        refine sg_t rfl rfl rfl f_112 (fun hg => ?_)
        exact or_move (s_16.trans e159_16)
      refine steps_cons (fun own a wx hf hsl hE => ?_) ?_
      · obtain ⟨(f_112 : a.eval (.tmp 112) = .bool r160), -⟩ := hf
        obtain ⟨s_18, -⟩ := hsl
        refine sg_t rfl rfl rfl f_112 (fun hg => ?_)
        exact or_move (s_18.trans e159_18)
      refine steps_cons (fun own a wx hf hsl hE => ?_) ?_
      · obtain ⟨(f_112 : a.eval (.tmp 112) = .bool r160), c_113, c_114, -⟩ := hf
        refine sg_t rfl rfl rfl f_112 (fun hg => ?_)
        have f_113 : a.eval (.tmp 113) = .bool r136.2 := c_113.1 hg
        have f_114 : a.eval (.tmp 114) = .bool (r145 && (decide (0 < x1.1))) := c_114.1 hg
        exact or_eqlb tb4 f_113 f_114 rfl
      refine steps_cons (fun own a wx hf hsl hE => ?_) ?_
      · obtain ⟨(f_112 : a.eval (.tmp 112) = .bool r160), c_115, -⟩ := hf
        exact sg_plain rfl rfl (or_and f_112 (fun hx => c_115.1 hx) rfl (osome hx161).symm)
      refine steps_cons (fun own a wx hf hsl hE => ?_) ?_
      · obtain ⟨(f_116 : a.eval (.tmp 116) = .bool x161), -⟩ := hf
        exact sg_plain rfl rfl (or_move f_116)
      refine steps_cons (fun own a wx hf hsl hE => ?_) ?_
      · obtain ⟨(f_117 : a.eval (.tmp 117) = .bool x161), -⟩ := hf
        obtain ⟨s_15, -⟩ := hsl
        refine sg_t rfl rfl rfl f_117 (fun hg => ?_)
        exact or_load (l := [.int .i64 r136.1.1, .int .i64 r136.1.2.1, .int .i64 r136.1.2.2]) ta27 (s_15.trans e159_15) (Blk.cellsFrom (BlkO.evo (by decide) hE b159_g137).2 0 rfl) rfl
      refine steps_cons (fun own a wx hf hsl hE => ?_) ?_
      · obtain ⟨(f_117 : a.eval (.tmp 117) = .bool x161), -⟩ := hf
        obtain ⟨s_17, -⟩ := hsl
        refine sg_t rfl rfl rfl f_117 (fun hg => ?_)
        exact or_load (l := [.int .i64 want157.1, .int .i64 want157.2.1, .int .i64 want157.2.2]) ta30 (s_17.trans e159_17) (Blk.cellsFrom (BlkO.evo (by decide) hE b159_g141).2 0 rfl) rfl
      refine steps_cons (fun own a wx hf hsl hE => ?_) ?_
      · obtain ⟨(f_117 : a.eval (.tmp 117) = .bool x161), c_118, c_119, -⟩ := hf
        refine sg_t rfl rfl rfl f_117 (fun hg => ?_)
        have f_118 : a.eval (.tmp 118) = .agg #[.int .i64 r136.1.1, .int .i64 r136.1.2.1, .int .i64 r136.1.2.2] := c_118.1 hg
        have f_119 : a.eval (.tmp 119) = .agg #[.int .i64 want157.1, .int .i64 want157.2.1, .int .i64 want157.2.2] := c_119.1 hg
        exact or_eqlA sg30 f_118 f_119 (se30 r136.1.1 r136.1.2.1 r136.1.2.2 want157.1 want157.2.1 want157.2.2 _) rfl
      refine steps_cons (fun own a wx hf hsl hE => ?_) ?_
      · obtain ⟨(f_117 : a.eval (.tmp 117) = .bool x161), c_120, -⟩ := hf
        exact sg_plain rfl rfl (or_and f_117 (fun hx => c_120.1 hx) rfl (osome hx162).symm)
      refine steps_cons (fun own a wx hf hsl hE => ?_) ?_
      · obtain ⟨(f_121 : a.eval (.tmp 121) = .bool x162), -⟩ := hf
        exact sg_plain rfl rfl (or_assign f_121)
      exact steps_nil
    intro own163 a163 w163 hd163 hz163 hk163 hf163 hE163
    obtain ⟨(f_6 : a163.eval (.tmp 6) = .bool x162), -⟩ := hf163 [11] rfl
    have e163_6 := f_6
    have hX163 := Evo.step hE159 (fun _ => Nat.le_refl 0) hE163 rfl
    refine fl_ret ?_
    obtain rfl := (osome hs).symm
    exact hret _ _ _ _ (.inl rfl) hd163 (results1_ rfl (RVal.tmp_ e163_6)) ⟨own163, rfl, hX163⟩
  refine rg_plain_seq (n := 122) (rs := []) (own0 := own146) (K := [])
      (bs := [0])
      (ds := [⟨[], [18], [], Fct.val 100 (.bool (r145 && (decide (0 < x1.1))))⟩]) (by kernel_rfl) hz146 hd146 (fun _ h => nomatch h) ?_ ?_
  · refine steps_cons (fun own a wx hf hsl hE => ?_) ?_
    · obtain ⟨s_18, -⟩ := hsl
      exact sg_plain rfl rfl (or_move (s_18.trans e146_18))
    exact steps_nil
  intro own164 a164 w164 hd164 hz164 hk164 hf164 hE164
  have e164_3 : a164.eval (.tmp 3) = .pointer (some ⟨g91, 0, none⟩) := (hk164 3 rfl).trans e146_3
  have e164_15 : a164.eval (.tmp 15) = .pointer (some ⟨g137, 0, none⟩) := (hk164 15 rfl).trans e146_15
  have e164_16 : a164.eval (.tmp 16) = .bool r136.2 := (hk164 16 rfl).trans e146_16
  have e164_17 : a164.eval (.tmp 17) = .pointer (some ⟨g141, 0, none⟩) := (hk164 17 rfl).trans e146_17
  have e164_18 : a164.eval (.tmp 18) = .bool (r145 && (decide (0 < x1.1))) := (hk164 18 rfl).trans e146_18
  obtain ⟨(f_100 : a164.eval (.tmp 100) = .bool (r145 && (decide (0 < x1.1)))), -⟩ := hf164 [0] rfl
  have e164_100 := f_100
  have hX164 := Evo.step hX146 (fun _ => Nat.le_refl 0) hE164 rfl
  have b164_g91 := BlkO.evo (by decide) hE164 b146_g91
  have b164_g137 := BlkO.evo (by decide) hE164 b146_g137
  have b164_g141 := BlkO.evo (by decide) hE164 b146_g141
  refine fl_cond e164_100 hs (fun c165 hs => ?_) (fun c165 hs => ?_)
  · obtain ⟨x168, hx168, hs⟩ := obind hs
    obtain ⟨x169, hx169, hs⟩ := obind hs
    refine rg_plain (n := 122) (rs := [Fct.at_ 143 g141 30 #[.int .i64 0, .int .i64 0, .int .i64 0]]) (own0 := own164) (K := [143])
        (bs := [0, 1, 3, 0, 8, 24, 0, 64, 192, 511, 1023])
        (ds := [⟨[], [3], [], Fct.val 101 (.pointer (some ⟨g91, 0, none⟩))⟩,
        ⟨[0], [], [], Fct.val 102 (.int .i64 x1.1)⟩,
        ⟨[1], [], [], Fct.val 103 (.int .i64 (sb x1.1 1))⟩,
        ⟨[], [3], [], Fct.val 104 (.pointer (some ⟨g91, 1, none⟩))⟩,
        ⟨[3], [], [], Fct.val 105 (.int .i64 x1.2.1)⟩,
        ⟨[4], [], [], Fct.val 106 (.int .i64 x168)⟩,
        ⟨[], [3], [], Fct.val 107 (.pointer (some ⟨g91, 2, none⟩))⟩,
        ⟨[6], [], [], Fct.val 108 (.int .i64 x1.2.2)⟩,
        ⟨[7], [], [], Fct.val 109 (.int .i64 x169)⟩,
        ⟨[2, 5, 8], [], [], Fct.val 110 (.agg #[.int .i64 (sb x1.1 1), .int .i64 x168, .int .i64 x169])⟩,
        ⟨[9, 11], [17], [143], Fct.at_ 170 g141 30 #[.int .i64 (sb x1.1 1), .int .i64 x168, .int .i64 x169]⟩]) (by kernel_rfl) hz164 hd164 (by simp only [List.forall_mem_cons]; exact ⟨b164_g141, fun _ h => nomatch h⟩) ?_ ?_
    · refine steps_cons (fun own a wx hf hsl hE => ?_) ?_
      · obtain ⟨s_3, -⟩ := hsl
        exact sg_plain rfl rfl (or_field fo27_0 (s_3.trans e164_3) (by rfl))
      refine steps_cons (fun own a wx hf hsl hE => ?_) ?_
      · obtain ⟨(f_101 : a.eval (.tmp 101) = .pointer (some ⟨g91, 0, none⟩)), -⟩ := hf
        exact sg_plain rfl rfl (or_load1 to3 f_101 (Blk.at_ (BlkO.evo (by decide) hE b164_g91).2 0 rfl))
      refine steps_cons (fun own a wx hf hsl hE => ?_) ?_
      · obtain ⟨(f_102 : a.eval (.tmp 102) = .int .i64 x1.1), -⟩ := hf
        exact sg_plain rfl rfl (or_sub f_102 rfl rfl)
      refine steps_cons (fun own a wx hf hsl hE => ?_) ?_
      · obtain ⟨s_3, -⟩ := hsl
        exact sg_plain rfl rfl (or_field fo27_1 (s_3.trans e164_3) (by rfl))
      refine steps_cons (fun own a wx hf hsl hE => ?_) ?_
      · obtain ⟨(f_104 : a.eval (.tmp 104) = .pointer (some ⟨g91, 1, none⟩)), -⟩ := hf
        exact sg_plain rfl rfl (or_load1 to3 f_104 (Blk.at_ (BlkO.evo (by decide) hE b164_g91).2 1 rfl))
      refine steps_cons (fun own a wx hf hsl hE => ?_) ?_
      · obtain ⟨(f_105 : a.eval (.tmp 105) = .int .i64 x1.2.1), -⟩ := hf
        exact sg_plain rfl rfl (or_quo f_105 rfl hx168)
      refine steps_cons (fun own a wx hf hsl hE => ?_) ?_
      · obtain ⟨s_3, -⟩ := hsl
        exact sg_plain rfl rfl (or_field fo27_2 (s_3.trans e164_3) (by rfl))
      refine steps_cons (fun own a wx hf hsl hE => ?_) ?_
      · obtain ⟨(f_107 : a.eval (.tmp 107) = .pointer (some ⟨g91, 2, none⟩)), -⟩ := hf
        exact sg_plain rfl rfl (or_load1 to3 f_107 (Blk.at_ (BlkO.evo (by decide) hE b164_g91).2 2 rfl))
      refine steps_cons (fun own a wx hf hsl hE => ?_) ?_
      · obtain ⟨(f_108 : a.eval (.tmp 108) = .int .i64 x1.2.2), -⟩ := hf
        exact sg_plain rfl rfl (or_quo f_108 rfl hx169)
      refine steps_cons (fun own a wx hf hsl hE => ?_) ?_
      · obtain ⟨(f_103 : a.eval (.tmp 103) = .int .i64 (sb x1.1 1)), (f_106 : a.eval (.tmp 106) = .int .i64 x168), (f_109 : a.eval (.tmp 109) = .int .i64 x169), -⟩ := hf
        exact sg_plain rfl rfl (or_k [(103, .int .i64 (sb x1.1 1)), (106, .int .i64 x168), (109, .int .i64 x169)] rfl rfl ⟨f_103, f_106, f_109, trivial⟩ (by kernel_rfl))
      refine steps_cons (fun own a wx hf hsl hE => ?_) ?_
      · obtain ⟨(f_110 : a.eval (.tmp 110) = .agg #[.int .i64 (sb x1.1 1), .int .i64 x168, .int .i64 x169]), (b_g141 : BlkO own 143 wx g141 30 #[.int .i64 0, .int .i64 0, .int .i64 0]), -⟩ := hf
        obtain ⟨s_17, -⟩ := hsl
        exact sg_plain rfl rfl (or_store (l := #[.int .i64 (sb x1.1 1), .int .i64 x168, .int .i64 x169]) (lab := 143) (lab2 := 170) ts30 (s_17.trans e164_17) f_110 b_g141 (by simp) (by kernel_rfl) (mem_of rfl) (by decide) (by kernel_rfl) (fun own' a' w' ha hb => hb))
      exact steps_nil
    intro own171 a171 w171 hd171 hz171 hk171 hf171 hE171
    have e171_15 : a171.eval (.tmp 15) = .pointer (some ⟨g137, 0, none⟩) := (hk171 15 rfl).trans e164_15
    have e171_16 : a171.eval (.tmp 16) = .bool r136.2 := (hk171 16 rfl).trans e164_16
    have e171_17 : a171.eval (.tmp 17) = .pointer (some ⟨g141, 0, none⟩) := (hk171 17 rfl).trans e164_17
    have e171_18 : a171.eval (.tmp 18) = .bool (r145 && (decide (0 < x1.1))) := (hk171 18 rfl).trans e164_18
    obtain ⟨(b_g141 : BlkO own171 170 w171 g141 30 #[.int .i64 (sb x1.1 1), .int .i64 x168, .int .i64 x169]), -⟩ := hf171 [10] rfl
    have hX171 := Evo.step hX164 (fun _ => Nat.le_refl 0) hE171 rfl
    have b171_g137 := BlkO.evo (by decide) hE171 b164_g137
    have b171_g141 := b_g141
    exact (K158 _ _ (rl [(170, 156)] own171) (sb x1.1 1, x168, x169) hd171 hz171 e171_15 e171_16 e171_17 e171_18 (Evo.rl_ hX171 (fun _ => Nat.le_refl 0) rfl) (BlkO.rl_ (mm := [(170, 156)]) b171_g137) (BlkO.rl_ (mm := [(170, 156)]) b171_g141) hs)
  refine fl_skip ?_
  exact (K158 _ _ (rl [(143, 156)] own164) (0, 0, 0) hd164 hz164 e164_15 e164_16 e164_17 e164_18 (Evo.rl_ hX164 (fun _ => Nat.le_refl 0) rfl) (BlkO.rl_ (mm := [(143, 156)]) b164_g137) (BlkO.rl_ (mm := [(143, 156)]) b164_g141) hs)

end Go.Proofs.Ytehmjkdgakinbaa
