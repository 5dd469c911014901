/-
  Chapter 20. The walks.
-/
import Derived.Test.YtehmjkdgakinbaaWp2
import Derived.Test.YtehmjkdgakinbaaWp3
import Derived.Test.YtehmjkdgakinbaaWp5
import Derived.Test.YtehmjkdgakinbaaSp7
namespace Go.Proofs.Ytehmjkdgakinbaa
open Go.RowKit
set_option linter.unusedVariables false
theorem ref01_May_w (w : World) (p1 : Int × Int) (r : Bool) (hs : ref01_May p1 = some r) :
    Calls Try.prog 46 #[.agg #[.int .i64 p1.1, .int .i64 p1.2]] w fun e w' => ∃ own' : Own, e = .returned (.bool r) ∧ Evo [] (fun _ => 0) own' w w' := by
  refine fl_enter (n := 21) rfl rfl rfl (Nat.le_of_ble_eq_true rfl) ?_
  intro a0 Q hd0 hz0 harg hret
  have ha0 := harg 0 _ rfl
  clear harg
  have hE0 : Evo [] (fun _ => 0) (fun _ => 0) w w := Evo.refl _ _ _
  refine rg_plain_seq (n := 21) (rs := []) (own0 := (fun _ => 0)) (K := [])
      (bs := [0, 0])
      (ds := [⟨[], [0], [], Fct.blk 18 1 (fun g => .pointer (some ⟨g, 0, none⟩)) 33 #[.int .i64 p1.1, .int .i64 p1.2]⟩,
      ⟨[], [], [], Fct.val 2 (.bool false)⟩]) (by kernel_rfl) hz0 hd0 (fun _ h => nomatch h) ?_ ?_
  · refine steps_cons (fun own a wx hf hsl hE => ?_) ?_
    · obtain ⟨s_0, -⟩ := hsl
      exact sg_plain rfl rfl (or_new [(0, .agg #[.int .i64 p1.1, .int .i64 p1.2])] rfl rfl ⟨(s_0.trans ha0), trivial⟩ (by kernel_rfl))
    refine steps_cons (fun own a wx hf hsl hE => ?_) ?_
    · exact sg_plain rfl rfl (or_assign rfl)
    exact steps_nil
  intro own19 a19 w19 hd19 hz19 hk19 hf19 hE19
  obtain ⟨⟨g17, (f_1 : a19.eval (.tmp 1) = .pointer (some ⟨g17, 0, none⟩)), (b_g17 : BlkO own19 18 w19 g17 33 #[.int .i64 p1.1, .int .i64 p1.2])⟩, -⟩ := hf19 [0] rfl
  have e19_1 := f_1
  have hX19 := Evo.step hE0 (fun _ => Nat.le_refl 0) hE19 rfl
  have b19_g17 := b_g17
  obtain ⟨x20, hx20, hs⟩ := obind hs
  obtain ⟨x21, hx21, hs⟩ := obind hs
  refine rg_plain_seq (n := 21) (rs := []) (own0 := own19) (K := [])
      (bs := [0, 1, 3, 7, 15, 31, 63, 127, 255, 511, 1023, 2047, 4095, 8191, 16383, 32767, 65535, 131071, 262143])
      (ds := [⟨[], [1], [], Fct.val 3 (.pointer (some ⟨g17, 0, none⟩))⟩,
      ⟨[0], [], [], Fct.val 4 (.int .i64 p1.1)⟩,
      ⟨[1], [], [], Fct.val 5 (.bool (decide ((-16777216) ≤ p1.1)))⟩,
      ⟨[2], [], [], Fct.val 6 (.bool (decide ((-16777216) ≤ p1.1)))⟩,
      ⟨[3], [1], [], Fct.cond (decide ((-16777216) ≤ p1.1)) (some 7) (Fct.val 7 (.pointer (some ⟨g17, 0, none⟩)))⟩,
      ⟨[3, 4], [], [], Fct.cond (decide ((-16777216) ≤ p1.1)) (some 8) (Fct.val 8 (.int .i64 p1.1))⟩,
      ⟨[3, 5], [], [], Fct.cond (decide ((-16777216) ≤ p1.1)) (some 9) (Fct.val 9 (.bool (decide (p1.1 ≤ 16777216))))⟩,
      ⟨[3, 6], [], [], Fct.val 10 (.bool x20)⟩,
      ⟨[7], [], [], Fct.val 11 (.bool x20)⟩,
      ⟨[8], [1], [], Fct.cond x20 (some 12) (Fct.val 12 (.pointer (some ⟨g17, 1, none⟩)))⟩,
      ⟨[8, 9], [], [], Fct.cond x20 (some 13) (Fct.val 13 (.int .i64 p1.2))⟩,
      ⟨[8, 10], [], [], Fct.cond x20 (some 14) (Fct.val 14 (.bool (decide ((-16777216) ≤ p1.2))))⟩,
      ⟨[8, 11], [], [], Fct.val 15 (.bool x21)⟩,
      ⟨[12], [], [], Fct.val 16 (.bool x21)⟩,
      ⟨[13], [1], [], Fct.cond x21 (some 17) (Fct.val 17 (.pointer (some ⟨g17, 1, none⟩)))⟩,
      ⟨[13, 14], [], [], Fct.cond x21 (some 18) (Fct.val 18 (.int .i64 p1.2))⟩,
      ⟨[13, 15], [], [], Fct.cond x21 (some 19) (Fct.val 19 (.bool (decide (p1.2 ≤ 16777216))))⟩,
      ⟨[13, 16], [], [], Fct.val 20 (.bool (x21 && (decide (p1.2 ≤ 16777216))))⟩,
      ⟨[17], [], [], Fct.val 2 (.bool (x21 && (decide (p1.2 ≤ 16777216))))⟩]) (by kernel_rfl) hz19 hd19 (fun _ h => nomatch h) ?_ ?_
  · refine steps_cons (fun own a wx hf hsl hE => ?_) ?_
    · obtain ⟨s_1, -⟩ := hsl
      exact sg_plain rfl rfl (or_field fo33_0 (s_1.trans e19_1) (by rfl))
    refine steps_cons (fun own a wx hf hsl hE => ?_) ?_
    · obtain ⟨(f_3 : a.eval (.tmp 3) = .pointer (some ⟨g17, 0, none⟩)), -⟩ := hf
      exact sg_plain rfl rfl (or_load1 to3 f_3 (Blk.at_ (BlkO.evo (by decide) hE b19_g17).2 0 rfl))
    refine steps_cons (fun own a wx hf hsl hE => ?_) ?_
    · obtain ⟨(f_4 : a.eval (.tmp 4) = .int .i64 p1.1), -⟩ := hf
      exact sg_plain rfl rfl (or_geq f_4 rfl rfl)
    refine steps_cons (fun own a wx hf hsl hE => ?_) ?_
    · obtain ⟨(f_5 : a.eval (.tmp 5) = .bool (decide ((-16777216) ≤ p1.1))), -⟩ := hf
      exact sg_plain rfl rfl (or_move f_5)
    refine steps_cons (fun own a wx hf hsl hE => ?_) ?_
    · obtain ⟨(f_6 : a.eval (.tmp 6) = .bool (decide ((-16777216) ≤ p1.1))), -⟩ := hf
      obtain ⟨s_1, -⟩ := hsl
      refine sg_t rfl rfl rfl f_6 (fun hg => ?_)
      exact or_field fo33_0 (s_1.trans e19_1) (by rfl)
    refine steps_cons (fun own a wx hf hsl hE => ?_) ?_
    · obtain ⟨(f_6 : a.eval (.tmp 6) = .bool (decide ((-16777216) ≤ p1.1))), c_7, -⟩ := hf
      refine sg_t rfl rfl rfl f_6 (fun hg => ?_)
      have f_7 : a.eval (.tmp 7) = .pointer (some ⟨g17, 0, none⟩) := c_7.1 hg
      exact or_load1 to3 f_7 (Blk.at_ (BlkO.evo (by decide) hE b19_g17).2 0 rfl)
    refine steps_cons (fun own a wx hf hsl hE => ?_) ?_
    · obtain ⟨(f_6 : a.eval (.tmp 6) = .bool (decide ((-16777216) ≤ p1.1))), c_8, -⟩ := hf
      refine sg_t rfl rfl rfl f_6 (fun hg => ?_)
      have f_8 : a.eval (.tmp 8) = .int .i64 p1.1 := c_8.1 hg
      exact or_leq f_8 rfl rfl
    refine steps_cons (fun own a wx hf hsl hE => ?_) ?_
    · obtain ⟨(f_6 : a.eval (.tmp 6) = .bool (decide ((-16777216) ≤ p1.1))), c_9, -⟩ := hf
      exact sg_plain rfl rfl (or_and f_6 (fun hx => c_9.1 hx) rfl (osome hx20).symm)
    refine steps_cons (fun own a wx hf hsl hE => ?_) ?_
    · obtain ⟨(f_10 : a.eval (.tmp 10) = .bool x20), -⟩ := hf
      exact sg_plain rfl rfl (or_move f_10)
    refine steps_cons (fun own a wx hf hsl hE => ?_) ?_
    · obtain ⟨(f_11 : a.eval (.tmp 11) = .bool x20), -⟩ := hf
      obtain ⟨s_1, -⟩ := hsl
      refine sg_t rfl rfl rfl f_11 (fun hg => ?_)
      exact or_field fo33_1 (s_1.trans e19_1) (by rfl)
    refine steps_cons (fun own a wx hf hsl hE => ?_) ?_
    · obtain ⟨(f_11 : a.eval (.tmp 11) = .bool x20), c_12, -⟩ := hf
      refine sg_t rfl rfl rfl f_11 (fun hg => ?_)
      have f_12 : a.eval (.tmp 12) = .pointer (some ⟨g17, 1, none⟩) := c_12.1 hg
      exact or_load1 to3 f_12 (Blk.at_ (BlkO.evo (by decide) hE b19_g17).2 1 rfl)
    refine steps_cons (fun own a wx hf hsl hE => ?_) ?_
    · obtain ⟨(f_11 : a.eval (.tmp 11) = .bool x20), c_13, -⟩ := hf
      refine sg_t rfl rfl rfl f_11 (fun hg => ?_)
      have f_13 : a.eval (.tmp 13) = .int .i64 p1.2 := c_13.1 hg
      exact or_geq f_13 rfl rfl
    refine steps_cons (fun own a wx hf hsl hE => ?_) ?_
    · obtain ⟨(f_11 : a.eval (.tmp 11) = .bool x20), c_14, -⟩ := hf
      exact sg_plain rfl rfl (or_and f_11 (fun hx => c_14.1 hx) rfl (osome hx21).symm)
    refine steps_cons (fun own a wx hf hsl hE => ?_) ?_
    · obtain ⟨(f_15 : a.eval (.tmp 15) = .bool x21), -⟩ := hf
      exact sg_plain rfl rfl (or_move f_15)
    refine steps_cons (fun own a wx hf hsl hE => ?_) ?_
    · obtain ⟨(f_16 : a.eval (.tmp 16) = .bool x21), -⟩ := hf
      obtain ⟨s_1, -⟩ := hsl
      refine sg_t rfl rfl rfl f_16 (fun hg => ?_)
      exact or_field fo33_1 (s_1.trans e19_1) (by rfl)
    refine steps_cons (fun own a wx hf hsl hE => ?_) ?_
    · obtain ⟨(f_16 : a.eval (.tmp 16) = .bool x21), c_17, -⟩ := hf
      refine sg_t rfl rfl rfl f_16 (fun hg => ?_)
      have f_17 : a.eval (.tmp 17) = .pointer (some ⟨g17, 1, none⟩) := c_17.1 hg
      exact or_load1 to3 f_17 (Blk.at_ (BlkO.evo (by decide) hE b19_g17).2 1 rfl)
    refine steps_cons (fun own a wx hf hsl hE => ?_) ?_
    · obtain ⟨(f_16 : a.eval (.tmp 16) = .bool x21), c_18, -⟩ := hf
      refine sg_t rfl rfl rfl f_16 (fun hg => ?_)
      have f_18 : a.eval (.tmp 18) = .int .i64 p1.2 := c_18.1 hg
      exact or_leq f_18 rfl rfl
    refine steps_cons (fun own a wx hf hsl hE => ?_) ?_
    · obtain ⟨(f_16 : a.eval (.tmp 16) = .bool x21), c_19, -⟩ := hf
      exact sg_plain rfl rfl (or_and f_16 (fun hx => c_19.1 hx) rfl rfl)
    refine steps_cons (fun own a wx hf hsl hE => ?_) ?_
    · obtain ⟨(f_20 : a.eval (.tmp 20) = .bool (x21 && (decide (p1.2 ≤ 16777216)))), -⟩ := hf
      exact sg_plain rfl rfl (or_assign f_20)
    exact steps_nil
  intro own22 a22 w22 hd22 hz22 hk22 hf22 hE22
  obtain ⟨(f_2 : a22.eval (.tmp 2) = .bool (x21 && (decide (p1.2 ≤ 16777216)))), -⟩ := hf22 [18] rfl
  have e22_2 := f_2
  have hX22 := Evo.step hX19 (fun _ => Nat.le_refl 0) hE22 rfl
  refine fl_ret ?_
  obtain rfl := osome hs
  exact hret _ _ _ _ (.inl rfl) hd22 (results1_ rfl (RVal.tmp_ e22_2)) ⟨own22, rfl, hX22⟩

theorem ref06_Right_w (w : World) (b1 : (Int × Int) × (Int × Int)) (r : Bool) (hs : ref06_Right b1 = some r) :
    Calls Try.prog 37 #[.agg #[.int .i64 b1.1.1, .int .i64 b1.1.2, .int .i64 b1.2.1, .int .i64 b1.2.2]] w fun e w' => ∃ own' : Own, e = .returned (.bool r) ∧ Evo [] (fun _ => 0) own' w w' := by
  refine fl_enter (n := 29) rfl rfl rfl (Nat.le_of_ble_eq_true rfl) ?_
  intro a0 Q hd0 hz0 harg hret
  have ha0 := harg 0 _ rfl
  clear harg
  have hE0 : Evo [] (fun _ => 0) (fun _ => 0) w w := Evo.refl _ _ _
  refine rg_plain_seq (n := 29) (rs := []) (own0 := (fun _ => 0)) (K := [])
      (bs := [0, 0])
      (ds := [⟨[], [0], [], Fct.blk 19 1 (fun g => .pointer (some ⟨g, 0, none⟩)) 41 #[.int .i64 b1.1.1, .int .i64 b1.1.2, .int .i64 b1.2.1, .int .i64 b1.2.2]⟩,
      ⟨[], [], [], Fct.val 2 (.bool false)⟩]) (by kernel_rfl) hz0 hd0 (fun _ h => nomatch h) ?_ ?_
  · refine steps_cons (fun own a wx hf hsl hE => ?_) ?_
    · obtain ⟨s_0, -⟩ := hsl
      exact sg_plain rfl rfl (or_new [(0, .agg #[.int .i64 b1.1.1, .int .i64 b1.1.2, .int .i64 b1.2.1, .int .i64 b1.2.2])] rfl rfl ⟨(s_0.trans ha0), trivial⟩ (by kernel_rfl))
    refine steps_cons (fun own a wx hf hsl hE => ?_) ?_
    · exact sg_plain rfl rfl (or_assign rfl)
    exact steps_nil
  intro own20 a20 w20 hd20 hz20 hk20 hf20 hE20
  obtain ⟨⟨g18, (f_1 : a20.eval (.tmp 1) = .pointer (some ⟨g18, 0, none⟩)), (b_g18 : BlkO own20 19 w20 g18 41 #[.int .i64 b1.1.1, .int .i64 b1.1.2, .int .i64 b1.2.1, .int .i64 b1.2.2])⟩, -⟩ := hf20 [0] rfl
  have e20_1 := f_1
  have hX20 := Evo.step hE0 (fun _ => Nat.le_refl 0) hE20 rfl
  have b20_g18 := b_g18
  obtain ⟨r21, hr21, hs⟩ := obind hs
  obtain ⟨r22, hr22, hs⟩ := obind hs
  obtain ⟨x23, hx23, hs⟩ := obind hs
  refine rg_plain_seq (n := 29) (rs := []) (own0 := own20) (K := [])
      (bs := [0, 1, 3, 7, 15, 31, 63, 127, 255, 511, 1023, 2047, 511, 4607, 12799, 32767, 65535, 131071, 262143, 524287, 1048575, 262143, 2359295, 6553599, 16777215, 33554431, 67108863])
      (ds := [⟨[], [1], [], Fct.val 3 (.pointer (some ⟨g18, 0, none⟩))⟩,
      ⟨[0], [], [], Fct.val 4 (.agg #[.int .i64 b1.1.1, .int .i64 b1.1.2])⟩,
      ⟨[1], [], [], Fct.val 5 (.bool r21)⟩,
      ⟨[2], [], [], Fct.val 6 (.bool r21)⟩,
      ⟨[3], [1], [], Fct.cond r21 (some 7) (Fct.val 7 (.pointer (some ⟨g18, 2, none⟩)))⟩,
      ⟨[3, 4], [], [], Fct.cond r21 (some 8) (Fct.val 8 (.agg #[.int .i64 b1.2.1, .int .i64 b1.2.2]))⟩,
      ⟨[3, 5], [], [], Fct.cond r21 (some 9) (Fct.val 9 (.bool r22))⟩,
      ⟨[3, 6], [], [], Fct.val 10 (.bool (r21 && r22))⟩,
      ⟨[7], [], [], Fct.val 11 (.bool (r21 && r22))⟩,
      ⟨[8], [1], [], Fct.cond (r21 && r22) (some 12) (Fct.val 12 (.pointer (some ⟨g18, 0, none⟩)))⟩,
      ⟨[8, 9], [], [], Fct.cond (r21 && r22) (some 13) (Fct.val 13 (.pointer (some ⟨g18, 0, none⟩)))⟩,
      ⟨[8, 10], [], [], Fct.cond (r21 && r22) (some 14) (Fct.val 14 (.int .i64 b1.1.1))⟩,
      ⟨[8], [1], [], Fct.cond (r21 && r22) (some 15) (Fct.val 15 (.pointer (some ⟨g18, 2, none⟩)))⟩,
      ⟨[8, 12], [], [], Fct.cond (r21 && r22) (some 16) (Fct.val 16 (.pointer (some ⟨g18, 2, none⟩)))⟩,
      ⟨[8, 13], [], [], Fct.cond (r21 && r22) (some 17) (Fct.val 17 (.int .i64 b1.2.1))⟩,
      ⟨[8, 11, 14], [], [], Fct.cond (r21 && r22) (some 18) (Fct.val 18 (.bool (decide (b1.1.1 ≤ b1.2.1))))⟩,
      ⟨[8, 15], [], [], Fct.val 19 (.bool x23)⟩,
      ⟨[16], [], [], Fct.val 20 (.bool x23)⟩,
      ⟨[17], [1], [], Fct.cond x23 (some 21) (Fct.val 21 (.pointer (some ⟨g18, 0, none⟩)))⟩,
      ⟨[17, 18], [], [], Fct.cond x23 (some 22) (Fct.val 22 (.pointer (some ⟨g18, 1, none⟩)))⟩,
      ⟨[17, 19], [], [], Fct.cond x23 (some 23) (Fct.val 23 (.int .i64 b1.1.2))⟩,
      ⟨[17], [1], [], Fct.cond x23 (some 24) (Fct.val 24 (.pointer (some ⟨g18, 2, none⟩)))⟩,
      ⟨[17, 21], [], [], Fct.cond x23 (some 25) (Fct.val 25 (.pointer (some ⟨g18, 3, none⟩)))⟩,
      ⟨[17, 22], [], [], Fct.cond x23 (some 26) (Fct.val 26 (.int .i64 b1.2.2))⟩,
      ⟨[17, 20, 23], [], [], Fct.cond x23 (some 27) (Fct.val 27 (.bool (decide (b1.1.2 ≤ b1.2.2))))⟩,
      ⟨[17, 24], [], [], Fct.val 28 (.bool (x23 && (decide (b1.1.2 ≤ b1.2.2))))⟩,
      ⟨[25], [], [], Fct.val 2 (.bool (x23 && (decide (b1.1.2 ≤ b1.2.2))))⟩]) (by kernel_rfl) hz20 hd20 (fun _ h => nomatch h) ?_ ?_
  · refine steps_cons (fun own a wx hf hsl hE => ?_) ?_
    · obtain ⟨s_1, -⟩ := hsl
      exact sg_plain rfl rfl (or_field fo41_0 (s_1.trans e20_1) (by rfl))
    refine steps_cons (fun own a wx hf hsl hE => ?_) ?_
    · obtain ⟨(f_3 : a.eval (.tmp 3) = .pointer (some ⟨g18, 0, none⟩)), -⟩ := hf
      exact sg_plain rfl rfl (or_load (l := [.int .i64 b1.1.1, .int .i64 b1.1.2]) ta33 f_3 (Blk.cellsFrom (BlkO.evo (by decide) hE b20_g18).2 0 rfl) rfl)
    refine steps_cons (fun own a wx hf hsl hE => ?_) ?_
    · obtain ⟨(f_4 : a.eval (.tmp 4) = .agg #[.int .i64 b1.1.1, .int .i64 b1.1.2]), -⟩ := hf
      exact sg_plain rfl rfl (or_call cf46 (args1 f_4) (ref01_May_w _ b1.1  r21 hr21) post_val)
    refine steps_cons (fun own a wx hf hsl hE => ?_) ?_
    · obtain ⟨(f_5 : a.eval (.tmp 5) = .bool r21), -⟩ := hf
      exact sg_plain rfl rfl (or_move f_5)
    refine steps_cons (fun own a wx hf hsl hE => ?_) ?_
    · obtain ⟨(f_6 : a.eval (.tmp 6) = .bool r21), -⟩ := hf
      obtain ⟨s_1, -⟩ := hsl
      refine sg_t rfl rfl rfl f_6 (fun hg => ?_)
      exact or_field fo41_1 (s_1.trans e20_1) (by rfl)
    refine steps_cons (fun own a wx hf hsl hE => ?_) ?_
    · obtain ⟨(f_6 : a.eval (.tmp 6) = .bool r21), c_7, -⟩ := hf
      refine sg_t rfl rfl rfl f_6 (fun hg => ?_)
      have f_7 : a.eval (.tmp 7) = .pointer (some ⟨g18, 2, none⟩) := c_7.1 hg
      exact or_load (l := [.int .i64 b1.2.1, .int .i64 b1.2.2]) ta33 f_7 (Blk.cellsFrom (BlkO.evo (by decide) hE b20_g18).2 2 rfl) rfl
    refine steps_cons (fun own a wx hf hsl hE => ?_) ?_
    · obtain ⟨(f_6 : a.eval (.tmp 6) = .bool r21), c_8, -⟩ := hf
      refine sg_t rfl rfl rfl f_6 (fun hg => ?_)
      have f_8 : a.eval (.tmp 8) = .agg #[.int .i64 b1.2.1, .int .i64 b1.2.2] := c_8.1 hg
      exact or_call cf46 (args1 f_8) (ref01_May_w _ b1.2  r22 (gd_t hr22 hg)) post_val
    refine steps_cons (fun own a wx hf hsl hE => ?_) ?_
    · obtain ⟨(f_6 : a.eval (.tmp 6) = .bool r21), c_9, -⟩ := hf
      exact sg_plain rfl rfl (or_and f_6 (fun hx => c_9.1 hx) rfl rfl)
    refine steps_cons (fun own a wx hf hsl hE => ?_) ?_
    · obtain ⟨(f_10 : a.eval (.tmp 10) = .bool (r21 && r22)), -⟩ := hf
      exact sg_plain rfl rfl (or_move f_10)
    refine steps_cons (fun own a wx hf hsl hE => ?_) ?_
    · obtain ⟨(f_11 : a.eval (.tmp 11) = .bool (r21 && r22)), -⟩ := hf
      obtain ⟨s_1, -⟩ := hsl
      refine sg_t rfl rfl rfl f_11 (fun hg => ?_)
      exact or_field fo41_0 (s_1.trans e20_1) (by rfl)
    refine steps_cons (fun own a wx hf hsl hE => ?_) ?_
    · obtain ⟨(f_11 : a.eval (.tmp 11) = .bool (r21 && r22)), c_12, -⟩ := hf
      refine sg_t rfl rfl rfl f_11 (fun hg => ?_)
      have f_12 : a.eval (.tmp 12) = .pointer (some ⟨g18, 0, none⟩) := c_12.1 hg
      exact or_field fo33_0 f_12 (by rfl)
    refine steps_cons (fun own a wx hf hsl hE => ?_) ?_
    · obtain ⟨(f_11 : a.eval (.tmp 11) = .bool (r21 && r22)), c_13, -⟩ := hf
      refine sg_t rfl rfl rfl f_11 (fun hg => ?_)
      have f_13 : a.eval (.tmp 13) = .pointer (some ⟨g18, 0, none⟩) := c_13.1 hg
      exact or_load1 to3 f_13 (Blk.at_ (BlkO.evo (by decide) hE b20_g18).2 0 rfl)
    refine steps_cons (fun own a wx hf hsl hE => ?_) ?_
    · obtain ⟨(f_11 : a.eval (.tmp 11) = .bool (r21 && r22)), -⟩ := hf
      obtain ⟨s_1, -⟩ := hsl
      refine sg_t rfl rfl rfl f_11 (fun hg => ?_)
      exact or_field fo41_1 (s_1.trans e20_1) (by rfl)
    refine steps_cons (fun own a wx hf hsl hE => ?_) ?_
    · obtain ⟨(f_11 : a.eval (.tmp 11) = .bool (r21 && r22)), c_15, -⟩ := hf
      refine sg_t rfl rfl rfl f_11 (fun hg => ?_)
      have f_15 : a.eval (.tmp 15) = .pointer (some ⟨g18, 2, none⟩) := c_15.1 hg
      exact or_field fo33_0 f_15 (by rfl)
    refine steps_cons (fun own a wx hf hsl hE => ?_) ?_
    · obtain ⟨(f_11 : a.eval (.tmp 11) = .bool (r21 && r22)), c_16, -⟩ := hf
      refine sg_t rfl rfl rfl f_11 (fun hg => ?_)
      have f_16 : a.eval (.tmp 16) = .pointer (some ⟨g18, 2, none⟩) := c_16.1 hg
      exact or_load1 to3 f_16 (Blk.at_ (BlkO.evo (by decide) hE b20_g18).2 2 rfl)
    refine steps_cons (fun own a wx hf hsl hE => ?_) ?_
    · obtain ⟨(f_11 : a.eval (.tmp 11) = .bool (r21 && r22)), c_14, c_17, -⟩ := hf
      refine sg_t rfl rfl rfl f_11 (fun hg => ?_)
      have f_14 : a.eval (.tmp 14) = .int .i64 b1.1.1 := c_14.1 hg
      have f_17 : a.eval (.tmp 17) = .int .i64 b1.2.1 := c_17.1 hg
      exact or_leq f_14 f_17 rfl
    refine steps_cons (fun own a wx hf hsl hE => ?_) ?_
    · obtain ⟨(f_11 : a.eval (.tmp 11) = .bool (r21 && r22)), c_18, -⟩ := hf
      exact sg_plain rfl rfl (or_and f_11 (fun hx => c_18.1 hx) rfl (osome hx23).symm)
    refine steps_cons (fun own a wx hf hsl hE => ?_) ?_
    · obtain ⟨(f_19 : a.eval (.tmp 19) = .bool x23), -⟩ := hf
      exact sg_plain rfl rfl (or_move f_19)
    refine steps_cons (fun own a wx hf hsl hE => ?_) ?_
    · obtain ⟨(f_20 : a.eval (.tmp 20) = .bool x23), -⟩ := hf
      obtain ⟨s_1, -⟩ := hsl
      refine sg_t rfl rfl rfl f_20 (fun hg => ?_)
      exact or_field fo41_0 (s_1.trans e20_1) (by rfl)
    refine steps_cons (fun own a wx hf hsl hE => ?_) ?_
    · obtain ⟨(f_20 : a.eval (.tmp 20) = .bool x23), c_21, -⟩ := hf
      refine sg_t rfl rfl rfl f_20 (fun hg => ?_)
      have f_21 : a.eval (.tmp 21) = .pointer (some ⟨g18, 0, none⟩) := c_21.1 hg
      exact or_field fo33_1 f_21 (by rfl)
    refine steps_cons (fun own a wx hf hsl hE => ?_) ?_
    · obtain ⟨(f_20 : a.eval (.tmp 20) = .bool x23), c_22, -⟩ := hf
      refine sg_t rfl rfl rfl f_20 (fun hg => ?_)
      have f_22 : a.eval (.tmp 22) = .pointer (some ⟨g18, 1, none⟩) := c_22.1 hg
      exact or_load1 to3 f_22 (Blk.at_ (BlkO.evo (by decide) hE b20_g18).2 1 rfl)
    refine steps_cons (fun own a wx hf hsl hE => ?_) ?_
    · obtain ⟨(f_20 : a.eval (.tmp 20) = .bool x23), -⟩ := hf
      obtain ⟨s_1, -⟩ := hsl
      refine sg_t rfl rfl rfl f_20 (fun hg => ?_)
      exact or_field fo41_1 (s_1.trans e20_1) (by rfl)
    refine steps_cons (fun own a wx hf hsl hE => ?_) ?_
    · obtain ⟨(f_20 : a.eval (.tmp 20) = .bool x23), c_24, -⟩ := hf
      refine sg_t rfl rfl rfl f_20 (fun hg => ?_)
      have f_24 : a.eval (.tmp 24) = .pointer (some ⟨g18, 2, none⟩) := c_24.1 hg
      exact or_field fo33_1 f_24 (by rfl)
    refine steps_cons (fun own a wx hf hsl hE => ?_) ?_
    · obtain ⟨(f_20 : a.eval (.tmp 20) = .bool x23), c_25, -⟩ := hf
      refine sg_t rfl rfl rfl f_20 (fun hg => ?_)
      have f_25 : a.eval (.tmp 25) = .pointer (some ⟨g18, 3, none⟩) := c_25.1 hg
      exact or_load1 to3 f_25 (Blk.at_ (BlkO.evo (by decide) hE b20_g18).2 3 rfl)
    refine steps_cons (fun own a wx hf hsl hE => ?_) ?_
    · obtain ⟨(f_20 : a.eval (.tmp 20) = .bool x23), c_23, c_26, -⟩ := hf
      refine sg_t rfl rfl rfl f_20 (fun hg => ?_)
      have f_23 : a.eval (.tmp 23) = .int .i64 b1.1.2 := c_23.1 hg
      have f_26 : a.eval (.tmp 26) = .int .i64 b1.2.2 := c_26.1 hg
      exact or_leq f_23 f_26 rfl
    refine steps_cons (fun own a wx hf hsl hE => ?_) ?_
    · obtain ⟨(f_20 : a.eval (.tmp 20) = .bool x23), c_27, -⟩ := hf
      exact sg_plain rfl rfl (or_and f_20 (fun hx => c_27.1 hx) rfl rfl)
    refine steps_cons (fun own a wx hf hsl hE => ?_) ?_
    · obtain ⟨(f_28 : a.eval (.tmp 28) = .bool (x23 && (decide (b1.1.2 ≤ b1.2.2)))), -⟩ := hf
      exact sg_plain rfl rfl (or_assign f_28)
    exact steps_nil
  intro own24 a24 w24 hd24 hz24 hk24 hf24 hE24
  obtain ⟨(f_2 : a24.eval (.tmp 2) = .bool (x23 && (decide (b1.1.2 ≤ b1.2.2)))), -⟩ := hf24 [26] rfl
  have e24_2 := f_2
  have hX24 := Evo.step hX20 (fun _ => Nat.le_refl 0) hE24 rfl
  refine fl_ret ?_
  obtain rfl := osome hs
  exact hret _ _ _ _ (.inl rfl) hd24 (results1_ rfl (RVal.tmp_ e24_2)) ⟨own24, rfl, hX24⟩

theorem ref06_Meet_w (w : World) (x1 : (Int × Int) × (Int × Int)) (b2 : (Int × Int) × (Int × Int)) (r : Bool) (hs : ref06_Meet x1 b2 = some r) :
    Calls Try.prog 33 #[.agg #[.int .i64 x1.1.1, .int .i64 x1.1.2, .int .i64 x1.2.1, .int .i64 x1.2.2], .agg #[.int .i64 b2.1.1, .int .i64 b2.1.2, .int .i64 b2.2.1, .int .i64 b2.2.2]] w fun e w' => ∃ own' : Own, e = .returned (.bool r) ∧ Evo [] (fun _ => 0) own' w w' := by
  refine fl_enter (n := 53) rfl rfl rfl (Nat.le_of_ble_eq_true rfl) ?_
  intro a0 Q hd0 hz0 harg hret
  have ha0 := harg 0 _ rfl
  have ha1 := harg 1 _ rfl
  clear harg
  have hE0 : Evo [] (fun _ => 0) (fun _ => 0) w w := Evo.refl _ _ _
  refine rg_plain_seq (n := 53) (rs := []) (own0 := (fun _ => 0)) (K := [])
      (bs := [0, 0, 0])
      (ds := [⟨[], [0], [], Fct.blk 27 2 (fun g => .pointer (some ⟨g, 0, none⟩)) 41 #[.int .i64 x1.1.1, .int .i64 x1.1.2, .int .i64 x1.2.1, .int .i64 x1.2.2]⟩,
      ⟨[], [1], [], Fct.blk 29 3 (fun g => .pointer (some ⟨g, 0, none⟩)) 41 #[.int .i64 b2.1.1, .int .i64 b2.1.2, .int .i64 b2.2.1, .int .i64 b2.2.2]⟩,
      ⟨[], [], [], Fct.val 4 (.bool false)⟩]) (by kernel_rfl) hz0 hd0 (fun _ h => nomatch h) ?_ ?_
  · refine steps_cons (fun own a wx hf hsl hE => ?_) ?_
    · obtain ⟨s_0, -⟩ := hsl
      exact sg_plain rfl rfl (or_new [(0, .agg #[.int .i64 x1.1.1, .int .i64 x1.1.2, .int .i64 x1.2.1, .int .i64 x1.2.2])] rfl rfl ⟨(s_0.trans ha0), trivial⟩ (by kernel_rfl))
    refine steps_cons (fun own a wx hf hsl hE => ?_) ?_
    · obtain ⟨s_1, -⟩ := hsl
      exact sg_plain rfl rfl (or_new [(1, .agg #[.int .i64 b2.1.1, .int .i64 b2.1.2, .int .i64 b2.2.1, .int .i64 b2.2.2])] rfl rfl ⟨(s_1.trans ha1), trivial⟩ (by kernel_rfl))
    refine steps_cons (fun own a wx hf hsl hE => ?_) ?_
    · exact sg_plain rfl rfl (or_assign rfl)
    exact steps_nil
  intro own30 a30 w30 hd30 hz30 hk30 hf30 hE30
  obtain ⟨⟨g26, (f_2 : a30.eval (.tmp 2) = .pointer (some ⟨g26, 0, none⟩)), (b_g26 : BlkO own30 27 w30 g26 41 #[.int .i64 x1.1.1, .int .i64 x1.1.2, .int .i64 x1.2.1, .int .i64 x1.2.2])⟩, ⟨g28, (f_3 : a30.eval (.tmp 3) = .pointer (some ⟨g28, 0, none⟩)), (b_g28 : BlkO own30 29 w30 g28 41 #[.int .i64 b2.1.1, .int .i64 b2.1.2, .int .i64 b2.2.1, .int .i64 b2.2.2])⟩, -⟩ := hf30 [0, 1] rfl
  have e30_2 := f_2
  have e30_3 := f_3
  have hX30 := Evo.step hE0 (fun _ => Nat.le_refl 0) hE30 rfl
  have b30_g26 := b_g26
  have b30_g28 := b_g28
  refine fl_seq (fun Q31 hn31 hp31 => ?_)
  obtain ⟨r32, hr32, hs⟩ := obind hs
  obtain ⟨r33, hr33, hs⟩ := obind hs
  refine rg_plain_seq (n := 53) (rs := []) (own0 := own30) (K := [])
      (bs := [0, 1, 3, 7, 15, 31, 63, 127])
      (ds := [⟨[], [2], [], Fct.val 9 (.agg #[.int .i64 x1.1.1, .int .i64 x1.1.2, .int .i64 x1.2.1, .int .i64 x1.2.2])⟩,
      ⟨[0], [], [], Fct.val 10 (.bool r32)⟩,
      ⟨[1], [], [], Fct.val 11 (.bool (!r32))⟩,
      ⟨[2], [], [], Fct.val 12 (.bool (!r32))⟩,
      ⟨[3], [3], [], Fct.cond (!(!r32)) (some 13) (Fct.val 13 (.agg #[.int .i64 b2.1.1, .int .i64 b2.1.2, .int .i64 b2.2.1, .int .i64 b2.2.2]))⟩,
      ⟨[3, 4], [], [], Fct.cond (!(!r32)) (some 14) (Fct.val 14 (.bool r33))⟩,
      ⟨[3, 5], [], [], Fct.cond (!(!r32)) (some 15) (Fct.val 15 (.bool (!r33)))⟩,
      ⟨[3, 6], [], [], Fct.val 16 (.bool ((!r32) || (!r33)))⟩]) (by kernel_rfl) hz30 hd30 (fun _ h => nomatch h) ?_ ?_
  · refine steps_cons (fun own a wx hf hsl hE => ?_) ?_
    · obtain ⟨s_2, -⟩ := hsl
      exact sg_plain rfl rfl (or_load (l := [.int .i64 x1.1.1, .int .i64 x1.1.2, .int .i64 x1.2.1, .int .i64 x1.2.2]) ta41 (s_2.trans e30_2) (Blk.cellsFrom (BlkO.evo (by decide) hE b30_g26).2 0 rfl) rfl)
    refine steps_cons (fun own a wx hf hsl hE => ?_) ?_
    · obtain ⟨(f_9 : a.eval (.tmp 9) = .agg #[.int .i64 x1.1.1, .int .i64 x1.1.2, .int .i64 x1.2.1, .int .i64 x1.2.2]), -⟩ := hf
      exact sg_plain rfl rfl (or_call cf37 (args1 f_9) (ref06_Right_w _ x1  r32 hr32) post_val)
    refine steps_cons (fun own a wx hf hsl hE => ?_) ?_
    · obtain ⟨(f_10 : a.eval (.tmp 10) = .bool r32), -⟩ := hf
      exact sg_plain rfl rfl (or_not f_10 rfl)
    refine steps_cons (fun own a wx hf hsl hE => ?_) ?_
    · obtain ⟨(f_11 : a.eval (.tmp 11) = .bool (!r32)), -⟩ := hf
      exact sg_plain rfl rfl (or_move f_11)
    refine steps_cons (fun own a wx hf hsl hE => ?_) ?_
    · obtain ⟨(f_12 : a.eval (.tmp 12) = .bool (!r32)), -⟩ := hf
      obtain ⟨s_3, -⟩ := hsl
      refine sg_f rfl rfl rfl f_12 (fun hg => ?_)
      exact or_load (l := [.int .i64 b2.1.1, .int .i64 b2.1.2, .int .i64 b2.2.1, .int .i64 b2.2.2]) ta41 (s_3.trans e30_3) (Blk.cellsFrom (BlkO.evo (by decide) hE b30_g28).2 0 rfl) rfl
    refine steps_cons (fun own a wx hf hsl hE => ?_) ?_
    · obtain ⟨(f_12 : a.eval (.tmp 12) = .bool (!r32)), c_13, -⟩ := hf
      refine sg_f rfl rfl rfl f_12 (fun hg => ?_)
      have f_13 : a.eval (.tmp 13) = .agg #[.int .i64 b2.1.1, .int .i64 b2.1.2, .int .i64 b2.2.1, .int .i64 b2.2.2] := c_13.1 hg
      exact or_call cf37 (args1 f_13) (ref06_Right_w _ b2  r33 (gd_t hr33 hg)) post_val
    refine steps_cons (fun own a wx hf hsl hE => ?_) ?_
    · obtain ⟨(f_12 : a.eval (.tmp 12) = .bool (!r32)), c_14, -⟩ := hf
      refine sg_f rfl rfl rfl f_12 (fun hg => ?_)
      have f_14 : a.eval (.tmp 14) = .bool r33 := c_14.1 hg
      exact or_not f_14 rfl
    refine steps_cons (fun own a wx hf hsl hE => ?_) ?_
    · obtain ⟨(f_12 : a.eval (.tmp 12) = .bool (!r32)), c_15, -⟩ := hf
      exact sg_plain rfl rfl (or_or f_12 rfl (fun hx => c_15.1 hx) rfl)
    exact steps_nil
  intro own34 a34 w34 hd34 hz34 hk34 hf34 hE34
  have e34_2 : a34.eval (.tmp 2) = .pointer (some ⟨g26, 0, none⟩) := (hk34 2 rfl).trans e30_2
  have e34_3 : a34.eval (.tmp 3) = .pointer (some ⟨g28, 0, none⟩) := (hk34 3 rfl).trans e30_3
  obtain ⟨(f_16 : a34.eval (.tmp 16) = .bool ((!r32) || (!r33))), -⟩ := hf34 [7] rfl
  have e34_16 := f_16
  have hX34 := Evo.step hX30 (fun _ => Nat.le_refl 0) hE34 rfl
  have b34_g26 := BlkO.evo (by decide) hE34 b30_g26
  have b34_g28 := BlkO.evo (by decide) hE34 b30_g28
  refine fl_cond e34_16 hs (fun c35 hs => ?_) (fun c35 hs => ?_)
  · refine rg_plain_seq (n := 53) (rs := []) (own0 := own34) (K := [])
        (bs := [0])
        (ds := [⟨[], [], [], Fct.val 4 (.bool false)⟩]) (by kernel_rfl) hz34 hd34 (fun _ h => nomatch h) ?_ ?_
    · refine steps_cons (fun own a wx hf hsl hE => ?_) ?_
      · exact sg_plain rfl rfl (or_assign rfl)
      exact steps_nil
    intro own36 a36 w36 hd36 hz36 hk36 hf36 hE36
    obtain ⟨(f_4 : a36.eval (.tmp 4) = .bool false), -⟩ := hf36 [0] rfl
    have e36_4 := f_4
    have hX36 := Evo.step hX34 (fun _ => Nat.le_refl 0) hE36 rfl
    refine fl_ret ?_
    refine hp31 _ _ _ rfl ?_
    obtain rfl := osome hs
    exact hret _ _ _ _ (.inl rfl) hd36 (results1_ rfl (RVal.tmp_ e36_4)) ⟨own36, rfl, hX36⟩
  refine fl_skip ?_
  refine hn31 _ _ ?_
  refine rg_draw_seq g_mixed (n := 53) (rs := []) (own0 := own34) (K := [])
      (bs := [0, 1, 3, 0, 8, 24, 63, 0, 128, 384, 0, 1024, 3072, 8064, 127, 32767])
      (ds := [⟨[], [2], [], Fct.val 17 (.pointer (some ⟨g26, 0, none⟩))⟩,
      ⟨[0], [], [], Fct.val 18 (.pointer (some ⟨g26, 0, none⟩))⟩,
      ⟨[1], [], [], Fct.val 19 (.int .i64 x1.1.1)⟩,
      ⟨[], [3], [], Fct.val 20 (.pointer (some ⟨g28, 0, none⟩))⟩,
      ⟨[3], [], [], Fct.val 21 (.pointer (some ⟨g28, 0, none⟩))⟩,
      ⟨[4], [], [], Fct.val 22 (.int .i64 b2.1.1)⟩,
      ⟨[2, 5], [], [], Fct.val 23 (.int .i64 (mx x1.1.1 b2.1.1))⟩,
      ⟨[], [2], [], Fct.val 24 (.pointer (some ⟨g26, 2, none⟩))⟩,
      ⟨[7], [], [], Fct.val 25 (.pointer (some ⟨g26, 2, none⟩))⟩,
      ⟨[8], [], [], Fct.val 26 (.int .i64 x1.2.1)⟩,
      ⟨[], [3], [], Fct.val 27 (.pointer (some ⟨g28, 2, none⟩))⟩,
      ⟨[10], [], [], Fct.val 28 (.pointer (some ⟨g28, 2, none⟩))⟩,
      ⟨[11], [], [], Fct.val 29 (.int .i64 b2.2.1)⟩,
      ⟨[9, 12], [], [], Fct.val 30 (.int .i64 (mn x1.2.1 b2.2.1))⟩,
      ⟨[6], [], [], Fct.val 5 (.int .i64 (mx x1.1.1 b2.1.1))⟩,
      ⟨[13], [], [], Fct.val 6 (.int .i64 (mn x1.2.1 b2.2.1))⟩]) (by kernel_rfl) hz34 hd34 (fun _ h => nomatch h) ?_ ?_
  · refine steps_cons (fun own a wx hf hsl hE => ?_) ?_
    · obtain ⟨s_2, -⟩ := hsl
      exact sg_plain rfl rfl (or_field fo41_0 (s_2.trans e34_2) (by rfl))
    refine steps_cons (fun own a wx hf hsl hE => ?_) ?_
    · obtain ⟨(f_17 : a.eval (.tmp 17) = .pointer (some ⟨g26, 0, none⟩)), -⟩ := hf
      exact sg_plain rfl rfl (or_field fo33_0 f_17 (by rfl))
    refine steps_cons (fun own a wx hf hsl hE => ?_) ?_
    · obtain ⟨(f_18 : a.eval (.tmp 18) = .pointer (some ⟨g26, 0, none⟩)), -⟩ := hf
      exact sg_plain rfl rfl (or_load1 to3 f_18 (Blk.at_ (BlkO.evo (by decide) hE b34_g26).2 0 rfl))
    refine steps_cons (fun own a wx hf hsl hE => ?_) ?_
    · obtain ⟨s_3, -⟩ := hsl
      exact sg_plain rfl rfl (or_field fo41_0 (s_3.trans e34_3) (by rfl))
    refine steps_cons (fun own a wx hf hsl hE => ?_) ?_
    · obtain ⟨(f_20 : a.eval (.tmp 20) = .pointer (some ⟨g28, 0, none⟩)), -⟩ := hf
      exact sg_plain rfl rfl (or_field fo33_0 f_20 (by rfl))
    refine steps_cons (fun own a wx hf hsl hE => ?_) ?_
    · obtain ⟨(f_21 : a.eval (.tmp 21) = .pointer (some ⟨g28, 0, none⟩)), -⟩ := hf
      exact sg_plain rfl rfl (or_load1 to3 f_21 (Blk.at_ (BlkO.evo (by decide) hE b34_g28).2 0 rfl))
    refine steps_cons (fun own a wx hf hsl hE => ?_) ?_
    · obtain ⟨(f_19 : a.eval (.tmp 19) = .int .i64 x1.1.1), (f_22 : a.eval (.tmp 22) = .int .i64 b2.1.1), -⟩ := hf
      exact sg_plain rfl rfl (or_max f_19 f_22)
    refine steps_cons (fun own a wx hf hsl hE => ?_) ?_
    · obtain ⟨s_2, -⟩ := hsl
      exact sg_plain rfl rfl (or_field fo41_1 (s_2.trans e34_2) (by rfl))
    refine steps_cons (fun own a wx hf hsl hE => ?_) ?_
    · obtain ⟨(f_24 : a.eval (.tmp 24) = .pointer (some ⟨g26, 2, none⟩)), -⟩ := hf
      exact sg_plain rfl rfl (or_field fo33_0 f_24 (by rfl))
    refine steps_cons (fun own a wx hf hsl hE => ?_) ?_
    · obtain ⟨(f_25 : a.eval (.tmp 25) = .pointer (some ⟨g26, 2, none⟩)), -⟩ := hf
      exact sg_plain rfl rfl (or_load1 to3 f_25 (Blk.at_ (BlkO.evo (by decide) hE b34_g26).2 2 rfl))
    refine steps_cons (fun own a wx hf hsl hE => ?_) ?_
    · obtain ⟨s_3, -⟩ := hsl
      exact sg_plain rfl rfl (or_field fo41_1 (s_3.trans e34_3) (by rfl))
    refine steps_cons (fun own a wx hf hsl hE => ?_) ?_
    · obtain ⟨(f_27 : a.eval (.tmp 27) = .pointer (some ⟨g28, 2, none⟩)), -⟩ := hf
      exact sg_plain rfl rfl (or_field fo33_0 f_27 (by rfl))
    refine steps_cons (fun own a wx hf hsl hE => ?_) ?_
    · obtain ⟨(f_28 : a.eval (.tmp 28) = .pointer (some ⟨g28, 2, none⟩)), -⟩ := hf
      exact sg_plain rfl rfl (or_load1 to3 f_28 (Blk.at_ (BlkO.evo (by decide) hE b34_g28).2 2 rfl))
    refine steps_cons (fun own a wx hf hsl hE => ?_) ?_
    · obtain ⟨(f_26 : a.eval (.tmp 26) = .int .i64 x1.2.1), (f_29 : a.eval (.tmp 29) = .int .i64 b2.2.1), -⟩ := hf
      exact sg_plain rfl rfl (or_min f_26 f_29)
    refine steps_cons (fun own a wx hf hsl hE => ?_) ?_
    · obtain ⟨(f_23 : a.eval (.tmp 23) = .int .i64 (mx x1.1.1 b2.1.1)), -⟩ := hf
      exact sg_plain rfl rfl (or_assign f_23)
    refine steps_cons (fun own a wx hf hsl hE => ?_) ?_
    · obtain ⟨(f_30 : a.eval (.tmp 30) = .int .i64 (mn x1.2.1 b2.2.1)), -⟩ := hf
      exact sg_plain rfl rfl (or_assign f_30)
    exact steps_nil
  intro own37 a37 w37 hd37 hz37 hk37 hf37 hE37
  have e37_2 : a37.eval (.tmp 2) = .pointer (some ⟨g26, 0, none⟩) := (hk37 2 rfl).trans e34_2
  have e37_3 : a37.eval (.tmp 3) = .pointer (some ⟨g28, 0, none⟩) := (hk37 3 rfl).trans e34_3
  obtain ⟨(f_5 : a37.eval (.tmp 5) = .int .i64 (mx x1.1.1 b2.1.1)), (f_6 : a37.eval (.tmp 6) = .int .i64 (mn x1.2.1 b2.2.1)), -⟩ := hf37 [14, 15] rfl
  have e37_5 := f_5
  have e37_6 := f_6
  have hX37 := Evo.step hX34 (fun _ => Nat.le_refl 0) hE37 rfl
  have b37_g26 := BlkO.evo (by decide) hE37 b34_g26
  have b37_g28 := BlkO.evo (by decide) hE37 b34_g28
  refine rg_draw_seq g_mixed (n := 53) (rs := []) (own0 := own37) (K := [])
      (bs := [0, 1, 3, 0, 8, 24, 63, 0, 128, 384, 0, 1024, 3072, 8064, 127, 32767])
      (ds := [⟨[], [2], [], Fct.val 31 (.pointer (some ⟨g26, 0, none⟩))⟩,
      ⟨[0], [], [], Fct.val 32 (.pointer (some ⟨g26, 1, none⟩))⟩,
      ⟨[1], [], [], Fct.val 33 (.int .i64 x1.1.2)⟩,
      ⟨[], [3], [], Fct.val 34 (.pointer (some ⟨g28, 0, none⟩))⟩,
      ⟨[3], [], [], Fct.val 35 (.pointer (some ⟨g28, 1, none⟩))⟩,
      ⟨[4], [], [], Fct.val 36 (.int .i64 b2.1.2)⟩,
      ⟨[2, 5], [], [], Fct.val 37 (.int .i64 (mx x1.1.2 b2.1.2))⟩,
      ⟨[], [2], [], Fct.val 38 (.pointer (some ⟨g26, 2, none⟩))⟩,
      ⟨[7], [], [], Fct.val 39 (.pointer (some ⟨g26, 3, none⟩))⟩,
      ⟨[8], [], [], Fct.val 40 (.int .i64 x1.2.2)⟩,
      ⟨[], [3], [], Fct.val 41 (.pointer (some ⟨g28, 2, none⟩))⟩,
      ⟨[10], [], [], Fct.val 42 (.pointer (some ⟨g28, 3, none⟩))⟩,
      ⟨[11], [], [], Fct.val 43 (.int .i64 b2.2.2)⟩,
      ⟨[9, 12], [], [], Fct.val 44 (.int .i64 (mn x1.2.2 b2.2.2))⟩,
      ⟨[6], [], [], Fct.val 7 (.int .i64 (mx x1.1.2 b2.1.2))⟩,
      ⟨[13], [], [], Fct.val 8 (.int .i64 (mn x1.2.2 b2.2.2))⟩]) (by kernel_rfl) hz37 hd37 (fun _ h => nomatch h) ?_ ?_
  · refine steps_cons (fun own a wx hf hsl hE => ?_) ?_
    · obtain ⟨s_2, -⟩ := hsl
      exact sg_plain rfl rfl (or_field fo41_0 (s_2.trans e37_2) (by rfl))
    refine steps_cons (fun own a wx hf hsl hE => ?_) ?_
    · obtain ⟨(f_31 : a.eval (.tmp 31) = .pointer (some ⟨g26, 0, none⟩)), -⟩ := hf
      exact sg_plain rfl rfl (or_field fo33_1 f_31 (by rfl))
    refine steps_cons (fun own a wx hf hsl hE => ?_) ?_
    · obtain ⟨(f_32 : a.eval (.tmp 32) = .pointer (some ⟨g26, 1, none⟩)), -⟩ := hf
      exact sg_plain rfl rfl (or_load1 to3 f_32 (Blk.at_ (BlkO.evo (by decide) hE b37_g26).2 1 rfl))
    refine steps_cons (fun own a wx hf hsl hE => ?_) ?_
    · obtain ⟨s_3, -⟩ := hsl
      exact sg_plain rfl rfl (or_field fo41_0 (s_3.trans e37_3) (by rfl))
    refine steps_cons (fun own a wx hf hsl hE => ?_) ?_
    · obtain ⟨(f_34 : a.eval (.tmp 34) = .pointer (some ⟨g28, 0, none⟩)), -⟩ := hf
      exact sg_plain rfl rfl (or_field fo33_1 f_34 (by rfl))
    refine steps_cons (fun own a wx hf hsl hE => ?_) ?_
    · obtain ⟨(f_35 : a.eval (.tmp 35) = .pointer (some ⟨g28, 1, none⟩)), -⟩ := hf
      exact sg_plain rfl rfl (or_load1 to3 f_35 (Blk.at_ (BlkO.evo (by decide) hE b37_g28).2 1 rfl))
    refine steps_cons (fun own a wx hf hsl hE => ?_) ?_
    · obtain ⟨(f_33 : a.eval (.tmp 33) = .int .i64 x1.1.2), (f_36 : a.eval (.tmp 36) = .int .i64 b2.1.2), -⟩ := hf
      exact sg_plain rfl rfl (or_max f_33 f_36)
    refine steps_cons (fun own a wx hf hsl hE => ?_) ?_
    · obtain ⟨s_2, -⟩ := hsl
      exact sg_plain rfl rfl (or_field fo41_1 (s_2.trans e37_2) (by rfl))
    refine steps_cons (fun own a wx hf hsl hE => ?_) ?_
    · obtain ⟨(f_38 : a.eval (.tmp 38) = .pointer (some ⟨g26, 2, none⟩)), -⟩ := hf
      exact sg_plain rfl rfl (or_field fo33_1 f_38 (by rfl))
    refine steps_cons (fun own a wx hf hsl hE => ?_) ?_
    · obtain ⟨(f_39 : a.eval (.tmp 39) = .pointer (some ⟨g26, 3, none⟩)), -⟩ := hf
      exact sg_plain rfl rfl (or_load1 to3 f_39 (Blk.at_ (BlkO.evo (by decide) hE b37_g26).2 3 rfl))
    refine steps_cons (fun own a wx hf hsl hE => ?_) ?_
    · obtain ⟨s_3, -⟩ := hsl
      exact sg_plain rfl rfl (or_field fo41_1 (s_3.trans e37_3) (by rfl))
    refine steps_cons (fun own a wx hf hsl hE => ?_) ?_
    · obtain ⟨(f_41 : a.eval (.tmp 41) = .pointer (some ⟨g28, 2, none⟩)), -⟩ := hf
      exact sg_plain rfl rfl (or_field fo33_1 f_41 (by rfl))
    refine steps_cons (fun own a wx hf hsl hE => ?_) ?_
    · obtain ⟨(f_42 : a.eval (.tmp 42) = .pointer (some ⟨g28, 3, none⟩)), -⟩ := hf
      exact sg_plain rfl rfl (or_load1 to3 f_42 (Blk.at_ (BlkO.evo (by decide) hE b37_g28).2 3 rfl))
    refine steps_cons (fun own a wx hf hsl hE => ?_) ?_
    · obtain ⟨(f_40 : a.eval (.tmp 40) = .int .i64 x1.2.2), (f_43 : a.eval (.tmp 43) = .int .i64 b2.2.2), -⟩ := hf
      exact sg_plain rfl rfl (or_min f_40 f_43)
    refine steps_cons (fun own a wx hf hsl hE => ?_) ?_
    · obtain ⟨(f_37 : a.eval (.tmp 37) = .int .i64 (mx x1.1.2 b2.1.2)), -⟩ := hf
      exact sg_plain rfl rfl (or_assign f_37)
    refine steps_cons (fun own a wx hf hsl hE => ?_) ?_
    · obtain ⟨(f_44 : a.eval (.tmp 44) = .int .i64 (mn x1.2.2 b2.2.2)), -⟩ := hf
      exact sg_plain rfl rfl (or_assign f_44)
    exact steps_nil
  intro own38 a38 w38 hd38 hz38 hk38 hf38 hE38
  have e38_5 : a38.eval (.tmp 5) = .int .i64 (mx x1.1.1 b2.1.1) := (hk38 5 rfl).trans e37_5
  have e38_6 : a38.eval (.tmp 6) = .int .i64 (mn x1.2.1 b2.2.1) := (hk38 6 rfl).trans e37_6
  obtain ⟨(f_7 : a38.eval (.tmp 7) = .int .i64 (mx x1.1.2 b2.1.2)), (f_8 : a38.eval (.tmp 8) = .int .i64 (mn x1.2.2 b2.2.2)), -⟩ := hf38 [14, 15] rfl
  have e38_7 := f_7
  have e38_8 := f_8
  have hX38 := Evo.step hX37 (fun _ => Nat.le_refl 0) hE38 rfl
  obtain ⟨x39, hx39, hs⟩ := obind hs
  refine rg_plain_seq (n := 53) (rs := []) (own0 := own38) (K := [])
      (bs := [0, 0, 3, 7, 15, 15, 63, 127, 255])
      (ds := [⟨[], [5], [], Fct.val 45 (.int .i64 (mx x1.1.1 b2.1.1))⟩,
      ⟨[], [6], [], Fct.val 46 (.int .i64 (mn x1.2.1 b2.2.1))⟩,
      ⟨[0, 1], [], [], Fct.val 47 (.bool (decide ((mx x1.1.1 b2.1.1) ≤ (mn x1.2.1 b2.2.1))))⟩,
      ⟨[2], [], [], Fct.val 48 (.bool (decide ((mx x1.1.1 b2.1.1) ≤ (mn x1.2.1 b2.2.1))))⟩,
      ⟨[3], [7], [], Fct.cond (decide ((mx x1.1.1 b2.1.1) ≤ (mn x1.2.1 b2.2.1))) (some 49) (Fct.val 49 (.int .i64 (mx x1.1.2 b2.1.2)))⟩,
      ⟨[3], [8], [], Fct.cond (decide ((mx x1.1.1 b2.1.1) ≤ (mn x1.2.1 b2.2.1))) (some 50) (Fct.val 50 (.int .i64 (mn x1.2.2 b2.2.2)))⟩,
      ⟨[3, 4, 5], [], [], Fct.cond (decide ((mx x1.1.1 b2.1.1) ≤ (mn x1.2.1 b2.2.1))) (some 51) (Fct.val 51 (.bool (decide ((mx x1.1.2 b2.1.2) ≤ (mn x1.2.2 b2.2.2)))))⟩,
      ⟨[3, 6], [], [], Fct.val 52 (.bool x39)⟩,
      ⟨[7], [], [], Fct.val 4 (.bool x39)⟩]) (by kernel_rfl) hz38 hd38 (fun _ h => nomatch h) ?_ ?_
  · refine steps_cons (fun own a wx hf hsl hE => ?_) ?_
    · obtain ⟨s_5, -⟩ := hsl
      exact sg_plain rfl rfl (or_move (s_5.trans e38_5))
    refine steps_cons (fun own a wx hf hsl hE => ?_) ?_
    · obtain ⟨s_6, -⟩ := hsl
      exact sg_plain rfl rfl (or_move (s_6.trans e38_6))
    refine steps_cons (fun own a wx hf hsl hE => ?_) ?_
    · obtain ⟨(f_45 : a.eval (.tmp 45) = .int .i64 (mx x1.1.1 b2.1.1)), (f_46 : a.eval (.tmp 46) = .int .i64 (mn x1.2.1 b2.2.1)), -⟩ := hf
      exact sg_plain rfl rfl (or_leq f_45 f_46 rfl)
    refine steps_cons (fun own a wx hf hsl hE => ?_) ?_
    · obtain ⟨(f_47 : a.eval (.tmp 47) = .bool (decide ((mx x1.1.1 b2.1.1) ≤ (mn x1.2.1 b2.2.1)))), -⟩ := hf
      exact sg_plain rfl rfl (or_move f_47)
    refine steps_cons (fun own a wx hf hsl hE => ?_) ?_
    · obtain ⟨(f_48 : a.eval (.tmp 48) = .bool (decide ((mx x1.1.1 b2.1.1) ≤ (mn x1.2.1 b2.2.1)))), -⟩ := hf
      obtain ⟨s_7, -⟩ := hsl
      refine sg_t rfl rfl rfl f_48 (fun hg => ?_)
      exact or_move (s_7.trans e38_7)
    refine steps_cons (fun own a wx hf hsl hE => ?_) ?_
    · obtain ⟨(f_48 : a.eval (.tmp 48) = .bool (decide ((mx x1.1.1 b2.1.1) ≤ (mn x1.2.1 b2.2.1)))), -⟩ := hf
      obtain ⟨s_8, -⟩ := hsl
      refine sg_t rfl rfl rfl f_48 (fun hg => ?_)
      exact or_move (s_8.trans e38_8)
    refine steps_cons (fun own a wx hf hsl hE => ?_) ?_
    · obtain ⟨(f_48 : a.eval (.tmp 48) = .bool (decide ((mx x1.1.1 b2.1.1) ≤ (mn x1.2.1 b2.2.1)))), c_49, c_50, -⟩ := hf
      refine sg_t rfl rfl rfl f_48 (fun hg => ?_)
      have f_49 : a.eval (.tmp 49) = .int .i64 (mx x1.1.2 b2.1.2) := c_49.1 hg
      have f_50 : a.eval (.tmp 50) = .int .i64 (mn x1.2.2 b2.2.2) := c_50.1 hg
      exact or_leq f_49 f_50 rfl
    refine steps_cons (fun own a wx hf hsl hE => ?_) ?_
    · obtain ⟨(f_48 : a.eval (.tmp 48) = .bool (decide ((mx x1.1.1 b2.1.1) ≤ (mn x1.2.1 b2.2.1)))), c_51, -⟩ := hf
      exact sg_plain rfl rfl (or_and f_48 (fun hx => c_51.1 hx) rfl (osome hx39).symm)
    refine steps_cons (fun own a wx hf hsl hE => ?_) ?_
    · obtain ⟨(f_52 : a.eval (.tmp 52) = .bool x39), -⟩ := hf
      exact sg_plain rfl rfl (or_assign f_52)
    exact steps_nil
  intro own40 a40 w40 hd40 hz40 hk40 hf40 hE40
  obtain ⟨(f_4 : a40.eval (.tmp 4) = .bool x39), -⟩ := hf40 [8] rfl
  have e40_4 := f_4
  have hX40 := Evo.step hX38 (fun _ => Nat.le_refl 0) hE40 rfl
  refine fl_ret ?_
  obtain rfl := (osome hs).symm
  exact hret _ _ _ _ (.inl rfl) hd40 (results1_ rfl (RVal.tmp_ e40_4)) ⟨own40, rfl, hX40⟩

theorem ref20_Of_w (w : World) (z1 : Int) (p2 : Int × Int) (r : (Int × Int × Int) × Bool) (hs : ref20_Of z1 p2 = some r) :
    Calls Try.prog 8 #[.int .i64 z1, .agg #[.int .i64 p2.1, .int .i64 p2.2]] w fun e w' => ∃ own' : Own, e = .returned (.tuple #[.agg #[.int .i64 r.1.1, .int .i64 r.1.2.1, .int .i64 r.1.2.2], .bool r.2]) ∧ Evo [] (fun _ => 0) own' w w' := by
  refine fl_enter (n := 37) rfl rfl rfl (Nat.le_of_ble_eq_true rfl) ?_
  intro a0 Q hd0 hz0 harg hret
  have ha0 := harg 0 _ rfl
  have ha1 := harg 1 _ rfl
  clear harg
  have hE0 : Evo [] (fun _ => 0) (fun _ => 0) w w := Evo.refl _ _ _
  refine rg_plain_seq (n := 37) (rs := []) (own0 := (fun _ => 0)) (K := [])
      (bs := [0, 0, 0])
      (ds := [⟨[], [1], [], Fct.blk 88 3 (fun g => .pointer (some ⟨g, 0, none⟩)) 33 #[.int .i64 p2.1, .int .i64 p2.2]⟩,
      ⟨[], [], [], Fct.blk 90 4 (fun g => .pointer (some ⟨g, 0, none⟩)) 30 #[.int .i64 0, .int .i64 0, .int .i64 0]⟩,
      ⟨[], [], [], Fct.val 5 (.bool false)⟩]) (by kernel_rfl) hz0 hd0 (fun _ h => nomatch h) ?_ ?_
  · refine steps_cons (fun own a wx hf hsl hE => ?_) ?_
    · obtain ⟨s_1, -⟩ := hsl
      exact sg_plain rfl rfl (or_new [(1, .agg #[.int .i64 p2.1, .int .i64 p2.2])] rfl rfl ⟨(s_1.trans ha1), trivial⟩ (by kernel_rfl))
    refine steps_cons (fun own a wx hf hsl hE => ?_) ?_
    · exact sg_plain rfl rfl (or_new [] rfl rfl trivial (by kernel_rfl))
    refine steps_cons (fun own a wx hf hsl hE => ?_) ?_
    · exact sg_plain rfl rfl (or_assign rfl)
    exact steps_nil
  intro own91 a91 w91 hd91 hz91 hk91 hf91 hE91
  have e91_0 : a91.eval (.tmp 0) = .int .i64 z1 := (hk91 0 rfl).trans ha0
  obtain ⟨⟨g87, (f_3 : a91.eval (.tmp 3) = .pointer (some ⟨g87, 0, none⟩)), (b_g87 : BlkO own91 88 w91 g87 33 #[.int .i64 p2.1, .int .i64 p2.2])⟩, ⟨g89, (f_4 : a91.eval (.tmp 4) = .pointer (some ⟨g89, 0, none⟩)), (b_g89 : BlkO own91 90 w91 g89 30 #[.int .i64 0, .int .i64 0, .int .i64 0])⟩, -⟩ := hf91 [0, 1] rfl
  have e91_3 := f_3
  have e91_4 := f_4
  have hX91 := Evo.step hE0 (fun _ => Nat.le_refl 0) hE91 rfl
  have b91_g87 := b_g87
  have b91_g89 := b_g89
  obtain ⟨r92, hr92, hs⟩ := obind hs
  refine rg_plain_seq (n := 37) (rs := []) (own0 := own91) (K := [])
      (bs := [0, 1, 3])
      (ds := [⟨[], [0], [], Fct.val 10 (.int .i64 z1)⟩,
      ⟨[0], [], [], Fct.row 94 [] 11 30 R30 r92⟩,
      ⟨[1], [], [], Fct.rel [6, 11] (fun l => ∀ (A93 : Option Addr) (cA93 : Nat), l.getD 1 undef = .slice A93 r92.length cA93 → l.getD 0 undef = .slice A93 r92.length cA93)⟩]) (by kernel_rfl) hz91 hd91 (fun _ h => nomatch h) ?_ ?_
  · refine steps_cons (fun own a wx hf hsl hE => ?_) ?_
    · obtain ⟨s_0, -⟩ := hsl
      exact sg_plain rfl rfl (or_move (s_0.trans e91_0))
    refine steps_cons (fun own a wx hf hsl hE => ?_) ?_
    · obtain ⟨(f_10 : a.eval (.tmp 10) = .int .i64 z1), -⟩ := hf
      exact sg_plain rfl rfl (or_call cf25 (args1 f_10) (ref20_All_w _ z1  r92 hr92) (post_row (m' := (look0 [(1, 94)])) (.inl (Rep.fl_flat _)) rfl rfl (fun _ => rfl)))
    refine steps_cons (fun own a wx hf hsl hE => ?_) ?_
    · obtain ⟨⟨⟨A93, cA93⟩, (f_11 : a.eval (.tmp 11) = .slice A93 r92.length cA93), (b_A93 : RwO own 94 [] wx 30 R30 A93 cA93 r92)⟩, -⟩ := hf
      exact sg_plain rfl rfl (or_mono (f := Fct.val 6 (.slice A93 r92.length cA93)) (or_assign f_11) (fun own' a' w' v' hp h => fun _ _ h0' => by cases (f_11.symm.trans ((hp.2 11 (by decide)).symm.trans h0')); exact h))
    exact steps_nil
  intro own95 a95 w95 hd95 hz95 hk95 hf95 hE95
  have e95_3 : a95.eval (.tmp 3) = .pointer (some ⟨g87, 0, none⟩) := (hk95 3 rfl).trans e91_3
  have e95_4 : a95.eval (.tmp 4) = .pointer (some ⟨g89, 0, none⟩) := (hk95 4 rfl).trans e91_4
  obtain ⟨⟨⟨A93, cA93⟩, (f_11 : a95.eval (.tmp 11) = .slice A93 r92.length cA93), (b_A93 : RwO own95 94 [] w95 30 R30 A93 cA93 r92)⟩, (q_6 : ∀ (A93 : Option Addr) (cA93 : Nat), a95.eval (.tmp 11) = .slice A93 r92.length cA93 → a95.eval (.tmp 6) = .slice A93 r92.length cA93), -⟩ := hf95 [1, 2] rfl
  have f_6 := q_6 _ _ f_11
  have e95_6 := f_6
  have hX95 := Evo.step hX91 (fun _ => Nat.le_refl 0) hE95 rfl
  have b95_g87 := BlkO.evo (by decide) hE95 b91_g87
  have b95_g89 := BlkO.evo (by decide) hE95 b91_g89
  have b95_A93 := b_A93
  refine fl_seq (fun Q96 hn96 hp96 => ?_)
  refine rg_plain_seq (n := 37) (rs := []) (own0 := own95) (K := [])
      (bs := [0, 1, 3, 7])
      (ds := [⟨[], [6], [], Fct.val 12 (.slice A93 r92.length cA93)⟩,
      ⟨[0], [], [], Fct.val 13 (.int .i64 (r92.length : Int))⟩,
      ⟨[1], [], [], Fct.val 14 (.int .i64 (sb (r92.length : Int) 1))⟩,
      ⟨[2], [], [], Fct.val 7 (.int .i64 (sb (r92.length : Int) 1))⟩]) (by kernel_rfl) hz95 hd95 (fun _ h => nomatch h) ?_ ?_
  · refine steps_cons (fun own a wx hf hsl hE => ?_) ?_
    · obtain ⟨s_6, -⟩ := hsl
      exact sg_plain rfl rfl (or_move (s_6.trans e95_6))
    refine steps_cons (fun own a wx hf hsl hE => ?_) ?_
    · obtain ⟨(f_12 : a.eval (.tmp 12) = .slice A93 r92.length cA93), -⟩ := hf
      exact sg_plain rfl rfl (or_len tu38 f_12 rfl)
    refine steps_cons (fun own a wx hf hsl hE => ?_) ?_
    · obtain ⟨(f_13 : a.eval (.tmp 13) = .int .i64 (r92.length : Int)), -⟩ := hf
      exact sg_plain rfl rfl (or_sub f_13 rfl rfl)
    refine steps_cons (fun own a wx hf hsl hE => ?_) ?_
    · obtain ⟨(f_14 : a.eval (.tmp 14) = .int .i64 (sb (r92.length : Int) 1)), -⟩ := hf
      exact sg_plain rfl rfl (or_assign f_14)
    exact steps_nil
  intro own97 a97 w97 hd97 hz97 hk97 hf97 hE97
  have e97_3 : a97.eval (.tmp 3) = .pointer (some ⟨g87, 0, none⟩) := (hk97 3 rfl).trans e95_3
  have e97_4 : a97.eval (.tmp 4) = .pointer (some ⟨g89, 0, none⟩) := (hk97 4 rfl).trans e95_4
  have e97_6 : a97.eval (.tmp 6) = .slice A93 r92.length cA93 := (hk97 6 rfl).trans e95_6
  obtain ⟨(f_7 : a97.eval (.tmp 7) = .int .i64 (sb (r92.length : Int) 1)), -⟩ := hf97 [3] rfl
  have e97_7 := f_7
  have hX97 := Evo.step hX95 (fun _ => Nat.le_refl 0) hE97 rfl
  have b97_g87 := BlkO.evo (by decide) hE97 b95_g87
  have b97_g89 := BlkO.evo (by decide) hE97 b95_g89
  have b97_A93 := RwO.evo rfl hE97 b95_A93
  refine fl_block (fun Q98 hn98 hx98 hp98 => ?_)
  refine fl_loop (body := (fun s => ref20_Of_b1 p2 r92 s)) (z := r) (show loopO _ _ = _ from hs) (fun (i119 : Int) a wx => ∃ (ox : Own), a.defers = [] ∧ a.tmps.size = 37 ∧ a.eval (.tmp 3) = .pointer (some ⟨g87, 0, none⟩) ∧ a.eval (.tmp 4) = .pointer (some ⟨g89, 0, none⟩) ∧ a.eval (.tmp 6) = .slice A93 r92.length cA93 ∧ a.eval (.tmp 7) = .int .i64 i119 ∧ Evo [] (fun _ => 0) ox w wx ∧ BlkO ox 88 wx g87 33 #[.int .i64 p2.1, .int .i64 p2.2] ∧ BlkO ox 90 wx g89 30 #[.int .i64 0, .int .i64 0, .int .i64 0] ∧ RwO ox 94 [] wx 30 R30 A93 cA93 r92) ?_ ?_
  · exact ⟨own97, hd97, hz97, e97_3, e97_4, e97_6, e97_7, hX97, b97_g87, b97_g89, b97_A93⟩
  · rintro i119 zz140 a140 w140 ⟨own140, hd141, hz141, e141_3, e141_4, e141_6, e141_7, hE141, b141_g87, b141_g89, b141_A93⟩ hs Q140 hn140 hp140 hz140
    have hs : ref20_Of_b1 p2 r92 i119 = some zz140 := hs
    refine fl_seq (fun Q142 hn142 hp142 => ?_)
    refine rg_plain_seq (n := 37) (rs := []) (own0 := own140) (K := [])
        (bs := [0, 1])
        (ds := [⟨[], [7], [], Fct.val 15 (.int .i64 i119)⟩,
        ⟨[0], [], [], Fct.val 16 (.bool (decide (0 ≤ i119)))⟩]) (by kernel_rfl) hz141 hd141 (fun _ h => nomatch h) ?_ ?_
    · refine steps_cons (fun own a wx hf hsl hE => ?_) ?_
      · obtain ⟨s_7, -⟩ := hsl
        exact sg_plain rfl rfl (or_move (s_7.trans e141_7))
      refine steps_cons (fun own a wx hf hsl hE => ?_) ?_
      · obtain ⟨(f_15 : a.eval (.tmp 15) = .int .i64 i119), -⟩ := hf
        exact sg_plain rfl rfl (or_geq f_15 rfl rfl)
      exact steps_nil
    intro own143 a143 w143 hd143 hz143 hk143 hf143 hE143
    have e143_3 : a143.eval (.tmp 3) = .pointer (some ⟨g87, 0, none⟩) := (hk143 3 rfl).trans e141_3
    have e143_4 : a143.eval (.tmp 4) = .pointer (some ⟨g89, 0, none⟩) := (hk143 4 rfl).trans e141_4
    have e143_6 : a143.eval (.tmp 6) = .slice A93 r92.length cA93 := (hk143 6 rfl).trans e141_6
    have e143_7 : a143.eval (.tmp 7) = .int .i64 i119 := (hk143 7 rfl).trans e141_7
    obtain ⟨(f_16 : a143.eval (.tmp 16) = .bool (decide (0 ≤ i119))), -⟩ := hf143 [1] rfl
    have e143_16 := f_16
    have hX143 := Evo.step hE141 (fun _ => Nat.le_refl 0) hE143 rfl
    have b143_g87 := BlkO.evo (by decide) hE143 b141_g87
    have b143_g89 := BlkO.evo (by decide) hE143 b141_g89
    have b143_A93 := RwO.evo rfl hE143 b141_A93
    refine fl_cond e143_16 hs (fun c144 hs => ?_) (fun c144 hs => ?_)
    · refine fl_skip ?_
      refine hn142 _ _ ?_
      refine fl_seq (fun Q145 hn145 hp145 => ?_)
      refine fl_block (fun Q146 hn146 hx146 hp146 => ?_)
      obtain ⟨x147, hx147, hs⟩ := obind hs
      obtain ⟨r148, hr148, hs⟩ := obind hs
      refine rg_plain_seq (n := 37) (rs := []) (own0 := own143) (K := [150])
          (bs := [0, 0, 3, 7, 15, 31, 63, 63, 0, 383, 1023])
          (ds := [⟨[], [6], [], Fct.val 20 (.slice A93 r92.length cA93)⟩,
          ⟨[], [7], [], Fct.val 21 (.int .i64 i119)⟩,
          ⟨[0, 1], [], [], Fct.val 22 (.pointer (some ((adr A93).add ((i119 : Int).toNat * R30.s))))⟩,
          ⟨[2], [], [], Fct.val 23 (.agg #[.int .i64 x147.1, .int .i64 x147.2.1, .int .i64 x147.2.2])⟩,
          ⟨[3], [], [], Fct.val 24 (.tuple #[.agg #[.int .i64 r148.1.1.1, .int .i64 r148.1.1.2, .int .i64 r148.1.2.1, .int .i64 r148.1.2.2], .bool r148.2])⟩,
          ⟨[4], [], [], Fct.val 19 (.tuple #[.agg #[.int .i64 r148.1.1.1, .int .i64 r148.1.1.2, .int .i64 r148.1.2.1, .int .i64 r148.1.2.2], .bool r148.2])⟩,
          ⟨[5], [], [], Fct.val 25 (.agg #[.int .i64 r148.1.1.1, .int .i64 r148.1.1.2, .int .i64 r148.1.2.1, .int .i64 r148.1.2.2])⟩,
          ⟨[5], [], [], Fct.val 26 (.bool r148.2)⟩,
          ⟨[], [], [], Fct.blk 150 8 (fun g => .pointer (some ⟨g, 0, none⟩)) 41 #[.int .i64 0, .int .i64 0, .int .i64 0, .int .i64 0]⟩,
          ⟨[8, 6], [], [150], Fct.blk 151 8 (fun g => .pointer (some ⟨g, 0, none⟩)) 41 #[.int .i64 r148.1.1.1, .int .i64 r148.1.1.2, .int .i64 r148.1.2.1, .int .i64 r148.1.2.2]⟩,
          ⟨[7], [], [], Fct.val 9 (.bool r148.2)⟩]) (by kernel_rfl) hz143 hd143 (fun _ h => nomatch h) ?_ ?_
      · refine steps_cons (fun own a wx hf hsl hE => ?_) ?_
        · obtain ⟨s_6, -⟩ := hsl
          exact sg_plain rfl rfl (or_move (s_6.trans e143_6))
        refine steps_cons (fun own a wx hf hsl hE => ?_) ?_
        · obtain ⟨s_7, -⟩ := hsl
          exact sg_plain rfl rfl (or_move (s_7.trans e143_7))
        refine steps_cons (fun own a wx hf hsl hE => ?_) ?_
        · obtain ⟨(f_20 : a.eval (.tmp 20) = .slice A93 r92.length cA93), (f_21 : a.eval (.tmp 21) = .int .i64 i119), -⟩ := hf
          exact sg_plain rfl rfl (or_index (R := R30) (l := r92) tl38 f_20 f_21 (RdO.some_ (RwO.rd b143_A93) hx147) hx147)
        refine steps_cons (fun own a wx hf hsl hE => ?_) ?_
        · obtain ⟨(f_22 : a.eval (.tmp 22) = .pointer (some ((adr A93).add ((i119 : Int).toNat * R30.s)))), -⟩ := hf
          exact sg_plain rfl rfl (or_load (l := E30.f x147) ta30 f_22 (RdO.cells (F := E30) (RwO.rd (RwO.evo rfl hE b143_A93)) hx147) rfl)
        refine steps_cons (fun own a wx hf hsl hE => ?_) ?_
        · obtain ⟨(f_23 : a.eval (.tmp 23) = .agg #[.int .i64 x147.1, .int .i64 x147.2.1, .int .i64 x147.2.2]), -⟩ := hf
          exact sg_plain rfl rfl (or_call cf19 (args2 f_23 rfl) (ref20_Window_w _ x147 0  r148 hr148) post_val)
        refine steps_cons (fun own a wx hf hsl hE => ?_) ?_
        · obtain ⟨(f_24 : a.eval (.tmp 24) = .tuple #[.agg #[.int .i64 r148.1.1.1, .int .i64 r148.1.1.2, .int .i64 r148.1.2.1, .int .i64 r148.1.2.2], .bool r148.2]), -⟩ := hf
          exact sg_plain rfl rfl (or_move f_24)
        refine steps_cons (fun own a wx hf hsl hE => ?_) ?_
        · obtain ⟨(f_19 : a.eval (.tmp 19) = .tuple #[.agg #[.int .i64 r148.1.1.1, .int .i64 r148.1.1.2, .int .i64 r148.1.2.1, .int .i64 r148.1.2.2], .bool r148.2]), -⟩ := hf
          exact sg_plain rfl rfl (or_k [(19, .tuple #[.agg #[.int .i64 r148.1.1.1, .int .i64 r148.1.1.2, .int .i64 r148.1.2.1, .int .i64 r148.1.2.2], .bool r148.2])] rfl rfl ⟨f_19, trivial⟩ (by kernel_rfl))
        refine steps_cons (fun own a wx hf hsl hE => ?_) ?_
        · obtain ⟨(f_19 : a.eval (.tmp 19) = .tuple #[.agg #[.int .i64 r148.1.1.1, .int .i64 r148.1.1.2, .int .i64 r148.1.2.1, .int .i64 r148.1.2.2], .bool r148.2]), -⟩ := hf
          exact sg_plain rfl rfl (or_k [(19, .tuple #[.agg #[.int .i64 r148.1.1.1, .int .i64 r148.1.1.2, .int .i64 r148.1.2.1, .int .i64 r148.1.2.2], .bool r148.2])] rfl rfl ⟨f_19, trivial⟩ (by kernel_rfl))
        refine steps_cons (fun own a wx hf hsl hE => ?_) ?_
        · exact sg_plain rfl rfl (or_new [] rfl rfl trivial (by kernel_rfl))
        refine steps_cons (fun own a wx hf hsl hE => ?_) ?_
        · obtain ⟨⟨g149, (f_8 : a.eval (.tmp 8) = .pointer (some ⟨g149, 0, none⟩)), (b_g149 : BlkO own 150 wx g149 41 #[.int .i64 0, .int .i64 0, .int .i64 0, .int .i64 0])⟩, (f_25 : a.eval (.tmp 25) = .agg #[.int .i64 r148.1.1.1, .int .i64 r148.1.1.2, .int .i64 r148.1.2.1, .int .i64 r148.1.2.2]), -⟩ := hf
          exact sg_plain rfl rfl (or_store (l := #[.int .i64 r148.1.1.1, .int .i64 r148.1.1.2, .int .i64 r148.1.2.1, .int .i64 r148.1.2.2]) (lab := 150) (lab2 := 151) ts41 f_8 f_25 b_g149 (by simp) (by kernel_rfl) (mem_of rfl) (by decide) (by kernel_rfl) (fun own' a' w' ha hb => ⟨_, (ha 8).trans f_8, hb⟩))
        refine steps_cons (fun own a wx hf hsl hE => ?_) ?_
        · obtain ⟨(f_26 : a.eval (.tmp 26) = .bool r148.2), -⟩ := hf
          exact sg_plain rfl rfl (or_assign f_26)
        exact steps_nil
      intro own152 a152 w152 hd152 hz152 hk152 hf152 hE152
      have e152_3 : a152.eval (.tmp 3) = .pointer (some ⟨g87, 0, none⟩) := (hk152 3 rfl).trans e143_3
      have e152_4 : a152.eval (.tmp 4) = .pointer (some ⟨g89, 0, none⟩) := (hk152 4 rfl).trans e143_4
      have e152_6 : a152.eval (.tmp 6) = .slice A93 r92.length cA93 := (hk152 6 rfl).trans e143_6
      have e152_7 : a152.eval (.tmp 7) = .int .i64 i119 := (hk152 7 rfl).trans e143_7
      obtain ⟨⟨g149, (f_8 : a152.eval (.tmp 8) = .pointer (some ⟨g149, 0, none⟩)), (b_g149 : BlkO own152 151 w152 g149 41 #[.int .i64 r148.1.1.1, .int .i64 r148.1.1.2, .int .i64 r148.1.2.1, .int .i64 r148.1.2.2])⟩, -⟩ := hf152 [9] rfl
      have e152_8 := f_8
      have hX152 := Evo.step hX143 (fun _ => Nat.le_refl 0) hE152 rfl
      have b152_g87 := BlkO.evo (by decide) hE152 b143_g87
      have b152_g89 := BlkO.evo (by decide) hE152 b143_g89
      have b152_A93 := RwO.evo rfl hE152 b143_A93
      have b152_g149 := b_g149
      obtain ⟨r153, hr153, hs⟩ := obind hs
      refine rg_plain_seq (n := 37) (rs := []) (own0 := own152) (K := [])
          (bs := [0, 0, 0, 6, 15])
          (ds := [⟨[], [8], [], Fct.val 27 (.agg #[.int .i64 r148.1.1.1, .int .i64 r148.1.1.2, .int .i64 r148.1.2.1, .int .i64 r148.1.2.2])⟩,
          ⟨[], [3], [], Fct.val 28 (.agg #[.int .i64 p2.1, .int .i64 p2.2])⟩,
          ⟨[], [3], [], Fct.val 29 (.agg #[.int .i64 p2.1, .int .i64 p2.2])⟩,
          ⟨[1, 2], [], [], Fct.val 30 (.agg #[.int .i64 p2.1, .int .i64 p2.2, .int .i64 p2.1, .int .i64 p2.2])⟩,
          ⟨[0, 3], [], [], Fct.val 31 (.bool r153)⟩]) (by kernel_rfl) hz152 hd152 (fun _ h => nomatch h) ?_ ?_
      · refine steps_cons (fun own a wx hf hsl hE => ?_) ?_
        · obtain ⟨s_8, -⟩ := hsl
          exact sg_plain rfl rfl (or_load (l := [.int .i64 r148.1.1.1, .int .i64 r148.1.1.2, .int .i64 r148.1.2.1, .int .i64 r148.1.2.2]) ta41 (s_8.trans e152_8) (Blk.cellsFrom (BlkO.evo (by decide) hE b152_g149).2 0 rfl) rfl)
        refine steps_cons (fun own a wx hf hsl hE => ?_) ?_
        · obtain ⟨s_3, -⟩ := hsl
          exact sg_plain rfl rfl (or_load (l := [.int .i64 p2.1, .int .i64 p2.2]) ta33 (s_3.trans e152_3) (Blk.cellsFrom (BlkO.evo (by decide) hE b152_g87).2 0 rfl) rfl)
        refine steps_cons (fun own a wx hf hsl hE => ?_) ?_
        · obtain ⟨s_3, -⟩ := hsl
          exact sg_plain rfl rfl (or_load (l := [.int .i64 p2.1, .int .i64 p2.2]) ta33 (s_3.trans e152_3) (Blk.cellsFrom (BlkO.evo (by decide) hE b152_g87).2 0 rfl) rfl)
        refine steps_cons (fun own a wx hf hsl hE => ?_) ?_
        · obtain ⟨(f_28 : a.eval (.tmp 28) = .agg #[.int .i64 p2.1, .int .i64 p2.2]), (f_29 : a.eval (.tmp 29) = .agg #[.int .i64 p2.1, .int .i64 p2.2]), -⟩ := hf
          exact sg_plain rfl rfl (or_k [(28, .agg #[.int .i64 p2.1, .int .i64 p2.2]), (29, .agg #[.int .i64 p2.1, .int .i64 p2.2])] rfl rfl ⟨f_28, f_29, trivial⟩ (by kernel_rfl))
        refine steps_cons (fun own a wx hf hsl hE => ?_) ?_
        · obtain ⟨(f_27 : a.eval (.tmp 27) = .agg #[.int .i64 r148.1.1.1, .int .i64 r148.1.1.2, .int .i64 r148.1.2.1, .int .i64 r148.1.2.2]), (f_30 : a.eval (.tmp 30) = .agg #[.int .i64 p2.1, .int .i64 p2.2, .int .i64 p2.1, .int .i64 p2.2]), -⟩ := hf
          exact sg_plain rfl rfl (or_call cf33 (args2 f_27 f_30) (ref06_Meet_w _ r148.1 (p2, p2)  r153 hr153) post_val)
        exact steps_nil
      intro own154 a154 w154 hd154 hz154 hk154 hf154 hE154
      have e154_3 : a154.eval (.tmp 3) = .pointer (some ⟨g87, 0, none⟩) := (hk154 3 rfl).trans e152_3
      have e154_4 : a154.eval (.tmp 4) = .pointer (some ⟨g89, 0, none⟩) := (hk154 4 rfl).trans e152_4
      have e154_6 : a154.eval (.tmp 6) = .slice A93 r92.length cA93 := (hk154 6 rfl).trans e152_6
      have e154_7 : a154.eval (.tmp 7) = .int .i64 i119 := (hk154 7 rfl).trans e152_7
      obtain ⟨(f_31 : a154.eval (.tmp 31) = .bool r153), -⟩ := hf154 [4] rfl
      have e154_31 := f_31
      have hX154 := Evo.step hX152 (fun _ => Nat.le_refl 0) hE154 rfl
      have b154_g87 := BlkO.evo (by decide) hE154 b152_g87
      have b154_g89 := BlkO.evo (by decide) hE154 b152_g89
      have b154_A93 := RwO.evo rfl hE154 b152_A93
      refine fl_cond e154_31 hs (fun c155 hs => ?_) (fun c155 hs => ?_)
      · obtain ⟨x157, hx157, hs⟩ := obind hs
        refine rg_plain_seq (n := 37) (rs := [Fct.at_ 90 g89 30 #[.int .i64 0, .int .i64 0, .int .i64 0]]) (own0 := own154) (K := [90])
            (bs := [0, 0, 3, 7, 15, 31])
            (ds := [⟨[], [6], [], Fct.val 32 (.slice A93 r92.length cA93)⟩,
            ⟨[], [7], [], Fct.val 33 (.int .i64 i119)⟩,
            ⟨[0, 1], [], [], Fct.val 34 (.pointer (some ((adr A93).add ((i119 : Int).toNat * R30.s))))⟩,
            ⟨[2], [], [], Fct.val 35 (.agg #[.int .i64 x157.1, .int .i64 x157.2.1, .int .i64 x157.2.2])⟩,
            ⟨[3, 6], [4], [90], Fct.at_ 158 g89 30 #[.int .i64 x157.1, .int .i64 x157.2.1, .int .i64 x157.2.2]⟩,
            ⟨[], [], [], Fct.val 5 (.bool true)⟩]) (by kernel_rfl) hz154 hd154 (by simp only [List.forall_mem_cons]; exact ⟨b154_g89, fun _ h => nomatch h⟩) ?_ ?_
        · refine steps_cons (fun own a wx hf hsl hE => ?_) ?_
          · obtain ⟨s_6, -⟩ := hsl
            exact sg_plain rfl rfl (or_move (s_6.trans e154_6))
          refine steps_cons (fun own a wx hf hsl hE => ?_) ?_
          · obtain ⟨s_7, -⟩ := hsl
            exact sg_plain rfl rfl (or_move (s_7.trans e154_7))
          refine steps_cons (fun own a wx hf hsl hE => ?_) ?_
          · obtain ⟨(f_32 : a.eval (.tmp 32) = .slice A93 r92.length cA93), (f_33 : a.eval (.tmp 33) = .int .i64 i119), -⟩ := hf
            exact sg_plain rfl rfl (or_index (R := R30) (l := r92) tl38 f_32 f_33 (RdO.some_ (RwO.rd b154_A93) hx157) hx157)
          refine steps_cons (fun own a wx hf hsl hE => ?_) ?_
          · obtain ⟨(f_34 : a.eval (.tmp 34) = .pointer (some ((adr A93).add ((i119 : Int).toNat * R30.s)))), -⟩ := hf
            exact sg_plain rfl rfl (or_load (l := E30.f x157) ta30 f_34 (RdO.cells (F := E30) (RwO.rd (RwO.evo rfl hE b154_A93)) hx157) rfl)
          refine steps_cons (fun own a wx hf hsl hE => ?_) ?_
          · obtain ⟨(f_35 : a.eval (.tmp 35) = .agg #[.int .i64 x157.1, .int .i64 x157.2.1, .int .i64 x157.2.2]), (b_g89 : BlkO own 90 wx g89 30 #[.int .i64 0, .int .i64 0, .int .i64 0]), -⟩ := hf
            obtain ⟨s_4, -⟩ := hsl
            exact sg_plain rfl rfl (or_store (l := #[.int .i64 x157.1, .int .i64 x157.2.1, .int .i64 x157.2.2]) (lab := 90) (lab2 := 158) ts30 (s_4.trans e154_4) f_35 b_g89 (by simp) (by kernel_rfl) (mem_of rfl) (by decide) (by kernel_rfl) (fun own' a' w' ha hb => hb))
          refine steps_cons (fun own a wx hf hsl hE => ?_) ?_
          · exact sg_plain rfl rfl (or_assign rfl)
          exact steps_nil
        intro own159 a159 w159 hd159 hz159 hk159 hf159 hE159
        have e159_4 : a159.eval (.tmp 4) = .pointer (some ⟨g89, 0, none⟩) := (hk159 4 rfl).trans e154_4
        obtain ⟨(f_5 : a159.eval (.tmp 5) = .bool true), (b_g89 : BlkO own159 158 w159 g89 30 #[.int .i64 x157.1, .int .i64 x157.2.1, .int .i64 x157.2.2]), -⟩ := hf159 [5, 4] rfl
        have e159_5 := f_5
        have hX159 := Evo.step hX154 (fun _ => Nat.le_refl 0) hE159 rfl
        have b159_g89 := b_g89
        refine fl_ret ?_
        refine hp146 _ _ _ rfl ?_
        refine hp145 _ _ _ rfl ?_
        replace hs := hz140 _ hs
        refine hp140 _ _ _ rfl ?_
        refine hp98 _ _ _ rfl ?_
        refine hp96 _ _ _ rfl ?_
        obtain rfl := osome hs
        exact hret _ _ _ _ (.inl rfl) hd159 (results2_ rfl (RVal.cell_ e159_4 (run_loadVarAgg (l := [.int .i64 x157.1, .int .i64 x157.2.1, .int .i64 x157.2.2]) ta30 (Blk.cellsFrom b159_g89.2 0 rfl) rfl)) (RVal.tmp_ e159_5)) ⟨own159, rfl, hX159⟩
      refine fl_skip ?_
      refine hn146 _ _ ?_
      refine hn145 _ _ ?_
      refine rg_plain (n := 37) (rs := []) (own0 := own154) (K := [])
          (bs := [0, 1, 3])
          (ds := [⟨[], [7], [], Fct.val 17 (.int .i64 i119)⟩,
          ⟨[0], [], [], Fct.val 18 (.int .i64 (sb i119 1))⟩,
          ⟨[1], [], [], Fct.val 7 (.int .i64 (sb i119 1))⟩]) (by kernel_rfl) hz154 hd154 (fun _ h => nomatch h) ?_ ?_
      · refine steps_cons (fun own a wx hf hsl hE => ?_) ?_
        · obtain ⟨s_7, -⟩ := hsl
          exact sg_plain rfl rfl (or_move (s_7.trans e154_7))
        refine steps_cons (fun own a wx hf hsl hE => ?_) ?_
        · obtain ⟨(f_17 : a.eval (.tmp 17) = .int .i64 i119), -⟩ := hf
          exact sg_plain rfl rfl (or_sub f_17 rfl rfl)
        refine steps_cons (fun own a wx hf hsl hE => ?_) ?_
        · obtain ⟨(f_18 : a.eval (.tmp 18) = .int .i64 (sb i119 1)), -⟩ := hf
          exact sg_plain rfl rfl (or_assign f_18)
        exact steps_nil
      intro own160 a160 w160 hd160 hz160 hk160 hf160 hE160
      have e160_3 : a160.eval (.tmp 3) = .pointer (some ⟨g87, 0, none⟩) := (hk160 3 rfl).trans e154_3
      have e160_4 : a160.eval (.tmp 4) = .pointer (some ⟨g89, 0, none⟩) := (hk160 4 rfl).trans e154_4
      have e160_6 : a160.eval (.tmp 6) = .slice A93 r92.length cA93 := (hk160 6 rfl).trans e154_6
      obtain ⟨(f_7 : a160.eval (.tmp 7) = .int .i64 (sb i119 1)), -⟩ := hf160 [2] rfl
      have e160_7 := f_7
      have hX160 := Evo.step hX154 (fun _ => Nat.le_refl 0) hE160 rfl
      have b160_g87 := BlkO.evo (by decide) hE160 b154_g87
      have b160_g89 := BlkO.evo (by decide) hE160 b154_g89
      have b160_A93 := RwO.evo rfl hE160 b154_A93
      exact hn140 _ _ _ hs ⟨own160, hd160, hz160, e160_3, e160_4, e160_6, e160_7, hX160, b160_g87, b160_g89, b160_A93⟩
    refine fl_exit ?_
    refine hp142 _ _ _ rfl ?_
    replace hs := hz140 _ hs
    refine hp140 _ _ _ rfl ?_
    refine hx98 _ _ ?_
    refine hn96 _ _ ?_
    refine rg_plain_seq (n := 37) (rs := [Fct.at_ 90 g89 30 #[.int .i64 0, .int .i64 0, .int .i64 0]]) (own0 := own143) (K := [90])
        (bs := [0, 1, 3])
        (ds := [⟨[], [], [], Fct.val 36 (.agg #[.int .i64 0, .int .i64 0, .int .i64 0])⟩,
        ⟨[0, 3], [4], [90], Fct.at_ 161 g89 30 #[.int .i64 0, .int .i64 0, .int .i64 0]⟩,
        ⟨[], [], [], Fct.val 5 (.bool false)⟩]) (by kernel_rfl) hz143 hd143 (by simp only [List.forall_mem_cons]; exact ⟨b143_g89, fun _ h => nomatch h⟩) ?_ ?_
    · refine steps_cons (fun own a wx hf hsl hE => ?_) ?_
      · exact sg_plain rfl rfl (or_k [] rfl rfl trivial (by kernel_rfl))
      refine steps_cons (fun own a wx hf hsl hE => ?_) ?_
      · obtain ⟨(f_36 : a.eval (.tmp 36) = .agg #[.int .i64 0, .int .i64 0, .int .i64 0]), (b_g89 : BlkO own 90 wx g89 30 #[.int .i64 0, .int .i64 0, .int .i64 0]), -⟩ := hf
        obtain ⟨s_4, -⟩ := hsl
        exact sg_plain rfl rfl (or_store (l := #[.int .i64 0, .int .i64 0, .int .i64 0]) (lab := 90) (lab2 := 161) ts30 (s_4.trans e143_4) f_36 b_g89 (by simp) (by kernel_rfl) (mem_of rfl) (by decide) (by kernel_rfl) (fun own' a' w' ha hb => hb))
      refine steps_cons (fun own a wx hf hsl hE => ?_) ?_
      · exact sg_plain rfl rfl (or_assign rfl)
      exact steps_nil
    intro own162 a162 w162 hd162 hz162 hk162 hf162 hE162
    have e162_4 : a162.eval (.tmp 4) = .pointer (some ⟨g89, 0, none⟩) := (hk162 4 rfl).trans e143_4
    obtain ⟨(f_5 : a162.eval (.tmp 5) = .bool false), (b_g89 : BlkO own162 161 w162 g89 30 #[.int .i64 0, .int .i64 0, .int .i64 0]), -⟩ := hf162 [2, 1] rfl
    have e162_5 := f_5
    have hX162 := Evo.step hX143 (fun _ => Nat.le_refl 0) hE162 rfl
    have b162_g89 := b_g89
    refine fl_ret ?_
    obtain rfl := osome hs
    exact hret _ _ _ _ (.inl rfl) hd162 (results2_ rfl (RVal.cell_ e162_4 (run_loadVarAgg (l := [.int .i64 0, .int .i64 0, .int .i64 0]) ta30 (Blk.cellsFrom b162_g89.2 0 rfl) rfl)) (RVal.tmp_ e162_5)) ⟨own162, rfl, hX162⟩

set_option maxHeartbeats 2000000 in
theorem ref20_Shown_w (w : World) (z1 : Int) (b2 : Int) (box3 : (Int × Int) × (Int × Int)) (r : List (Int × Int × Int)) (hs : ref20_Shown z1 b2 box3 = some r) :
    Calls Try.prog 12 #[.int .i64 z1, .int .i64 b2, .agg #[.int .i64 box3.1.1, .int .i64 box3.1.2, .int .i64 box3.2.1, .int .i64 box3.2.2]] w fun e w' => ∃ (own' : Own) (x : Option Addr × Nat), e = .returned (.slice x.1 r.length x.2) ∧ Evo [] (fun _ => 0) own' w w' ∧ RwO own' 1 [] w' 30 R30 x.1 x.2 r := by
  refine fl_enter (n := 82) rfl rfl rfl (Nat.le_of_ble_eq_true rfl) ?_
  intro a0 Q hd0 hz0 harg hret
  have ha0 := harg 0 _ rfl
  have ha1 := harg 1 _ rfl
  have ha2 := harg 2 _ rfl
  clear harg
  have hE0 : Evo [] (fun _ => 0) (fun _ => 0) w w := Evo.refl _ _ _
  refine rg_plain_seq (n := 82) (rs := []) (own0 := (fun _ => 0)) (K := [])
      (bs := [0, 0])
      (ds := [⟨[], [2], [], Fct.blk 340 5 (fun g => .pointer (some ⟨g, 0, none⟩)) 41 #[.int .i64 box3.1.1, .int .i64 box3.1.2, .int .i64 box3.2.1, .int .i64 box3.2.2]⟩,
      ⟨[], [], [], Fct.val 6 (.slice none 0 0)⟩]) (by kernel_rfl) hz0 hd0 (fun _ h => nomatch h) ?_ ?_
  · refine steps_cons (fun own a wx hf hsl hE => ?_) ?_
    · obtain ⟨s_2, -⟩ := hsl
      exact sg_plain rfl rfl (or_new [(2, .agg #[.int .i64 box3.1.1, .int .i64 box3.1.2, .int .i64 box3.2.1, .int .i64 box3.2.2])] rfl rfl ⟨(s_2.trans ha2), trivial⟩ (by kernel_rfl))
    refine steps_cons (fun own a wx hf hsl hE => ?_) ?_
    · exact sg_plain rfl rfl (or_assign rfl)
    exact steps_nil
  intro own341 a341 w341 hd341 hz341 hk341 hf341 hE341
  have e341_0 : a341.eval (.tmp 0) = .int .i64 z1 := (hk341 0 rfl).trans ha0
  have e341_1 : a341.eval (.tmp 1) = .int .i64 b2 := (hk341 1 rfl).trans ha1
  obtain ⟨⟨g339, (f_5 : a341.eval (.tmp 5) = .pointer (some ⟨g339, 0, none⟩)), (b_g339 : BlkO own341 340 w341 g339 41 #[.int .i64 box3.1.1, .int .i64 box3.1.2, .int .i64 box3.2.1, .int .i64 box3.2.2])⟩, -⟩ := hf341 [0] rfl
  have e341_5 := f_5
  have hX341 := Evo.step hE0 (fun _ => Nat.le_refl 0) hE341 rfl
  have b341_g339 := b_g339
  refine fl_seq (fun Q342 hn342 hp342 => ?_)
  obtain ⟨x343, hx343, hs⟩ := obind hs
  obtain ⟨r344, hr344, hs⟩ := obind hs
  refine rg_plain_seq (n := 82) (rs := []) (own0 := own341) (K := [])
      (bs := [0, 1, 3, 7, 15, 31, 63, 127, 255, 511, 1023])
      (ds := [⟨[], [1], [], Fct.val 12 (.int .i64 b2)⟩,
      ⟨[0], [], [], Fct.val 13 (.bool (decide (b2 < 0)))⟩,
      ⟨[1], [], [], Fct.val 14 (.bool (decide (b2 < 0)))⟩,
      ⟨[2], [1], [], Fct.cond (!(decide (b2 < 0))) (some 15) (Fct.val 15 (.int .i64 b2))⟩,
      ⟨[2, 3], [], [], Fct.cond (!(decide (b2 < 0))) (some 16) (Fct.val 16 (.bool (decide (2047 < b2))))⟩,
      ⟨[2, 4], [], [], Fct.val 17 (.bool x343)⟩,
      ⟨[5], [], [], Fct.val 18 (.bool x343)⟩,
      ⟨[6], [5], [], Fct.cond (!x343) (some 19) (Fct.val 19 (.agg #[.int .i64 box3.1.1, .int .i64 box3.1.2, .int .i64 box3.2.1, .int .i64 box3.2.2]))⟩,
      ⟨[6, 7], [], [], Fct.cond (!x343) (some 20) (Fct.val 20 (.bool r344))⟩,
      ⟨[6, 8], [], [], Fct.cond (!x343) (some 21) (Fct.val 21 (.bool (!r344)))⟩,
      ⟨[6, 9], [], [], Fct.val 22 (.bool (x343 || (!r344)))⟩]) (by kernel_rfl) hz341 hd341 (fun _ h => nomatch h) ?_ ?_
  · refine steps_cons (fun own a wx hf hsl hE => ?_) ?_
    · obtain ⟨s_1, -⟩ := hsl
      exact sg_plain rfl rfl (or_move (s_1.trans e341_1))
    refine steps_cons (fun own a wx hf hsl hE => ?_) ?_
    · obtain ⟨(f_12 : a.eval (.tmp 12) = .int .i64 b2), -⟩ := hf
      exact sg_plain rfl rfl (or_lss f_12 rfl rfl)
    refine steps_cons (fun own a wx hf hsl hE => ?_) ?_
    · obtain ⟨(f_13 : a.eval (.tmp 13) = .bool (decide (b2 < 0))), -⟩ := hf
      exact sg_plain rfl rfl (or_move f_13)
    refine steps_cons (fun own a wx hf hsl hE => ?_) ?_
    · obtain ⟨(f_14 : a.eval (.tmp 14) = .bool (decide (b2 < 0))), -⟩ := hf
      obtain ⟨s_1, -⟩ := hsl
      refine sg_f rfl rfl rfl f_14 (fun hg => ?_)
      exact or_move (s_1.trans e341_1)
    refine steps_cons (fun own a wx hf hsl hE => ?_) ?_
    · obtain ⟨(f_14 : a.eval (.tmp 14) = .bool (decide (b2 < 0))), c_15, -⟩ := hf
      refine sg_f rfl rfl rfl f_14 (fun hg => ?_)
      have f_15 : a.eval (.tmp 15) = .int .i64 b2 := c_15.1 hg
      exact or_gtr f_15 rfl rfl
    refine steps_cons (fun own a wx hf hsl hE => ?_) ?_
    · obtain ⟨(f_14 : a.eval (.tmp 14) = .bool (decide (b2 < 0))), c_16, -⟩ := hf
      exact sg_plain rfl rfl (or_or f_14 rfl (fun hx => c_16.1 hx) (osome hx343).symm)
    refine steps_cons (fun own a wx hf hsl hE => ?_) ?_
    · obtain ⟨(f_17 : a.eval (.tmp 17) = .bool x343), -⟩ := hf
      exact sg_plain rfl rfl (or_move f_17)
    refine steps_cons (fun own a wx hf hsl hE => ?_) ?_
    · obtain ⟨(f_18 : a.eval (.tmp 18) = .bool x343), -⟩ := hf
      obtain ⟨s_5, -⟩ := hsl
      refine sg_f rfl rfl rfl f_18 (fun hg => ?_)
      exact or_load (l := [.int .i64 box3.1.1, .int .i64 box3.1.2, .int .i64 box3.2.1, .int .i64 box3.2.2]) ta41 (s_5.trans e341_5) (Blk.cellsFrom (BlkO.evo (by decide) hE b341_g339).2 0 rfl) rfl
    refine steps_cons (fun own a wx hf hsl hE => ?_) ?_
    · obtain ⟨(f_18 : a.eval (.tmp 18) = .bool x343), c_19, -⟩ := hf
      refine sg_f rfl rfl rfl f_18 (fun hg => ?_)
      have f_19 : a.eval (.tmp 19) = .agg #[.int .i64 box3.1.1, .int .i64 box3.1.2, .int .i64 box3.2.1, .int .i64 box3.2.2] := c_19.1 hg
      exact or_call cf37 (args1 f_19) (ref06_Right_w _ box3  r344 (gd_t hr344 hg)) post_val
    refine steps_cons (fun own a wx hf hsl hE => ?_) ?_
    · obtain ⟨(f_18 : a.eval (.tmp 18) = .bool x343), c_20, -⟩ := hf
      refine sg_f rfl rfl rfl f_18 (fun hg => ?_)
      have f_20 : a.eval (.tmp 20) = .bool r344 := c_20.1 hg
      exact or_not f_20 rfl
    refine steps_cons (fun own a wx hf hsl hE => ?_) ?_
    · obtain ⟨(f_18 : a.eval (.tmp 18) = .bool x343), c_21, -⟩ := hf
      exact sg_plain rfl rfl (or_or f_18 rfl (fun hx => c_21.1 hx) rfl)
    exact steps_nil
  intro own345 a345 w345 hd345 hz345 hk345 hf345 hE345
  have e345_0 : a345.eval (.tmp 0) = .int .i64 z1 := (hk345 0 rfl).trans e341_0
  have e345_1 : a345.eval (.tmp 1) = .int .i64 b2 := (hk345 1 rfl).trans e341_1
  have e345_5 : a345.eval (.tmp 5) = .pointer (some ⟨g339, 0, none⟩) := (hk345 5 rfl).trans e341_5
  obtain ⟨(f_22 : a345.eval (.tmp 22) = .bool (x343 || (!r344))), -⟩ := hf345 [10] rfl
  have e345_22 := f_22
  have hX345 := Evo.step hX341 (fun _ => Nat.le_refl 0) hE345 rfl
  have b345_g339 := BlkO.evo (by decide) hE345 b341_g339
  refine fl_cond e345_22 hs (fun c346 hs => ?_) (fun c346 hs => ?_)
  · refine rg_plain_seq (n := 82) (rs := []) (own0 := own345) (K := [])
        (bs := [0])
        (ds := [⟨[], [], [], Fct.val 6 (.slice none 0 0)⟩]) (by kernel_rfl) hz345 hd345 (fun _ h => nomatch h) ?_ ?_
    · refine steps_cons (fun own a wx hf hsl hE => ?_) ?_
      · exact sg_plain rfl rfl (or_assign rfl)
      exact steps_nil
    intro own347 a347 w347 hd347 hz347 hk347 hf347 hE347
    obtain ⟨(f_6 : a347.eval (.tmp 6) = .slice none 0 0), -⟩ := hf347 [0] rfl
    have e347_6 := f_6
    have hX347 := Evo.step hX345 (fun _ => Nat.le_refl 0) hE347 rfl
    refine fl_ret ?_
    refine hp342 _ _ _ rfl ?_
    obtain rfl := osome hs
    exact hret _ _ _ _ (.inl rfl) hd347 (results1_ rfl (RVal.tmp_ e347_6)) ⟨own347, (none, 0), rfl, hX347, RwO.nil_⟩
  refine fl_skip ?_
  refine hn342 _ _ ?_
  refine rg_plain_seq (n := 82) (rs := []) (own0 := own345) (K := [])
      (bs := [0])
      (ds := [⟨[], [], [], Fct.val 7 (.slice none 0 0)⟩]) (by kernel_rfl) hz345 hd345 (fun _ h => nomatch h) ?_ ?_
  · refine steps_cons (fun own a wx hf hsl hE => ?_) ?_
    · exact sg_plain rfl rfl (or_assign rfl)
    exact steps_nil
  intro own348 a348 w348 hd348 hz348 hk348 hf348 hE348
  have e348_0 : a348.eval (.tmp 0) = .int .i64 z1 := (hk348 0 rfl).trans e345_0
  have e348_1 : a348.eval (.tmp 1) = .int .i64 b2 := (hk348 1 rfl).trans e345_1
  have e348_5 : a348.eval (.tmp 5) = .pointer (some ⟨g339, 0, none⟩) := (hk348 5 rfl).trans e345_5
  obtain ⟨(f_7 : a348.eval (.tmp 7) = .slice none 0 0), -⟩ := hf348 [0] rfl
  have e348_7 := f_7
  have hX348 := Evo.step hX345 (fun _ => Nat.le_refl 0) hE348 rfl
  have b348_g339 := BlkO.evo (by decide) hE348 b345_g339
  obtain ⟨r349, hr349, hs⟩ := obind hs
  refine rg_plain_seq (n := 82) (rs := []) (own0 := own348) (K := [])
      (bs := [0, 1, 3])
      (ds := [⟨[], [0], [], Fct.val 23 (.int .i64 z1)⟩,
      ⟨[0], [], [], Fct.row 351 [] 24 30 R30 r349⟩,
      ⟨[1], [], [], Fct.rel [8, 24] (fun l => ∀ (A350 : Option Addr) (cA350 : Nat), l.getD 1 undef = .slice A350 r349.length cA350 → l.getD 0 undef = .slice A350 r349.length cA350)⟩]) (by kernel_rfl) hz348 hd348 (fun _ h => nomatch h) ?_ ?_
  · refine steps_cons (fun own a wx hf hsl hE => ?_) ?_
    · obtain ⟨s_0, -⟩ := hsl
      exact sg_plain rfl rfl (or_move (s_0.trans e348_0))
    refine steps_cons (fun own a wx hf hsl hE => ?_) ?_
    · obtain ⟨(f_23 : a.eval (.tmp 23) = .int .i64 z1), -⟩ := hf
      exact sg_plain rfl rfl (or_call cf25 (args1 f_23) (ref20_All_w _ z1  r349 hr349) (post_row (m' := (look0 [(1, 351)])) (.inl (Rep.fl_flat _)) rfl rfl (fun _ => rfl)))
    refine steps_cons (fun own a wx hf hsl hE => ?_) ?_
    · obtain ⟨⟨⟨A350, cA350⟩, (f_24 : a.eval (.tmp 24) = .slice A350 r349.length cA350), (b_A350 : RwO own 351 [] wx 30 R30 A350 cA350 r349)⟩, -⟩ := hf
      exact sg_plain rfl rfl (or_mono (f := Fct.val 8 (.slice A350 r349.length cA350)) (or_assign f_24) (fun own' a' w' v' hp h => fun _ _ h0' => by cases (f_24.symm.trans ((hp.2 24 (by decide)).symm.trans h0')); exact h))
    exact steps_nil
  intro own352 a352 w352 hd352 hz352 hk352 hf352 hE352
  have e352_1 : a352.eval (.tmp 1) = .int .i64 b2 := (hk352 1 rfl).trans e348_1
  have e352_5 : a352.eval (.tmp 5) = .pointer (some ⟨g339, 0, none⟩) := (hk352 5 rfl).trans e348_5
  have e352_7 : a352.eval (.tmp 7) = .slice none 0 0 := (hk352 7 rfl).trans e348_7
  obtain ⟨⟨⟨A350, cA350⟩, (f_24 : a352.eval (.tmp 24) = .slice A350 r349.length cA350), (b_A350 : RwO own352 351 [] w352 30 R30 A350 cA350 r349)⟩, (q_8 : ∀ (A350 : Option Addr) (cA350 : Nat), a352.eval (.tmp 24) = .slice A350 r349.length cA350 → a352.eval (.tmp 8) = .slice A350 r349.length cA350), -⟩ := hf352 [1, 2] rfl
  have f_8 := q_8 _ _ f_24
  have e352_8 := f_8
  have hX352 := Evo.step hX348 (fun _ => Nat.le_refl 0) hE352 rfl
  have b352_g339 := BlkO.evo (by decide) hE352 b348_g339
  have b352_A350 := b_A350
  refine fl_seq (fun Q353 hn353 hp353 => ?_)
  refine rg_plain_seq (n := 82) (rs := []) (own0 := own352) (K := [])
      (bs := [0])
      (ds := [⟨[], [], [], Fct.val 9 (.int .i64 0)⟩]) (by kernel_rfl) hz352 hd352 (fun _ h => nomatch h) ?_ ?_
  · refine steps_cons (fun own a wx hf hsl hE => ?_) ?_
    · exact sg_plain rfl rfl (or_assign rfl)
    exact steps_nil
  intro own354 a354 w354 hd354 hz354 hk354 hf354 hE354
  have e354_1 : a354.eval (.tmp 1) = .int .i64 b2 := (hk354 1 rfl).trans e352_1
  have e354_5 : a354.eval (.tmp 5) = .pointer (some ⟨g339, 0, none⟩) := (hk354 5 rfl).trans e352_5
  have e354_7 : a354.eval (.tmp 7) = .slice none 0 0 := (hk354 7 rfl).trans e352_7
  have e354_8 : a354.eval (.tmp 8) = .slice A350 r349.length cA350 := (hk354 8 rfl).trans e352_8
  obtain ⟨(f_9 : a354.eval (.tmp 9) = .int .i64 0), -⟩ := hf354 [0] rfl
  have e354_9 := f_9
  have hX354 := Evo.step hX352 (fun _ => Nat.le_refl 0) hE354 rfl
  have b354_g339 := BlkO.evo (by decide) hE354 b352_g339
  have b354_A350 := RwO.evo rfl hE354 b352_A350
  refine fl_block (fun Q355 hn355 hx355 hp355 => ?_)
  refine fl_loop (body := (fun s => ref20_Shown_b1 b2 box3 r349 s.1 s.2)) (z := r) (show loopO _ _ = _ from hs) (fun (s : (List (Int × Int × Int)) × Int) a wx => match s with | (out454, i456) => ∃ (ox : Own) (A452 : Option Addr) (c453 : Nat), a.defers = [] ∧ a.tmps.size = 82 ∧ a.eval (.tmp 1) = .int .i64 b2 ∧ a.eval (.tmp 5) = .pointer (some ⟨g339, 0, none⟩) ∧ a.eval (.tmp 7) = .slice A452 out454.length c453 ∧ a.eval (.tmp 8) = .slice A350 r349.length cA350 ∧ a.eval (.tmp 9) = .int .i64 i456 ∧ Evo [] (fun _ => 0) ox w wx ∧ BlkO ox 340 wx g339 41 #[.int .i64 box3.1.1, .int .i64 box3.1.2, .int .i64 box3.2.1, .int .i64 box3.2.2] ∧ RwO ox 455 [] wx 30 R30 A452 c453 out454 ∧ RwO ox 351 [] wx 30 R30 A350 cA350 r349) ?_ ?_
  · exact ⟨own354, none, 0, hd354, hz354, e354_1, e354_5, e354_7, e354_8, e354_9, hX354, b354_g339, RwO.nil_, b354_A350⟩
  · rintro ⟨out454, i456⟩ zz561 a561 w561 ⟨own561, A452, c453, hd562, hz562, e562_1, e562_5, e562_7, e562_8, e562_9, hE562, b562_g339, b562_A452, b562_A350⟩ hs Q561 hn561 hp561 hz561
    have hs : ref20_Shown_b1 b2 box3 r349 out454 i456 = some zz561 := hs
    refine fl_seq (fun Q563 hn563 hp563 => ?_)
    refine rg_plain_seq (n := 82) (rs := []) (own0 := own561) (K := [])
        (bs := [0, 0, 2, 7])
        (ds := [⟨[], [9], [], Fct.val 25 (.int .i64 i456)⟩,
        ⟨[], [8], [], Fct.val 26 (.slice A350 r349.length cA350)⟩,
        ⟨[1], [], [], Fct.val 27 (.int .i64 (r349.length : Int))⟩,
        ⟨[0, 2], [], [], Fct.val 28 (.bool (decide (i456 < (r349.length : Int))))⟩]) (by kernel_rfl) hz562 hd562 (fun _ h => nomatch h) ?_ ?_
    · refine steps_cons (fun own a wx hf hsl hE => ?_) ?_
      · obtain ⟨s_9, -⟩ := hsl
        exact sg_plain rfl rfl (or_move (s_9.trans e562_9))
      refine steps_cons (fun own a wx hf hsl hE => ?_) ?_
      · obtain ⟨s_8, -⟩ := hsl
        exact sg_plain rfl rfl (or_move (s_8.trans e562_8))
      refine steps_cons (fun own a wx hf hsl hE => ?_) ?_
      · obtain ⟨(f_26 : a.eval (.tmp 26) = .slice A350 r349.length cA350), -⟩ := hf
        exact sg_plain rfl rfl (or_len tu38 f_26 rfl)
      refine steps_cons (fun own a wx hf hsl hE => ?_) ?_
      · obtain ⟨(f_25 : a.eval (.tmp 25) = .int .i64 i456), (f_27 : a.eval (.tmp 27) = .int .i64 (r349.length : Int)), -⟩ := hf
        exact sg_plain rfl rfl (or_lss f_25 f_27 rfl)
      exact steps_nil
    intro own564 a564 w564 hd564 hz564 hk564 hf564 hE564
    have e564_1 : a564.eval (.tmp 1) = .int .i64 b2 := (hk564 1 rfl).trans e562_1
    have e564_5 : a564.eval (.tmp 5) = .pointer (some ⟨g339, 0, none⟩) := (hk564 5 rfl).trans e562_5
    have e564_7 : a564.eval (.tmp 7) = .slice A452 out454.length c453 := (hk564 7 rfl).trans e562_7
    have e564_8 : a564.eval (.tmp 8) = .slice A350 r349.length cA350 := (hk564 8 rfl).trans e562_8
    have e564_9 : a564.eval (.tmp 9) = .int .i64 i456 := (hk564 9 rfl).trans e562_9
    obtain ⟨(f_28 : a564.eval (.tmp 28) = .bool (decide (i456 < (r349.length : Int)))), -⟩ := hf564 [3] rfl
    have e564_28 := f_28
    have hX564 := Evo.step hE562 (fun _ => Nat.le_refl 0) hE564 rfl
    have b564_g339 := BlkO.evo (by decide) hE564 b562_g339
    have b564_A452 := RwO.evo rfl hE564 b562_A452
    have b564_A350 := RwO.evo rfl hE564 b562_A350
    refine fl_cond e564_28 hs (fun c565 hs => ?_) (fun c565 hs => ?_)
    · refine fl_skip ?_
      refine hn563 _ _ ?_
      refine fl_seq (fun Q566 hn566 hp566 => ?_)
      refine fl_block (fun Q616 hn616 hx616 hp616 => ?_)
      have K642 : ∀ (a642 : Act) (w642 : World) (own642 : Own) (out640 : List (Int × Int × Int)) (A638 : Option Addr) (c639 : Nat), a642.defers = [] → a642.tmps.size = 82 → a642.eval (.tmp 1) = .int .i64 b2 → a642.eval (.tmp 5) = .pointer (some ⟨g339, 0, none⟩) → a642.eval (.tmp 7) = .slice A638 out640.length c639 → a642.eval (.tmp 8) = .slice A350 r349.length cA350 → a642.eval (.tmp 9) = .int .i64 i456 → Evo [] (fun _ => 0) own642 w w642 → BlkO own642 340 w642 g339 41 #[.int .i64 box3.1.1, .int .i64 box3.1.2, .int .i64 box3.2.1, .int .i64 box3.2.2] → RwO own642 641 [] w642 30 R30 A638 c639 out640 → RwO own642 351 [] w642 30 R30 A350 cA350 r349 → ref20_Shown_k2 i456 out640 = some zz561 → (Q616 .normal a642 w642 ∧ Q616 (.exit 1) a642 w642) := by
        intro a642 w642 own642 out640 A638 c639 hd643 hz643 e643_1 e643_5 e643_7 e643_8 e643_9 hE643 b643_g339 b643_A638 b643_A350 hs
        refine and_both (hn616 _ _) (hx616 _ _) ?_
        refine hn566 _ _ ?_
        refine rg_plain (n := 82) (rs := []) (own0 := own642) (K := [])
            (bs := [0, 1, 3])
            (ds := [⟨[], [9], [], Fct.val 29 (.int .i64 i456)⟩,
            ⟨[0], [], [], Fct.val 30 (.int .i64 (ad i456 1))⟩,
            ⟨[1], [], [], Fct.val 9 (.int .i64 (ad i456 1))⟩]) (by kernel_rfl) hz643 hd643 (fun _ h => nomatch h) ?_ ?_
        · refine steps_cons (fun own a wx hf hsl hE => ?_) ?_
          · obtain ⟨s_9, -⟩ := hsl
            exact sg_plain rfl rfl (or_move (s_9.trans e643_9))
          refine steps_cons (fun own a wx hf hsl hE => ?_) ?_
          · obtain ⟨(f_29 : a.eval (.tmp 29) = .int .i64 i456), -⟩ := hf
            exact sg_plain rfl rfl (or_add f_29 rfl rfl)
          refine steps_cons (fun own a wx hf hsl hE => ?_) ?_
          · obtain ⟨(f_30 : a.eval (.tmp 30) = .int .i64 (ad i456 1)), -⟩ := hf
            exact sg_plain rfl rfl (or_assign f_30)
          exact steps_nil
        intro own644 a644 w644 hd644 hz644 hk644 hf644 hE644
        have e644_1 : a644.eval (.tmp 1) = .int .i64 b2 := (hk644 1 rfl).trans e643_1
        have e644_5 : a644.eval (.tmp 5) = .pointer (some ⟨g339, 0, none⟩) := (hk644 5 rfl).trans e643_5
        have e644_7 : a644.eval (.tmp 7) = .slice A638 out640.length c639 := (hk644 7 rfl).trans e643_7
        have e644_8 : a644.eval (.tmp 8) = .slice A350 r349.length cA350 := (hk644 8 rfl).trans e643_8
        obtain ⟨(f_9 : a644.eval (.tmp 9) = .int .i64 (ad i456 1)), -⟩ := hf644 [2] rfl
        have e644_9 := f_9
        have hX644 := Evo.step hE643 (fun _ => Nat.le_refl 0) hE644 rfl
        have b644_g339 := BlkO.evo (by decide) hE644 b643_g339
        have b644_A638 := RwO.evo rfl hE644 b643_A638
        have b644_A350 := RwO.evo rfl hE644 b643_A350
        exact hn561 _ _ _ hs ⟨(rl [(641, 455)] own644), A638, c639, hd644, hz644, e644_1, e644_5, e644_7, e644_8, e644_9, (Evo.rl_ hX644 (fun _ => Nat.le_refl 0) rfl), (BlkO.rl_ (mm := [(641, 455)]) b644_g339), (RwO.rl_ (mm := [(641, 455)]) b644_A638), (RwO.rl_ (mm := [(641, 455)]) b644_A350)⟩
      obtain ⟨x645, hx645, hs⟩ := obind hs
      obtain ⟨r646, hr646, hs⟩ := obind hs
      refine rg_plain_seq (n := 82) (rs := []) (own0 := own564) (K := [648])
          (bs := [0, 0, 3, 7, 0, 31, 63, 127, 127, 0, 767, 2047])
          (ds := [⟨[], [8], [], Fct.val 32 (.slice A350 r349.length cA350)⟩,
          ⟨[], [9], [], Fct.val 33 (.int .i64 i456)⟩,
          ⟨[0, 1], [], [], Fct.val 34 (.pointer (some ((adr A350).add ((i456 : Int).toNat * R30.s))))⟩,
          ⟨[2], [], [], Fct.val 35 (.agg #[.int .i64 x645.1, .int .i64 x645.2.1, .int .i64 x645.2.2])⟩,
          ⟨[], [1], [], Fct.val 36 (.int .i64 b2)⟩,
          ⟨[3, 4], [], [], Fct.val 37 (.tuple #[.agg #[.int .i64 r646.1.1.1, .int .i64 r646.1.1.2, .int .i64 r646.1.2.1, .int .i64 r646.1.2.2], .bool r646.2])⟩,
          ⟨[5], [], [], Fct.val 31 (.tuple #[.agg #[.int .i64 r646.1.1.1, .int .i64 r646.1.1.2, .int .i64 r646.1.2.1, .int .i64 r646.1.2.2], .bool r646.2])⟩,
          ⟨[6], [], [], Fct.val 38 (.agg #[.int .i64 r646.1.1.1, .int .i64 r646.1.1.2, .int .i64 r646.1.2.1, .int .i64 r646.1.2.2])⟩,
          ⟨[6], [], [], Fct.val 39 (.bool r646.2)⟩,
          ⟨[], [], [], Fct.blk 648 10 (fun g => .pointer (some ⟨g, 0, none⟩)) 41 #[.int .i64 0, .int .i64 0, .int .i64 0, .int .i64 0]⟩,
          ⟨[9, 7], [], [648], Fct.blk 649 10 (fun g => .pointer (some ⟨g, 0, none⟩)) 41 #[.int .i64 r646.1.1.1, .int .i64 r646.1.1.2, .int .i64 r646.1.2.1, .int .i64 r646.1.2.2]⟩,
          ⟨[8], [], [], Fct.val 11 (.bool r646.2)⟩]) (by kernel_rfl) hz564 hd564 (fun _ h => nomatch h) ?_ ?_
      · refine steps_cons (fun own a wx hf hsl hE => ?_) ?_
        · obtain ⟨s_8, -⟩ := hsl
          exact sg_plain rfl rfl (or_move (s_8.trans e564_8))
        refine steps_cons (fun own a wx hf hsl hE => ?_) ?_
        · obtain ⟨s_9, -⟩ := hsl
          exact sg_plain rfl rfl (or_move (s_9.trans e564_9))
        refine steps_cons (fun own a wx hf hsl hE => ?_) ?_
        · obtain ⟨(f_32 : a.eval (.tmp 32) = .slice A350 r349.length cA350), (f_33 : a.eval (.tmp 33) = .int .i64 i456), -⟩ := hf
          exact sg_plain rfl rfl (or_index (R := R30) (l := r349) tl38 f_32 f_33 (RdO.some_ (RwO.rd b564_A350) hx645) hx645)
        refine steps_cons (fun own a wx hf hsl hE => ?_) ?_
        · obtain ⟨(f_34 : a.eval (.tmp 34) = .pointer (some ((adr A350).add ((i456 : Int).toNat * R30.s)))), -⟩ := hf
          exact sg_plain rfl rfl (or_load (l := E30.f x645) ta30 f_34 (RdO.cells (F := E30) (RwO.rd (RwO.evo rfl hE b564_A350)) hx645) rfl)
        refine steps_cons (fun own a wx hf hsl hE => ?_) ?_
        · obtain ⟨s_1, -⟩ := hsl
          exact sg_plain rfl rfl (or_move (s_1.trans e564_1))
        refine steps_cons (fun own a wx hf hsl hE => ?_) ?_
        · obtain ⟨(f_35 : a.eval (.tmp 35) = .agg #[.int .i64 x645.1, .int .i64 x645.2.1, .int .i64 x645.2.2]), (f_36 : a.eval (.tmp 36) = .int .i64 b2), -⟩ := hf
          exact sg_plain rfl rfl (or_call cf19 (args2 f_35 f_36) (ref20_Window_w _ x645 b2  r646 hr646) post_val)
        refine steps_cons (fun own a wx hf hsl hE => ?_) ?_
        · obtain ⟨(f_37 : a.eval (.tmp 37) = .tuple #[.agg #[.int .i64 r646.1.1.1, .int .i64 r646.1.1.2, .int .i64 r646.1.2.1, .int .i64 r646.1.2.2], .bool r646.2]), -⟩ := hf
          exact sg_plain rfl rfl (or_move f_37)
        refine steps_cons (fun own a wx hf hsl hE => ?_) ?_
        · obtain ⟨(f_31 : a.eval (.tmp 31) = .tuple #[.agg #[.int .i64 r646.1.1.1, .int .i64 r646.1.1.2, .int .i64 r646.1.2.1, .int .i64 r646.1.2.2], .bool r646.2]), -⟩ := hf
          exact sg_plain rfl rfl (or_k [(31, .tuple #[.agg #[.int .i64 r646.1.1.1, .int .i64 r646.1.1.2, .int .i64 r646.1.2.1, .int .i64 r646.1.2.2], .bool r646.2])] rfl rfl ⟨f_31, trivial⟩ (by kernel_rfl))
        refine steps_cons (fun own a wx hf hsl hE => ?_) ?_
        · obtain ⟨(f_31 : a.eval (.tmp 31) = .tuple #[.agg #[.int .i64 r646.1.1.1, .int .i64 r646.1.1.2, .int .i64 r646.1.2.1, .int .i64 r646.1.2.2], .bool r646.2]), -⟩ := hf
          exact sg_plain rfl rfl (or_k [(31, .tuple #[.agg #[.int .i64 r646.1.1.1, .int .i64 r646.1.1.2, .int .i64 r646.1.2.1, .int .i64 r646.1.2.2], .bool r646.2])] rfl rfl ⟨f_31, trivial⟩ (by kernel_rfl))
        refine steps_cons (fun own a wx hf hsl hE => ?_) ?_
        · exact sg_plain rfl rfl (or_new [] rfl rfl trivial (by kernel_rfl))
        refine steps_cons (fun own a wx hf hsl hE => ?_) ?_
        · obtain ⟨⟨g647, (f_10 : a.eval (.tmp 10) = .pointer (some ⟨g647, 0, none⟩)), (b_g647 : BlkO own 648 wx g647 41 #[.int .i64 0, .int .i64 0, .int .i64 0, .int .i64 0])⟩, (f_38 : a.eval (.tmp 38) = .agg #[.int .i64 r646.1.1.1, .int .i64 r646.1.1.2, .int .i64 r646.1.2.1, .int .i64 r646.1.2.2]), -⟩ := hf
          exact sg_plain rfl rfl (or_store (l := #[.int .i64 r646.1.1.1, .int .i64 r646.1.1.2, .int .i64 r646.1.2.1, .int .i64 r646.1.2.2]) (lab := 648) (lab2 := 649) ts41 f_10 f_38 b_g647 (by simp) (by kernel_rfl) (mem_of rfl) (by decide) (by kernel_rfl) (fun own' a' w' ha hb => ⟨_, (ha 10).trans f_10, hb⟩))
        refine steps_cons (fun own a wx hf hsl hE => ?_) ?_
        · obtain ⟨(f_39 : a.eval (.tmp 39) = .bool r646.2), -⟩ := hf
          exact sg_plain rfl rfl (or_assign f_39)
        exact steps_nil
      intro own650 a650 w650 hd650 hz650 hk650 hf650 hE650
      have e650_1 : a650.eval (.tmp 1) = .int .i64 b2 := (hk650 1 rfl).trans e564_1
      have e650_5 : a650.eval (.tmp 5) = .pointer (some ⟨g339, 0, none⟩) := (hk650 5 rfl).trans e564_5
      have e650_7 : a650.eval (.tmp 7) = .slice A452 out454.length c453 := (hk650 7 rfl).trans e564_7
      have e650_8 : a650.eval (.tmp 8) = .slice A350 r349.length cA350 := (hk650 8 rfl).trans e564_8
      have e650_9 : a650.eval (.tmp 9) = .int .i64 i456 := (hk650 9 rfl).trans e564_9
      obtain ⟨⟨g647, (f_10 : a650.eval (.tmp 10) = .pointer (some ⟨g647, 0, none⟩)), (b_g647 : BlkO own650 649 w650 g647 41 #[.int .i64 r646.1.1.1, .int .i64 r646.1.1.2, .int .i64 r646.1.2.1, .int .i64 r646.1.2.2])⟩, -⟩ := hf650 [10] rfl
      have e650_10 := f_10
      have hX650 := Evo.step hX564 (fun _ => Nat.le_refl 0) hE650 rfl
      have b650_g339 := BlkO.evo (by decide) hE650 b564_g339
      have b650_A452 := RwO.evo rfl hE650 b564_A452
      have b650_A350 := RwO.evo rfl hE650 b564_A350
      have b650_g647 := b_g647
      obtain ⟨x651, hx651, hs⟩ := obind hs
      obtain ⟨x652, hx652, hs⟩ := obind hs
      obtain ⟨x653, hx653, hs⟩ := obind hs
      refine rg_plain_seq (n := 82) (rs := []) (own0 := own650) (K := [])
          (bs := [0, 1, 3, 0, 8, 24, 63, 127, 255, 511, 1023, 255, 2303, 6399, 16383, 32767, 65535, 131071, 262143, 524287, 131071, 1179647, 3276799, 8388607, 16777215, 33554431, 67108863, 134217727, 268435455, 67108863, 603979775, 1677721599, 4294967295, 8589934591])
          (ds := [⟨[], [5], [], Fct.val 40 (.pointer (some ⟨g339, 2, none⟩))⟩,
          ⟨[0], [], [], Fct.val 41 (.pointer (some ⟨g339, 2, none⟩))⟩,
          ⟨[1], [], [], Fct.val 42 (.int .i64 box3.2.1)⟩,
          ⟨[], [10], [], Fct.val 43 (.pointer (some ⟨g647, 0, none⟩))⟩,
          ⟨[3], [], [], Fct.val 44 (.pointer (some ⟨g647, 0, none⟩))⟩,
          ⟨[4], [], [], Fct.val 45 (.int .i64 r646.1.1.1)⟩,
          ⟨[2, 5], [], [], Fct.val 46 (.bool (decide (r646.1.1.1 < box3.2.1)))⟩,
          ⟨[6], [], [], Fct.val 47 (.bool (decide (r646.1.1.1 < box3.2.1)))⟩,
          ⟨[7], [5], [], Fct.cond (decide (r646.1.1.1 < box3.2.1)) (some 48) (Fct.val 48 (.pointer (some ⟨g339, 0, none⟩)))⟩,
          ⟨[7, 8], [], [], Fct.cond (decide (r646.1.1.1 < box3.2.1)) (some 49) (Fct.val 49 (.pointer (some ⟨g339, 0, none⟩)))⟩,
          ⟨[7, 9], [], [], Fct.cond (decide (r646.1.1.1 < box3.2.1)) (some 50) (Fct.val 50 (.int .i64 box3.1.1))⟩,
          ⟨[7], [10], [], Fct.cond (decide (r646.1.1.1 < box3.2.1)) (some 51) (Fct.val 51 (.pointer (some ⟨g647, 2, none⟩)))⟩,
          ⟨[7, 11], [], [], Fct.cond (decide (r646.1.1.1 < box3.2.1)) (some 52) (Fct.val 52 (.pointer (some ⟨g647, 2, none⟩)))⟩,
          ⟨[7, 12], [], [], Fct.cond (decide (r646.1.1.1 < box3.2.1)) (some 53) (Fct.val 53 (.int .i64 r646.1.2.1))⟩,
          ⟨[7, 10, 13], [], [], Fct.cond (decide (r646.1.1.1 < box3.2.1)) (some 54) (Fct.val 54 (.bool (decide (box3.1.1 < r646.1.2.1))))⟩,
          ⟨[7, 14], [], [], Fct.val 55 (.bool x651)⟩,
          ⟨[15], [], [], Fct.val 56 (.bool x651)⟩,
          ⟨[16], [5], [], Fct.cond x651 (some 57) (Fct.val 57 (.pointer (some ⟨g339, 2, none⟩)))⟩,
          ⟨[16, 17], [], [], Fct.cond x651 (some 58) (Fct.val 58 (.pointer (some ⟨g339, 3, none⟩)))⟩,
          ⟨[16, 18], [], [], Fct.cond x651 (some 59) (Fct.val 59 (.int .i64 box3.2.2))⟩,
          ⟨[16], [10], [], Fct.cond x651 (some 60) (Fct.val 60 (.pointer (some ⟨g647, 0, none⟩)))⟩,
          ⟨[16, 20], [], [], Fct.cond x651 (some 61) (Fct.val 61 (.pointer (some ⟨g647, 1, none⟩)))⟩,
          ⟨[16, 21], [], [], Fct.cond x651 (some 62) (Fct.val 62 (.int .i64 r646.1.1.2))⟩,
          ⟨[16, 19, 22], [], [], Fct.cond x651 (some 63) (Fct.val 63 (.bool (decide (r646.1.1.2 < box3.2.2))))⟩,
          ⟨[16, 23], [], [], Fct.val 64 (.bool x652)⟩,
          ⟨[24], [], [], Fct.val 65 (.bool x652)⟩,
          ⟨[25], [5], [], Fct.cond x652 (some 66) (Fct.val 66 (.pointer (some ⟨g339, 0, none⟩)))⟩,
          ⟨[25, 26], [], [], Fct.cond x652 (some 67) (Fct.val 67 (.pointer (some ⟨g339, 1, none⟩)))⟩,
          ⟨[25, 27], [], [], Fct.cond x652 (some 68) (Fct.val 68 (.int .i64 box3.1.2))⟩,
          ⟨[25], [10], [], Fct.cond x652 (some 69) (Fct.val 69 (.pointer (some ⟨g647, 2, none⟩)))⟩,
          ⟨[25, 29], [], [], Fct.cond x652 (some 70) (Fct.val 70 (.pointer (some ⟨g647, 3, none⟩)))⟩,
          ⟨[25, 30], [], [], Fct.cond x652 (some 71) (Fct.val 71 (.int .i64 r646.1.2.2))⟩,
          ⟨[25, 28, 31], [], [], Fct.cond x652 (some 72) (Fct.val 72 (.bool (decide (box3.1.2 < r646.1.2.2))))⟩,
          ⟨[25, 32], [], [], Fct.val 73 (.bool x653)⟩]) (by kernel_rfl) hz650 hd650 (fun _ h => nomatch h) ?_ ?_
      · refine steps_cons (fun own a wx hf hsl hE => ?_) ?_
        · obtain ⟨s_5, -⟩ := hsl
          exact sg_plain rfl rfl (or_field fo41_1 (s_5.trans e650_5) (by rfl))
        refine steps_cons (fun own a wx hf hsl hE => ?_) ?_
        · obtain ⟨(f_40 : a.eval (.tmp 40) = .pointer (some ⟨g339, 2, none⟩)), -⟩ := hf
          exact sg_plain rfl rfl (or_field fo33_0 f_40 (by rfl))
        refine steps_cons (fun own a wx hf hsl hE => ?_) ?_
        · obtain ⟨(f_41 : a.eval (.tmp 41) = .pointer (some ⟨g339, 2, none⟩)), -⟩ := hf
          exact sg_plain rfl rfl (or_load1 to3 f_41 (Blk.at_ (BlkO.evo (by decide) hE b650_g339).2 2 rfl))
        refine steps_cons (fun own a wx hf hsl hE => ?_) ?_
        · obtain ⟨s_10, -⟩ := hsl
          exact sg_plain rfl rfl (or_field fo41_0 (s_10.trans e650_10) (by rfl))
        refine steps_cons (fun own a wx hf hsl hE => ?_) ?_
        · obtain ⟨(f_43 : a.eval (.tmp 43) = .pointer (some ⟨g647, 0, none⟩)), -⟩ := hf
          exact sg_plain rfl rfl (or_field fo33_0 f_43 (by rfl))
        refine steps_cons (fun own a wx hf hsl hE => ?_) ?_
        · obtain ⟨(f_44 : a.eval (.tmp 44) = .pointer (some ⟨g647, 0, none⟩)), -⟩ := hf
          exact sg_plain rfl rfl (or_load1 to3 f_44 (Blk.at_ (BlkO.evo (by decide) hE b650_g647).2 0 rfl))
        refine steps_cons (fun own a wx hf hsl hE => ?_) ?_
        · obtain ⟨(f_42 : a.eval (.tmp 42) = .int .i64 box3.2.1), (f_45 : a.eval (.tmp 45) = .int .i64 r646.1.1.1), -⟩ := hf
          exact sg_plain rfl rfl (or_gtr f_42 f_45 rfl)
        refine steps_cons (fun own a wx hf hsl hE => ?_) ?_
        · obtain ⟨(f_46 : a.eval (.tmp 46) = .bool (decide (r646.1.1.1 < box3.2.1))), -⟩ := hf
          exact sg_plain rfl rfl (or_move f_46)
        refine steps_cons (fun own a wx hf hsl hE => ?_) ?_
        · obtain ⟨(f_47 : a.eval (.tmp 47) = .bool (decide (r646.1.1.1 < box3.2.1))), -⟩ := hf
          obtain ⟨s_5, -⟩ := hsl
          refine sg_t rfl rfl rfl f_47 (fun hg => ?_)
          exact or_field fo41_0 (s_5.trans e650_5) (by rfl)
        refine steps_cons (fun own a wx hf hsl hE => ?_) ?_
        · obtain ⟨(f_47 : a.eval (.tmp 47) = .bool (decide (r646.1.1.1 < box3.2.1))), c_48, -⟩ := hf
          refine sg_t rfl rfl rfl f_47 (fun hg => ?_)
          have f_48 : a.eval (.tmp 48) = .pointer (some ⟨g339, 0, none⟩) := c_48.1 hg
          exact or_field fo33_0 f_48 (by rfl)
        refine steps_cons (fun own a wx hf hsl hE => ?_) ?_
        · obtain ⟨(f_47 : a.eval (.tmp 47) = .bool (decide (r646.1.1.1 < box3.2.1))), c_49, -⟩ := hf
          refine sg_t rfl rfl rfl f_47 (fun hg => ?_)
          have f_49 : a.eval (.tmp 49) = .pointer (some ⟨g339, 0, none⟩) := c_49.1 hg
          exact or_load1 to3 f_49 (Blk.at_ (BlkO.evo (by decide) hE b650_g339).2 0 rfl)
        refine steps_cons (fun own a wx hf hsl hE => ?_) ?_
        · obtain ⟨(f_47 : a.eval (.tmp 47) = .bool (decide (r646.1.1.1 < box3.2.1))), -⟩ := hf
          obtain ⟨s_10, -⟩ := hsl
          refine sg_t rfl rfl rfl f_47 (fun hg => ?_)
          exact or_field fo41_1 (s_10.trans e650_10) (by rfl)
        refine steps_cons (fun own a wx hf hsl hE => ?_) ?_
        · obtain ⟨(f_47 : a.eval (.tmp 47) = .bool (decide (r646.1.1.1 < box3.2.1))), c_51, -⟩ := hf
          refine sg_t rfl rfl rfl f_47 (fun hg => ?_)
          have f_51 : a.eval (.tmp 51) = .pointer (some ⟨g647, 2, none⟩) := c_51.1 hg
          exact or_field fo33_0 f_51 (by rfl)
        refine steps_cons (fun own a wx hf hsl hE => ?_) ?_
        · obtain ⟨(f_47 : a.eval (.tmp 47) = .bool (decide (r646.1.1.1 < box3.2.1))), c_52, -⟩ := hf
          refine sg_t rfl rfl rfl f_47 (fun hg => ?_)
          have f_52 : a.eval (.tmp 52) = .pointer (some ⟨g647, 2, none⟩) := c_52.1 hg
          exact or_load1 to3 f_52 (Blk.at_ (BlkO.evo (by decide) hE b650_g647).2 2 rfl)
        refine steps_cons (fun own a wx hf hsl hE => ?_) ?_
        · obtain ⟨(f_47 : a.eval (.tmp 47) = .bool (decide (r646.1.1.1 < box3.2.1))), c_50, c_53, -⟩ := hf
          refine sg_t rfl rfl rfl f_47 (fun hg => ?_)
          have f_50 : a.eval (.tmp 50) = .int .i64 box3.1.1 := c_50.1 hg
          have f_53 : a.eval (.tmp 53) = .int .i64 r646.1.2.1 := c_53.1 hg
          exact or_lss f_50 f_53 rfl
        refine steps_cons (fun own a wx hf hsl hE => ?_) ?_
        · obtain ⟨(f_47 : a.eval (.tmp 47) = .bool (decide (r646.1.1.1 < box3.2.1))), c_54, -⟩ := hf
          exact sg_plain rfl rfl (or_and f_47 (fun hx => c_54.1 hx) rfl (osome hx651).symm)
        refine steps_cons (fun own a wx hf hsl hE => ?_) ?_
        · obtain ⟨(f_55 : a.eval (.tmp 55) = .bool x651), -⟩ := hf
          exact sg_plain rfl rfl (or_move f_55)
        refine steps_cons (fun own a wx hf hsl hE => ?_) ?_
        · obtain ⟨(f_56 : a.eval (.tmp 56) = .bool x651), -⟩ := hf
          obtain ⟨s_5, -⟩ := hsl
          refine sg_t rfl rfl rfl f_56 (fun hg => ?_)
          exact or_field fo41_1 (s_5.trans e650_5) (by rfl)
        refine steps_cons (fun own a wx hf hsl hE => ?_) ?_
        · obtain ⟨(f_56 : a.eval (.tmp 56) = .bool x651), c_57, -⟩ := hf
          refine sg_t rfl rfl rfl f_56 (fun hg => ?_)
          have f_57 : a.eval (.tmp 57) = .pointer (some ⟨g339, 2, none⟩) := c_57.1 hg
          exact or_field fo33_1 f_57 (by rfl)
        refine steps_cons (fun own a wx hf hsl hE => ?_) ?_
        · obtain ⟨(f_56 : a.eval (.tmp 56) = .bool x651), c_58, -⟩ := hf
          refine sg_t rfl rfl rfl f_56 (fun hg => ?_)
          have f_58 : a.eval (.tmp 58) = .pointer (some ⟨g339, 3, none⟩) := c_58.1 hg
          exact or_load1 to3 f_58 (Blk.at_ (BlkO.evo (by decide) hE b650_g339).2 3 rfl)
        refine steps_cons (fun own a wx hf hsl hE => ?_) ?_
        · obtain ⟨(f_56 : a.eval (.tmp 56) = .bool x651), -⟩ := hf
          obtain ⟨s_10, -⟩ := hsl
          refine sg_t rfl rfl rfl f_56 (fun hg => ?_)
          exact or_field fo41_0 (s_10.trans e650_10) (by rfl)
        refine steps_cons (fun own a wx hf hsl hE => ?_) ?_
        · obtain ⟨(f_56 : a.eval (.tmp 56) = .bool x651), c_60, -⟩ := hf
          refine sg_t rfl rfl rfl f_56 (fun hg => ?_)
          have f_60 : a.eval (.tmp 60) = .pointer (some ⟨g647, 0, none⟩) := c_60.1 hg
          exact or_field fo33_1 f_60 (by rfl)
        refine steps_cons (fun own a wx hf hsl hE => ?_) ?_
        · obtain ⟨(f_56 : a.eval (.tmp 56) = .bool x651), c_61, -⟩ := hf
          refine sg_t rfl rfl rfl f_56 (fun hg => ?_)
          have f_61 : a.eval (.tmp 61) = .pointer (some ⟨g647, 1, none⟩) := c_61.1 hg
          exact or_load1 to3 f_61 (Blk.at_ (BlkO.evo (by decide) hE b650_g647).2 1 rfl)
        refine steps_cons (fun own a wx hf hsl hE => ?_) ?_
        · obtain ⟨(f_56 : a.eval (.tmp 56) = .bool x651), c_59, c_62, -⟩ := hf
          refine sg_t rfl rfl rfl f_56 (fun hg => ?_)
          have f_59 : a.eval (.tmp 59) = .int .i64 box3.2.2 := c_59.1 hg
          have f_62 : a.eval (.tmp 62) = .int .i64 r646.1.1.2 := c_62.1 hg
          exact or_gtr f_59 f_62 rfl
        refine steps_cons (fun own a wx hf hsl hE => ?_) ?_
        · obtain ⟨(f_56 : a.eval (.tmp 56) = .bool x651), c_63, -⟩ := hf
          exact sg_plain rfl rfl (or_and f_56 (fun hx => c_63.1 hx) rfl (osome hx652).symm)
        refine steps_cons (fun own a wx hf hsl hE => ?_) ?_
        · obtain ⟨(f_64 : a.eval (.tmp 64) = .bool x652), -⟩ := hf
          exact sg_plain rfl rfl (or_move f_64)
        refine steps_cons (fun own a wx hf hsl hE => ?_) ?_
        · obtain ⟨(f_65 : a.eval (.tmp 65) = .bool x652), -⟩ := hf
          obtain ⟨s_5, -⟩ := hsl
          refine sg_t rfl rfl rfl f_65 (fun hg => ?_)
          exact or_field fo41_0 (s_5.trans e650_5) (by rfl)
        refine steps_cons (fun own a wx hf hsl hE => ?_) ?_
        · obtain ⟨(f_65 : a.eval (.tmp 65) = .bool x652), c_66, -⟩ := hf
          refine sg_t rfl rfl rfl f_65 (fun hg => ?_)
          have f_66 : a.eval (.tmp 66) = .pointer (some ⟨g339, 0, none⟩) := c_66.1 hg
          exact or_field fo33_1 f_66 (by rfl)
        refine steps_cons (fun own a wx hf hsl hE => ?_) ?_
        · obtain ⟨(f_65 : a.eval (.tmp 65) = .bool x652), c_67, -⟩ := hf
          refine sg_t rfl rfl rfl f_65 (fun hg => ?_)
          have f_67 : a.eval (.tmp 67) = .pointer (some ⟨g339, 1, none⟩) := c_67.1 hg
          exact or_load1 to3 f_67 (Blk.at_ (BlkO.evo (by decide) hE b650_g339).2 1 rfl)
        refine steps_cons (fun own a wx hf hsl hE => ?_) ?_
        · obtain ⟨(f_65 : a.eval (.tmp 65) = .bool x652), -⟩ := hf
          obtain ⟨s_10, -⟩ := hsl
          refine sg_t rfl rfl rfl f_65 (fun hg => ?_)
          exact or_field fo41_1 (s_10.trans e650_10) (by rfl)
        refine steps_cons (fun own a wx hf hsl hE => ?_) ?_
        · obtain ⟨(f_65 : a.eval (.tmp 65) = .bool x652), c_69, -⟩ := hf
          refine sg_t rfl rfl rfl f_65 (fun hg => ?_)
          have f_69 : a.eval (.tmp 69) = .pointer (some ⟨g647, 2, none⟩) := c_69.1 hg
          exact or_field fo33_1 f_69 (by rfl)
        refine steps_cons (fun own a wx hf hsl hE => ?_) ?_
        · obtain ⟨(f_65 : a.eval (.tmp 65) = .bool x652), c_70, -⟩ := hf
          refine sg_t rfl rfl rfl f_65 (fun hg => ?_)
          have f_70 : a.eval (.tmp 70) = .pointer (some ⟨g647, 3, none⟩) := c_70.1 hg
          exact or_load1 to3 f_70 (Blk.at_ (BlkO.evo (by decide) hE b650_g647).2 3 rfl)
        refine steps_cons (fun own a wx hf hsl hE => ?_) ?_
        · obtain ⟨(f_65 : a.eval (.tmp 65) = .bool x652), c_68, c_71, -⟩ := hf
          refine sg_t rfl rfl rfl f_65 (fun hg => ?_)
          have f_68 : a.eval (.tmp 68) = .int .i64 box3.1.2 := c_68.1 hg
          have f_71 : a.eval (.tmp 71) = .int .i64 r646.1.2.2 := c_71.1 hg
          exact or_lss f_68 f_71 rfl
        refine steps_cons (fun own a wx hf hsl hE => ?_) ?_
        · obtain ⟨(f_65 : a.eval (.tmp 65) = .bool x652), c_72, -⟩ := hf
          exact sg_plain rfl rfl (or_and f_65 (fun hx => c_72.1 hx) rfl (osome hx653).symm)
        exact steps_nil
      intro own654 a654 w654 hd654 hz654 hk654 hf654 hE654
      have e654_1 : a654.eval (.tmp 1) = .int .i64 b2 := (hk654 1 rfl).trans e650_1
      have e654_5 : a654.eval (.tmp 5) = .pointer (some ⟨g339, 0, none⟩) := (hk654 5 rfl).trans e650_5
      have e654_7 : a654.eval (.tmp 7) = .slice A452 out454.length c453 := (hk654 7 rfl).trans e650_7
      have e654_8 : a654.eval (.tmp 8) = .slice A350 r349.length cA350 := (hk654 8 rfl).trans e650_8
      have e654_9 : a654.eval (.tmp 9) = .int .i64 i456 := (hk654 9 rfl).trans e650_9
      obtain ⟨(f_73 : a654.eval (.tmp 73) = .bool x653), -⟩ := hf654 [33] rfl
      have e654_73 := f_73
      have hX654 := Evo.step hX650 (fun _ => Nat.le_refl 0) hE654 rfl
      have b654_g339 := BlkO.evo (by decide) hE654 b650_g339
      have b654_A452 := RwO.evo rfl hE654 b650_A452
      have b654_A350 := RwO.evo rfl hE654 b650_A350
      refine fl_cond e654_73 hs (fun c655 hs => ?_) (fun c655 hs => ?_)
      · obtain ⟨x659, hx659, hs⟩ := obind hs
        obtain ⟨x662, hx662, hs⟩ := obind hs
        refine rg_plain (n := 82) (rs := [Fct.rowAt 455 [] 30 R30 A452 c453 out454]) (own0 := own654) (K := [455])
            (bs := [0, 0, 0, 6, 14, 30, 63, 127])
            (ds := [⟨[], [7], [], Fct.val 74 (.slice A452 out454.length c453)⟩,
            ⟨[], [8], [], Fct.val 75 (.slice A350 r349.length cA350)⟩,
            ⟨[], [9], [], Fct.val 76 (.int .i64 i456)⟩,
            ⟨[1, 2], [], [], Fct.val 77 (.pointer (some ((adr A350).add ((i456 : Int).toNat * R30.s))))⟩,
            ⟨[3], [], [], Fct.val 78 (.agg #[.int .i64 x659.1, .int .i64 x659.2.1, .int .i64 x659.2.2])⟩,
            ⟨[4], [], [], Fct.row 661 [] 79 30 R30 [x659]⟩,
            ⟨[0, 5, 8], [], [455], Fct.row 663 [] 80 30 R30 x662⟩,
            ⟨[6], [], [], Fct.rel [7, 80] (fun l => ∀ (A664 : Option Addr) (cA664 : Nat), l.getD 1 undef = .slice A664 x662.length cA664 → l.getD 0 undef = .slice A664 x662.length cA664)⟩]) (by kernel_rfl) hz654 hd654 (by simp only [List.forall_mem_cons]; exact ⟨b654_A452, fun _ h => nomatch h⟩) ?_ ?_
        · refine steps_cons (fun own a wx hf hsl hE => ?_) ?_
          · obtain ⟨s_7, -⟩ := hsl
            exact sg_plain rfl rfl (or_move (s_7.trans e654_7))
          refine steps_cons (fun own a wx hf hsl hE => ?_) ?_
          · obtain ⟨s_8, -⟩ := hsl
            exact sg_plain rfl rfl (or_move (s_8.trans e654_8))
          refine steps_cons (fun own a wx hf hsl hE => ?_) ?_
          · obtain ⟨s_9, -⟩ := hsl
            exact sg_plain rfl rfl (or_move (s_9.trans e654_9))
          refine steps_cons (fun own a wx hf hsl hE => ?_) ?_
          · obtain ⟨(f_75 : a.eval (.tmp 75) = .slice A350 r349.length cA350), (f_76 : a.eval (.tmp 76) = .int .i64 i456), -⟩ := hf
            exact sg_plain rfl rfl (or_index (R := R30) (l := r349) tl38 f_75 f_76 (RdO.some_ (RwO.rd b654_A350) hx659) hx659)
          refine steps_cons (fun own a wx hf hsl hE => ?_) ?_
          · obtain ⟨(f_77 : a.eval (.tmp 77) = .pointer (some ((adr A350).add ((i456 : Int).toNat * R30.s)))), -⟩ := hf
            exact sg_plain rfl rfl (or_load (l := E30.f x659) ta30 f_77 (RdO.cells (F := E30) (RwO.rd (RwO.evo rfl hE b654_A350)) hx659) rfl)
          refine steps_cons (fun own a wx hf hsl hE => ?_) ?_
          · obtain ⟨(f_78 : a.eval (.tmp 78) = .agg #[.int .i64 x659.1, .int .i64 x659.2.1, .int .i64 x659.2.2]), -⟩ := hf
            exact sg_plain rfl rfl (or_lit (lab := 661) (e := 30) (cs := #[.int .i64 x659.1, .int .i64 x659.2.1, .int .i64 x659.2.2]) (F := E30) (or_new [(78, .agg #[.int .i64 x659.1, .int .i64 x659.2.1, .int .i64 x659.2.2])] rfl rfl ⟨f_78, trivial⟩ (by kernel_rfl)) rfl rfl (show 1 ≤ maxLen by decide))
          refine steps_cons (fun own a wx hf hsl hE => ?_) ?_
          · obtain ⟨(f_74 : a.eval (.tmp 74) = .slice A452 out454.length c453), ⟨⟨A660, cA660⟩, (f_79 : a.eval (.tmp 79) = .slice A660 [x659].length cA660), (b_A660 : RwO own 661 [] wx 30 R30 A660 cA660 [x659])⟩, (b_A452 : RwO own 455 [] wx 30 R30 A452 c453 out454), -⟩ := hf
            exact sg_plain rfl rfl (or_append (R := R30) (lab := 455) (lab2 := 663) (L := []) (L3 := []) tp38 f_74 b_A452 (by decide) f_79 (RwO.rd b_A660) hx662 (by decide) (by decide) (mem_of rfl) (.inl (Rep.fl_flat _)))
          refine steps_cons (fun own a wx hf hsl hE => ?_) ?_
          · obtain ⟨⟨⟨A664, cA664⟩, (f_80 : a.eval (.tmp 80) = .slice A664 x662.length cA664), (b_A664 : RwO own 663 [] wx 30 R30 A664 cA664 x662)⟩, -⟩ := hf
            exact sg_plain rfl rfl (or_mono (f := Fct.val 7 (.slice A664 x662.length cA664)) (or_assign f_80) (fun own' a' w' v' hp h => fun _ _ h0' => by cases (f_80.symm.trans ((hp.2 80 (by decide)).symm.trans h0')); exact h))
          exact steps_nil
        intro own665 a665 w665 hd665 hz665 hk665 hf665 hE665
        have e665_1 : a665.eval (.tmp 1) = .int .i64 b2 := (hk665 1 rfl).trans e654_1
        have e665_5 : a665.eval (.tmp 5) = .pointer (some ⟨g339, 0, none⟩) := (hk665 5 rfl).trans e654_5
        have e665_8 : a665.eval (.tmp 8) = .slice A350 r349.length cA350 := (hk665 8 rfl).trans e654_8
        have e665_9 : a665.eval (.tmp 9) = .int .i64 i456 := (hk665 9 rfl).trans e654_9
        obtain ⟨⟨⟨A664, cA664⟩, (f_80 : a665.eval (.tmp 80) = .slice A664 x662.length cA664), (b_A664 : RwO own665 663 [] w665 30 R30 A664 cA664 x662)⟩, (q_7 : ∀ (A664 : Option Addr) (cA664 : Nat), a665.eval (.tmp 80) = .slice A664 x662.length cA664 → a665.eval (.tmp 7) = .slice A664 x662.length cA664), -⟩ := hf665 [6, 7] rfl
        have f_7 := q_7 _ _ f_80
        have e665_7 := f_7
        have hX665 := Evo.step hX654 (fun _ => Nat.le_refl 0) hE665 rfl
        have b665_g339 := BlkO.evo (by decide) hE665 b654_g339
        have b665_A350 := RwO.evo rfl hE665 b654_A350
        have b665_A664 := b_A664
        exact (K642 _ _ (rl [(663, 641)] own665) _ A664 cA664 hd665 hz665 e665_1 e665_5 e665_7 e665_8 e665_9 (Evo.rl_ hX665 (fun _ => Nat.le_refl 0) rfl) (BlkO.rl_ (mm := [(663, 641)]) b665_g339) (RwO.rl_ (mm := [(663, 641)]) b665_A664) (RwO.rl_ (mm := [(663, 641)]) b665_A350) hs).1
      refine fl_skip ?_
      exact (K642 _ _ (rl [(455, 641)] own654) _ A452 c453 hd654 hz654 e654_1 e654_5 e654_7 e654_8 e654_9 (Evo.rl_ hX654 (fun _ => Nat.le_refl 0) rfl) (BlkO.rl_ (mm := [(455, 641)]) b654_g339) (RwO.rl_ (mm := [(455, 641)]) b654_A452) (RwO.rl_ (mm := [(455, 641)]) b654_A350) hs).1
    refine fl_exit ?_
    refine hp563 _ _ _ rfl ?_
    replace hs := hz561 _ hs
    refine hp561 _ _ _ rfl ?_
    refine hx355 _ _ ?_
    refine hn353 _ _ ?_
    refine rg_plain_seq (n := 82) (rs := []) (own0 := own564) (K := [])
        (bs := [0, 1])
        (ds := [⟨[], [7], [], Fct.val 81 (.slice A452 out454.length c453)⟩,
        ⟨[0], [], [], Fct.val 6 (.slice A452 out454.length c453)⟩]) (by kernel_rfl) hz564 hd564 (fun _ h => nomatch h) ?_ ?_
    · refine steps_cons (fun own a wx hf hsl hE => ?_) ?_
      · obtain ⟨s_7, -⟩ := hsl
        exact sg_plain rfl rfl (or_move (s_7.trans e564_7))
      refine steps_cons (fun own a wx hf hsl hE => ?_) ?_
      · obtain ⟨(f_81 : a.eval (.tmp 81) = .slice A452 out454.length c453), -⟩ := hf
        exact sg_plain rfl rfl (or_assign f_81)
      exact steps_nil
    intro own666 a666 w666 hd666 hz666 hk666 hf666 hE666
    obtain ⟨(f_6 : a666.eval (.tmp 6) = .slice A452 out454.length c453), -⟩ := hf666 [1] rfl
    have e666_6 := f_6
    have hX666 := Evo.step hX564 (fun _ => Nat.le_refl 0) hE666 rfl
    have b666_A452 := RwO.evo rfl hE666 b564_A452
    refine fl_ret ?_
    obtain rfl := (osome hs).symm
    exact hret _ _ _ _ (.inl rfl) hd666 (results1_ rfl (RVal.tmp_ e666_6)) ⟨(rl [(455, 1)] own666), (A452, c453), rfl, (Evo.rl_ hX666 (fun _ => Nat.le_refl 0) rfl), (RwO.rl_ (mm := [(455, 1)]) b666_A452)⟩

end Go.Proofs.Ytehmjkdgakinbaa
