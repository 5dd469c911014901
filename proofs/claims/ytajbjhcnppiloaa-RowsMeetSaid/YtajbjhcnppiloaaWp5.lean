/-
  Chapter 06. The walks.
-/
import Derived.Test.YtajbjhcnppiloaaWp3
import Derived.Test.YtajbjhcnppiloaaSp5
namespace Go.Proofs.Ytajbjhcnppiloaa
open Go.RowKit
set_option linter.unusedVariables false
theorem ref01_May_w (w : World) (p1 : Int × Int) (r : Bool) (hs : ref01_May p1 = some r) :
    Calls Try.prog 31 #[.agg #[.int .i64 p1.1, .int .i64 p1.2]] w fun e w' => ∃ own' : Own, e = .returned (.bool r) ∧ Evo [] (fun _ => 0) own' w w' := by
  refine fl_enter (n := 21) rfl rfl rfl (Nat.le_of_ble_eq_true rfl) ?_
  intro a0 Q hd0 hz0 harg hret
  have ha0 := harg 0 _ rfl
  clear harg
  have hE0 : Evo [] (fun _ => 0) (fun _ => 0) w w := Evo.refl _ _ _
  refine rg_plain_seq (n := 21) (rs := []) (own0 := (fun _ => 0)) (K := [])
      (bs := [0, 0])
      (ds := [⟨[], [0], [], Fct.blk 18 1 (fun g => .pointer (some ⟨g, 0, none⟩)) 43 #[.int .i64 p1.1, .int .i64 p1.2]⟩,
      ⟨[], [], [], Fct.val 2 (.bool false)⟩]) (by kernel_rfl) hz0 hd0 (fun _ h => nomatch h) ?_ ?_
  · refine steps_cons (fun own a wx hf hsl hE => ?_) ?_
    · obtain ⟨s_0, -⟩ := hsl
      exact sg_plain rfl rfl (or_new [(0, .agg #[.int .i64 p1.1, .int .i64 p1.2])] rfl rfl ⟨(s_0.trans ha0), trivial⟩ (by kernel_rfl))
    refine steps_cons (fun own a wx hf hsl hE => ?_) ?_
    · exact sg_plain rfl rfl (or_assign rfl)
    exact steps_nil
  intro own19 a19 w19 hd19 hz19 hk19 hf19 hE19
  obtain ⟨⟨g17, (f_1 : a19.eval (.tmp 1) = .pointer (some ⟨g17, 0, none⟩)), (b_g17 : BlkO own19 18 w19 g17 43 #[.int .i64 p1.1, .int .i64 p1.2])⟩, -⟩ := hf19 [0] rfl
  have e19_1 := f_1
  have hX19 := Evo.step hE0 (fun _ => Nat.le_refl 0) hE19 rfl
  have b19_g17 := b_g17
  obtain ⟨x20, hx20, hs⟩ := obind hs
  obtain ⟨x21, hx21, hs⟩ := obind hs
  refine rg_plain_seq (n := 21) (rs := []) (own0 := own19) (K := [])
      (bs := [0, 1, 3, 7, 15, 31, 63, 127, 255, 511, 1023, 2047, 4095, 8191, 16383, 32767, 65535, 131071, 262143])
      (ds := [⟨[], [1], [], Fct.val 3 (.pointer (some ⟨g17, 0, none⟩))⟩,
      ⟨[0], [], [], Fct.val 4 (.int .i64 p1.1)⟩,
      ⟨[1], [], [], Fct.val 5 (.bool (decide ((-16777216) ≤ p1.1)))⟩,
      ⟨[2], [], [], Fct.val 6 (.bool (decide ((-16777216) ≤ p1.1)))⟩,
      ⟨[3], [1], [], Fct.cond (decide ((-16777216) ≤ p1.1)) (some 7) (Fct.val 7 (.pointer (some ⟨g17, 0, none⟩)))⟩,
      ⟨[3, 4], [], [], Fct.cond (decide ((-16777216) ≤ p1.1)) (some 8) (Fct.val 8 (.int .i64 p1.1))⟩,
      ⟨[3, 5], [], [], Fct.cond (decide ((-16777216) ≤ p1.1)) (some 9) (Fct.val 9 (.bool (decide (p1.1 ≤ 16777216))))⟩,
      ⟨[3, 6], [], [], Fct.val 10 (.bool x20)⟩,
      ⟨[7], [], [], Fct.val 11 (.bool x20)⟩,
      ⟨[8], [1], [], Fct.cond x20 (some 12) (Fct.val 12 (.pointer (some ⟨g17, 1, none⟩)))⟩,
      ⟨[8, 9], [], [], Fct.cond x20 (some 13) (Fct.val 13 (.int .i64 p1.2))⟩,
      ⟨[8, 10], [], [], Fct.cond x20 (some 14) (Fct.val 14 (.bool (decide ((-16777216) ≤ p1.2))))⟩,
      ⟨[8, 11], [], [], Fct.val 15 (.bool x21)⟩,
      ⟨[12], [], [], Fct.val 16 (.bool x21)⟩,
      ⟨[13], [1], [], Fct.cond x21 (some 17) (Fct.val 17 (.pointer (some ⟨g17, 1, none⟩)))⟩,
      ⟨[13, 14], [], [], Fct.cond x21 (some 18) (Fct.val 18 (.int .i64 p1.2))⟩,
      ⟨[13, 15], [], [], Fct.cond x21 (some 19) (Fct.val 19 (.bool (decide (p1.2 ≤ 16777216))))⟩,
      ⟨[13, 16], [], [], Fct.val 20 (.bool (x21 && (decide (p1.2 ≤ 16777216))))⟩,
      ⟨[17], [], [], Fct.val 2 (.bool (x21 && (decide (p1.2 ≤ 16777216))))⟩]) (by kernel_rfl) hz19 hd19 (fun _ h => nomatch h) ?_ ?_
  · refine steps_cons (fun own a wx hf hsl hE => ?_) ?_
    · obtain ⟨s_1, -⟩ := hsl
      exact sg_plain rfl rfl (or_field fo43_0 (s_1.trans e19_1) (by rfl))
    refine steps_cons (fun own a wx hf hsl hE => ?_) ?_
    · obtain ⟨(f_3 : a.eval (.tmp 3) = .pointer (some ⟨g17, 0, none⟩)), -⟩ := hf
      exact sg_plain rfl rfl (or_load1 to3 f_3 (Blk.at_ (BlkO.evo (by decide) hE b19_g17).2 0 rfl))
    refine steps_cons (fun own a wx hf hsl hE => ?_) ?_
    · obtain ⟨(f_4 : a.eval (.tmp 4) = .int .i64 p1.1), -⟩ := hf
      exact sg_plain rfl rfl (or_geq f_4 rfl rfl)
    refine steps_cons (fun own a wx hf hsl hE => ?_) ?_
    · obtain ⟨(f_5 : a.eval (.tmp 5) = .bool (decide ((-16777216) ≤ p1.1))), -⟩ := hf
      exact sg_plain rfl rfl (or_move f_5)
    refine steps_cons (fun own a wx hf hsl hE => ?_) ?_
    · obtain ⟨(f_6 : a.eval (.tmp 6) = .bool (decide ((-16777216) ≤ p1.1))), -⟩ := hf
      obtain ⟨s_1, -⟩ := hsl
      refine sg_t rfl rfl rfl f_6 (fun hg => ?_)
      exact or_field fo43_0 (s_1.trans e19_1) (by rfl)
    refine steps_cons (fun own a wx hf hsl hE => ?_) ?_
    · obtain ⟨(f_6 : a.eval (.tmp 6) = .bool (decide ((-16777216) ≤ p1.1))), c_7, -⟩ := hf
      refine sg_t rfl rfl rfl f_6 (fun hg => ?_)
      have f_7 : a.eval (.tmp 7) = .pointer (some ⟨g17, 0, none⟩) := c_7.1 hg
      exact or_load1 to3 f_7 (Blk.at_ (BlkO.evo (by decide) hE b19_g17).2 0 rfl)
    refine steps_cons (fun own a wx hf hsl hE => ?_) ?_
    · obtain ⟨(f_6 : a.eval (.tmp 6) = .bool (decide ((-16777216) ≤ p1.1))), c_8, -⟩ := hf
      refine sg_t rfl rfl rfl f_6 (fun hg => ?_)
      have f_8 : a.eval (.tmp 8) = .int .i64 p1.1 := c_8.1 hg
      exact or_leq f_8 rfl rfl
    refine steps_cons (fun own a wx hf hsl hE => ?_) ?_
    · obtain ⟨(f_6 : a.eval (.tmp 6) = .bool (decide ((-16777216) ≤ p1.1))), c_9, -⟩ := hf
      exact sg_plain rfl rfl (or_and f_6 (fun hx => c_9.1 hx) rfl (osome hx20).symm)
    refine steps_cons (fun own a wx hf hsl hE => ?_) ?_
    · obtain ⟨(f_10 : a.eval (.tmp 10) = .bool x20), -⟩ := hf
      exact sg_plain rfl rfl (or_move f_10)
    refine steps_cons (fun own a wx hf hsl hE => ?_) ?_
    · obtain ⟨(f_11 : a.eval (.tmp 11) = .bool x20), -⟩ := hf
      obtain ⟨s_1, -⟩ := hsl
      refine sg_t rfl rfl rfl f_11 (fun hg => ?_)
      exact or_field fo43_1 (s_1.trans e19_1) (by rfl)
    refine steps_cons (fun own a wx hf hsl hE => ?_) ?_
    · obtain ⟨(f_11 : a.eval (.tmp 11) = .bool x20), c_12, -⟩ := hf
      refine sg_t rfl rfl rfl f_11 (fun hg => ?_)
      have f_12 : a.eval (.tmp 12) = .pointer (some ⟨g17, 1, none⟩) := c_12.1 hg
      exact or_load1 to3 f_12 (Blk.at_ (BlkO.evo (by decide) hE b19_g17).2 1 rfl)
    refine steps_cons (fun own a wx hf hsl hE => ?_) ?_
    · obtain ⟨(f_11 : a.eval (.tmp 11) = .bool x20), c_13, -⟩ := hf
      refine sg_t rfl rfl rfl f_11 (fun hg => ?_)
      have f_13 : a.eval (.tmp 13) = .int .i64 p1.2 := c_13.1 hg
      exact or_geq f_13 rfl rfl
    refine steps_cons (fun own a wx hf hsl hE => ?_) ?_
    · obtain ⟨(f_11 : a.eval (.tmp 11) = .bool x20), c_14, -⟩ := hf
      exact sg_plain rfl rfl (or_and f_11 (fun hx => c_14.1 hx) rfl (osome hx21).symm)
    refine steps_cons (fun own a wx hf hsl hE => ?_) ?_
    · obtain ⟨(f_15 : a.eval (.tmp 15) = .bool x21), -⟩ := hf
      exact sg_plain rfl rfl (or_move f_15)
    refine steps_cons (fun own a wx hf hsl hE => ?_) ?_
    · obtain ⟨(f_16 : a.eval (.tmp 16) = .bool x21), -⟩ := hf
      obtain ⟨s_1, -⟩ := hsl
      refine sg_t rfl rfl rfl f_16 (fun hg => ?_)
      exact or_field fo43_1 (s_1.trans e19_1) (by rfl)
    refine steps_cons (fun own a wx hf hsl hE => ?_) ?_
    · obtain ⟨(f_16 : a.eval (.tmp 16) = .bool x21), c_17, -⟩ := hf
      refine sg_t rfl rfl rfl f_16 (fun hg => ?_)
      have f_17 : a.eval (.tmp 17) = .pointer (some ⟨g17, 1, none⟩) := c_17.1 hg
      exact or_load1 to3 f_17 (Blk.at_ (BlkO.evo (by decide) hE b19_g17).2 1 rfl)
    refine steps_cons (fun own a wx hf hsl hE => ?_) ?_
    · obtain ⟨(f_16 : a.eval (.tmp 16) = .bool x21), c_18, -⟩ := hf
      refine sg_t rfl rfl rfl f_16 (fun hg => ?_)
      have f_18 : a.eval (.tmp 18) = .int .i64 p1.2 := c_18.1 hg
      exact or_leq f_18 rfl rfl
    refine steps_cons (fun own a wx hf hsl hE => ?_) ?_
    · obtain ⟨(f_16 : a.eval (.tmp 16) = .bool x21), c_19, -⟩ := hf
      exact sg_plain rfl rfl (or_and f_16 (fun hx => c_19.1 hx) rfl rfl)
    refine steps_cons (fun own a wx hf hsl hE => ?_) ?_
    · obtain ⟨(f_20 : a.eval (.tmp 20) = .bool (x21 && (decide (p1.2 ≤ 16777216)))), -⟩ := hf
      exact sg_plain rfl rfl (or_assign f_20)
    exact steps_nil
  intro own22 a22 w22 hd22 hz22 hk22 hf22 hE22
  obtain ⟨(f_2 : a22.eval (.tmp 2) = .bool (x21 && (decide (p1.2 ≤ 16777216)))), -⟩ := hf22 [18] rfl
  have e22_2 := f_2
  have hX22 := Evo.step hX19 (fun _ => Nat.le_refl 0) hE22 rfl
  refine fl_ret ?_
  obtain rfl := osome hs
  exact hret _ _ _ _ (.inl rfl) hd22 (results1_ rfl (RVal.tmp_ e22_2)) ⟨own22, rfl, hX22⟩

theorem ref06_Right_w (w : World) (b1 : (Int × Int) × (Int × Int)) (r : Bool) (hs : ref06_Right b1 = some r) :
    Calls Try.prog 24 #[.agg #[.int .i64 b1.1.1, .int .i64 b1.1.2, .int .i64 b1.2.1, .int .i64 b1.2.2]] w fun e w' => ∃ own' : Own, e = .returned (.bool r) ∧ Evo [] (fun _ => 0) own' w w' := by
  refine fl_enter (n := 29) rfl rfl rfl (Nat.le_of_ble_eq_true rfl) ?_
  intro a0 Q hd0 hz0 harg hret
  have ha0 := harg 0 _ rfl
  clear harg
  have hE0 : Evo [] (fun _ => 0) (fun _ => 0) w w := Evo.refl _ _ _
  refine rg_plain_seq (n := 29) (rs := []) (own0 := (fun _ => 0)) (K := [])
      (bs := [0, 0])
      (ds := [⟨[], [0], [], Fct.blk 19 1 (fun g => .pointer (some ⟨g, 0, none⟩)) 45 #[.int .i64 b1.1.1, .int .i64 b1.1.2, .int .i64 b1.2.1, .int .i64 b1.2.2]⟩,
      ⟨[], [], [], Fct.val 2 (.bool false)⟩]) (by kernel_rfl) hz0 hd0 (fun _ h => nomatch h) ?_ ?_
  · refine steps_cons (fun own a wx hf hsl hE => ?_) ?_
    · obtain ⟨s_0, -⟩ := hsl
      exact sg_plain rfl rfl (or_new [(0, .agg #[.int .i64 b1.1.1, .int .i64 b1.1.2, .int .i64 b1.2.1, .int .i64 b1.2.2])] rfl rfl ⟨(s_0.trans ha0), trivial⟩ (by kernel_rfl))
    refine steps_cons (fun own a wx hf hsl hE => ?_) ?_
    · exact sg_plain rfl rfl (or_assign rfl)
    exact steps_nil
  intro own20 a20 w20 hd20 hz20 hk20 hf20 hE20
  obtain ⟨⟨g18, (f_1 : a20.eval (.tmp 1) = .pointer (some ⟨g18, 0, none⟩)), (b_g18 : BlkO own20 19 w20 g18 45 #[.int .i64 b1.1.1, .int .i64 b1.1.2, .int .i64 b1.2.1, .int .i64 b1.2.2])⟩, -⟩ := hf20 [0] rfl
  have e20_1 := f_1
  have hX20 := Evo.step hE0 (fun _ => Nat.le_refl 0) hE20 rfl
  have b20_g18 := b_g18
  obtain ⟨r21, hr21, hs⟩ := obind hs
  obtain ⟨r22, hr22, hs⟩ := obind hs
  obtain ⟨x23, hx23, hs⟩ := obind hs
  refine rg_plain_seq (n := 29) (rs := []) (own0 := own20) (K := [])
      (bs := [0, 1, 3, 7, 15, 31, 63, 127, 255, 511, 1023, 2047, 511, 4607, 12799, 32767, 65535, 131071, 262143, 524287, 1048575, 262143, 2359295, 6553599, 16777215, 33554431, 67108863])
      (ds := [⟨[], [1], [], Fct.val 3 (.pointer (some ⟨g18, 0, none⟩))⟩,
      ⟨[0], [], [], Fct.val 4 (.agg #[.int .i64 b1.1.1, .int .i64 b1.1.2])⟩,
      ⟨[1], [], [], Fct.val 5 (.bool r21)⟩,
      ⟨[2], [], [], Fct.val 6 (.bool r21)⟩,
      ⟨[3], [1], [], Fct.cond r21 (some 7) (Fct.val 7 (.pointer (some ⟨g18, 2, none⟩)))⟩,
      ⟨[3, 4], [], [], Fct.cond r21 (some 8) (Fct.val 8 (.agg #[.int .i64 b1.2.1, .int .i64 b1.2.2]))⟩,
      ⟨[3, 5], [], [], Fct.cond r21 (some 9) (Fct.val 9 (.bool r22))⟩,
      ⟨[3, 6], [], [], Fct.val 10 (.bool (r21 && r22))⟩,
      ⟨[7], [], [], Fct.val 11 (.bool (r21 && r22))⟩,
      ⟨[8], [1], [], Fct.cond (r21 && r22) (some 12) (Fct.val 12 (.pointer (some ⟨g18, 0, none⟩)))⟩,
      ⟨[8, 9], [], [], Fct.cond (r21 && r22) (some 13) (Fct.val 13 (.pointer (some ⟨g18, 0, none⟩)))⟩,
      ⟨[8, 10], [], [], Fct.cond (r21 && r22) (some 14) (Fct.val 14 (.int .i64 b1.1.1))⟩,
      ⟨[8], [1], [], Fct.cond (r21 && r22) (some 15) (Fct.val 15 (.pointer (some ⟨g18, 2, none⟩)))⟩,
      ⟨[8, 12], [], [], Fct.cond (r21 && r22) (some 16) (Fct.val 16 (.pointer (some ⟨g18, 2, none⟩)))⟩,
      ⟨[8, 13], [], [], Fct.cond (r21 && r22) (some 17) (Fct.val 17 (.int .i64 b1.2.1))⟩,
      ⟨[8, 11, 14], [], [], Fct.cond (r21 && r22) (some 18) (Fct.val 18 (.bool (decide (b1.1.1 ≤ b1.2.1))))⟩,
      ⟨[8, 15], [], [], Fct.val 19 (.bool x23)⟩,
      ⟨[16], [], [], Fct.val 20 (.bool x23)⟩,
      ⟨[17], [1], [], Fct.cond x23 (some 21) (Fct.val 21 (.pointer (some ⟨g18, 0, none⟩)))⟩,
      ⟨[17, 18], [], [], Fct.cond x23 (some 22) (Fct.val 22 (.pointer (some ⟨g18, 1, none⟩)))⟩,
      ⟨[17, 19], [], [], Fct.cond x23 (some 23) (Fct.val 23 (.int .i64 b1.1.2))⟩,
      ⟨[17], [1], [], Fct.cond x23 (some 24) (Fct.val 24 (.pointer (some ⟨g18, 2, none⟩)))⟩,
      ⟨[17, 21], [], [], Fct.cond x23 (some 25) (Fct.val 25 (.pointer (some ⟨g18, 3, none⟩)))⟩,
      ⟨[17, 22], [], [], Fct.cond x23 (some 26) (Fct.val 26 (.int .i64 b1.2.2))⟩,
      ⟨[17, 20, 23], [], [], Fct.cond x23 (some 27) (Fct.val 27 (.bool (decide (b1.1.2 ≤ b1.2.2))))⟩,
      ⟨[17, 24], [], [], Fct.val 28 (.bool (x23 && (decide (b1.1.2 ≤ b1.2.2))))⟩,
      ⟨[25], [], [], Fct.val 2 (.bool (x23 && (decide (b1.1.2 ≤ b1.2.2))))⟩]) (by kernel_rfl) hz20 hd20 (fun _ h => nomatch h) ?_ ?_
  · refine steps_cons (fun own a wx hf hsl hE => ?_) ?_
    · obtain ⟨s_1, -⟩ := hsl
      exact sg_plain rfl rfl (or_field fo45_0 (s_1.trans e20_1) (by rfl))
    refine steps_cons (fun own a wx hf hsl hE => ?_) ?_
    · obtain ⟨(f_3 : a.eval (.tmp 3) = .pointer (some ⟨g18, 0, none⟩)), -⟩ := hf
      exact sg_plain rfl rfl (or_load (l := [.int .i64 b1.1.1, .int .i64 b1.1.2]) ta43 f_3 (Blk.cellsFrom (BlkO.evo (by decide) hE b20_g18).2 0 rfl) rfl)
    refine steps_cons (fun own a wx hf hsl hE => ?_) ?_
    · obtain ⟨(f_4 : a.eval (.tmp 4) = .agg #[.int .i64 b1.1.1, .int .i64 b1.1.2]), -⟩ := hf
      exact sg_plain rfl rfl (or_call cf31 (args1 f_4) (ref01_May_w _ b1.1  r21 hr21) post_val)
    refine steps_cons (fun own a wx hf hsl hE => ?_) ?_
    · obtain ⟨(f_5 : a.eval (.tmp 5) = .bool r21), -⟩ := hf
      exact sg_plain rfl rfl (or_move f_5)
    refine steps_cons (fun own a wx hf hsl hE => ?_) ?_
    · obtain ⟨(f_6 : a.eval (.tmp 6) = .bool r21), -⟩ := hf
      obtain ⟨s_1, -⟩ := hsl
      refine sg_t rfl rfl rfl f_6 (fun hg => ?_)
      exact or_field fo45_1 (s_1.trans e20_1) (by rfl)
    refine steps_cons (fun own a wx hf hsl hE => ?_) ?_
    · obtain ⟨(f_6 : a.eval (.tmp 6) = .bool r21), c_7, -⟩ := hf
      refine sg_t rfl rfl rfl f_6 (fun hg => ?_)
      have f_7 : a.eval (.tmp 7) = .pointer (some ⟨g18, 2, none⟩) := c_7.1 hg
      exact or_load (l := [.int .i64 b1.2.1, .int .i64 b1.2.2]) ta43 f_7 (Blk.cellsFrom (BlkO.evo (by decide) hE b20_g18).2 2 rfl) rfl
    refine steps_cons (fun own a wx hf hsl hE => ?_) ?_
    · obtain ⟨(f_6 : a.eval (.tmp 6) = .bool r21), c_8, -⟩ := hf
      refine sg_t rfl rfl rfl f_6 (fun hg => ?_)
      have f_8 : a.eval (.tmp 8) = .agg #[.int .i64 b1.2.1, .int .i64 b1.2.2] := c_8.1 hg
      exact or_call cf31 (args1 f_8) (ref01_May_w _ b1.2  r22 (gd_t hr22 hg)) post_val
    refine steps_cons (fun own a wx hf hsl hE => ?_) ?_
    · obtain ⟨(f_6 : a.eval (.tmp 6) = .bool r21), c_9, -⟩ := hf
      exact sg_plain rfl rfl (or_and f_6 (fun hx => c_9.1 hx) rfl rfl)
    refine steps_cons (fun own a wx hf hsl hE => ?_) ?_
    · obtain ⟨(f_10 : a.eval (.tmp 10) = .bool (r21 && r22)), -⟩ := hf
      exact sg_plain rfl rfl (or_move f_10)
    refine steps_cons (fun own a wx hf hsl hE => ?_) ?_
    · obtain ⟨(f_11 : a.eval (.tmp 11) = .bool (r21 && r22)), -⟩ := hf
      obtain ⟨s_1, -⟩ := hsl
      refine sg_t rfl rfl rfl f_11 (fun hg => ?_)
      exact or_field fo45_0 (s_1.trans e20_1) (by rfl)
    refine steps_cons (fun own a wx hf hsl hE => ?_) ?_
    · obtain ⟨(f_11 : a.eval (.tmp 11) = .bool (r21 && r22)), c_12, -⟩ := hf
      refine sg_t rfl rfl rfl f_11 (fun hg => ?_)
      have f_12 : a.eval (.tmp 12) = .pointer (some ⟨g18, 0, none⟩) := c_12.1 hg
      exact or_field fo43_0 f_12 (by rfl)
    refine steps_cons (fun own a wx hf hsl hE => ?_) ?_
    · obtain ⟨(f_11 : a.eval (.tmp 11) = .bool (r21 && r22)), c_13, -⟩ := hf
      refine sg_t rfl rfl rfl f_11 (fun hg => ?_)
      have f_13 : a.eval (.tmp 13) = .pointer (some ⟨g18, 0, none⟩) := c_13.1 hg
      exact or_load1 to3 f_13 (Blk.at_ (BlkO.evo (by decide) hE b20_g18).2 0 rfl)
    refine steps_cons (fun own a wx hf hsl hE => ?_) ?_
    · obtain ⟨(f_11 : a.eval (.tmp 11) = .bool (r21 && r22)), -⟩ := hf
      obtain ⟨s_1, -⟩ := hsl
      refine sg_t rfl rfl rfl f_11 (fun hg => ?_)
      exact or_field fo45_1 (s_1.trans e20_1) (by rfl)
    refine steps_cons (fun own a wx hf hsl hE => ?_) ?_
    · obtain ⟨(f_11 : a.eval (.tmp 11) = .bool (r21 && r22)), c_15, -⟩ := hf
      refine sg_t rfl rfl rfl f_11 (fun hg => ?_)
      have f_15 : a.eval (.tmp 15) = .pointer (some ⟨g18, 2, none⟩) := c_15.1 hg
      exact or_field fo43_0 f_15 (by rfl)
    refine steps_cons (fun own a wx hf hsl hE => ?_) ?_
    · obtain ⟨(f_11 : a.eval (.tmp 11) = .bool (r21 && r22)), c_16, -⟩ := hf
      refine sg_t rfl rfl rfl f_11 (fun hg => ?_)
      have f_16 : a.eval (.tmp 16) = .pointer (some ⟨g18, 2, none⟩) := c_16.1 hg
      exact or_load1 to3 f_16 (Blk.at_ (BlkO.evo (by decide) hE b20_g18).2 2 rfl)
    refine steps_cons (fun own a wx hf hsl hE => ?_) ?_
    · obtain ⟨(f_11 : a.eval (.tmp 11) = .bool (r21 && r22)), c_14, c_17, -⟩ := hf
      refine sg_t rfl rfl rfl f_11 (fun hg => ?_)
      have f_14 : a.eval (.tmp 14) = .int .i64 b1.1.1 := c_14.1 hg
      have f_17 : a.eval (.tmp 17) = .int .i64 b1.2.1 := c_17.1 hg
      exact or_leq f_14 f_17 rfl
    refine steps_cons (fun own a wx hf hsl hE => ?_) ?_
    · obtain ⟨(f_11 : a.eval (.tmp 11) = .bool (r21 && r22)), c_18, -⟩ := hf
      exact sg_plain rfl rfl (or_and f_11 (fun hx => c_18.1 hx) rfl (osome hx23).symm)
    refine steps_cons (fun own a wx hf hsl hE => ?_) ?_
    · obtain ⟨(f_19 : a.eval (.tmp 19) = .bool x23), -⟩ := hf
      exact sg_plain rfl rfl (or_move f_19)
    refine steps_cons (fun own a wx hf hsl hE => ?_) ?_
    · obtain ⟨(f_20 : a.eval (.tmp 20) = .bool x23), -⟩ := hf
      obtain ⟨s_1, -⟩ := hsl
      refine sg_t rfl rfl rfl f_20 (fun hg => ?_)
      exact or_field fo45_0 (s_1.trans e20_1) (by rfl)
    refine steps_cons (fun own a wx hf hsl hE => ?_) ?_
    · obtain ⟨(f_20 : a.eval (.tmp 20) = .bool x23), c_21, -⟩ := hf
      refine sg_t rfl rfl rfl f_20 (fun hg => ?_)
      have f_21 : a.eval (.tmp 21) = .pointer (some ⟨g18, 0, none⟩) := c_21.1 hg
      exact or_field fo43_1 f_21 (by rfl)
    refine steps_cons (fun own a wx hf hsl hE => ?_) ?_
    · obtain ⟨(f_20 : a.eval (.tmp 20) = .bool x23), c_22, -⟩ := hf
      refine sg_t rfl rfl rfl f_20 (fun hg => ?_)
      have f_22 : a.eval (.tmp 22) = .pointer (some ⟨g18, 1, none⟩) := c_22.1 hg
      exact or_load1 to3 f_22 (Blk.at_ (BlkO.evo (by decide) hE b20_g18).2 1 rfl)
    refine steps_cons (fun own a wx hf hsl hE => ?_) ?_
    · obtain ⟨(f_20 : a.eval (.tmp 20) = .bool x23), -⟩ := hf
      obtain ⟨s_1, -⟩ := hsl
      refine sg_t rfl rfl rfl f_20 (fun hg => ?_)
      exact or_field fo45_1 (s_1.trans e20_1) (by rfl)
    refine steps_cons (fun own a wx hf hsl hE => ?_) ?_
    · obtain ⟨(f_20 : a.eval (.tmp 20) = .bool x23), c_24, -⟩ := hf
      refine sg_t rfl rfl rfl f_20 (fun hg => ?_)
      have f_24 : a.eval (.tmp 24) = .pointer (some ⟨g18, 2, none⟩) := c_24.1 hg
      exact or_field fo43_1 f_24 (by rfl)
    refine steps_cons (fun own a wx hf hsl hE => ?_) ?_
    · obtain ⟨(f_20 : a.eval (.tmp 20) = .bool x23), c_25, -⟩ := hf
      refine sg_t rfl rfl rfl f_20 (fun hg => ?_)
      have f_25 : a.eval (.tmp 25) = .pointer (some ⟨g18, 3, none⟩) := c_25.1 hg
      exact or_load1 to3 f_25 (Blk.at_ (BlkO.evo (by decide) hE b20_g18).2 3 rfl)
    refine steps_cons (fun own a wx hf hsl hE => ?_) ?_
    · obtain ⟨(f_20 : a.eval (.tmp 20) = .bool x23), c_23, c_26, -⟩ := hf
      refine sg_t rfl rfl rfl f_20 (fun hg => ?_)
      have f_23 : a.eval (.tmp 23) = .int .i64 b1.1.2 := c_23.1 hg
      have f_26 : a.eval (.tmp 26) = .int .i64 b1.2.2 := c_26.1 hg
      exact or_leq f_23 f_26 rfl
    refine steps_cons (fun own a wx hf hsl hE => ?_) ?_
    · obtain ⟨(f_20 : a.eval (.tmp 20) = .bool x23), c_27, -⟩ := hf
      exact sg_plain rfl rfl (or_and f_20 (fun hx => c_27.1 hx) rfl rfl)
    refine steps_cons (fun own a wx hf hsl hE => ?_) ?_
    · obtain ⟨(f_28 : a.eval (.tmp 28) = .bool (x23 && (decide (b1.1.2 ≤ b1.2.2)))), -⟩ := hf
      exact sg_plain rfl rfl (or_assign f_28)
    exact steps_nil
  intro own24 a24 w24 hd24 hz24 hk24 hf24 hE24
  obtain ⟨(f_2 : a24.eval (.tmp 2) = .bool (x23 && (decide (b1.1.2 ≤ b1.2.2)))), -⟩ := hf24 [26] rfl
  have e24_2 := f_2
  have hX24 := Evo.step hX20 (fun _ => Nat.le_refl 0) hE24 rfl
  refine fl_ret ?_
  obtain rfl := osome hs
  exact hret _ _ _ _ (.inl rfl) hd24 (results1_ rfl (RVal.tmp_ e24_2)) ⟨own24, rfl, hX24⟩

theorem ref06_Meet_w (w : World) (x1 : (Int × Int) × (Int × Int)) (b2 : (Int × Int) × (Int × Int)) (r : Bool) (hs : ref06_Meet x1 b2 = some r) :
    Calls Try.prog 16 #[.agg #[.int .i64 x1.1.1, .int .i64 x1.1.2, .int .i64 x1.2.1, .int .i64 x1.2.2], .agg #[.int .i64 b2.1.1, .int .i64 b2.1.2, .int .i64 b2.2.1, .int .i64 b2.2.2]] w fun e w' => ∃ own' : Own, e = .returned (.bool r) ∧ Evo [] (fun _ => 0) own' w w' := by
  refine fl_enter (n := 53) rfl rfl rfl (Nat.le_of_ble_eq_true rfl) ?_
  intro a0 Q hd0 hz0 harg hret
  have ha0 := harg 0 _ rfl
  have ha1 := harg 1 _ rfl
  clear harg
  have hE0 : Evo [] (fun _ => 0) (fun _ => 0) w w := Evo.refl _ _ _
  refine rg_plain_seq (n := 53) (rs := []) (own0 := (fun _ => 0)) (K := [])
      (bs := [0, 0, 0])
      (ds := [⟨[], [0], [], Fct.blk 27 2 (fun g => .pointer (some ⟨g, 0, none⟩)) 45 #[.int .i64 x1.1.1, .int .i64 x1.1.2, .int .i64 x1.2.1, .int .i64 x1.2.2]⟩,
      ⟨[], [1], [], Fct.blk 29 3 (fun g => .pointer (some ⟨g, 0, none⟩)) 45 #[.int .i64 b2.1.1, .int .i64 b2.1.2, .int .i64 b2.2.1, .int .i64 b2.2.2]⟩,
      ⟨[], [], [], Fct.val 4 (.bool false)⟩]) (by kernel_rfl) hz0 hd0 (fun _ h => nomatch h) ?_ ?_
  · refine steps_cons (fun own a wx hf hsl hE => ?_) ?_
    · obtain ⟨s_0, -⟩ := hsl
      exact sg_plain rfl rfl (or_new [(0, .agg #[.int .i64 x1.1.1, .int .i64 x1.1.2, .int .i64 x1.2.1, .int .i64 x1.2.2])] rfl rfl ⟨(s_0.trans ha0), trivial⟩ (by kernel_rfl))
    refine steps_cons (fun own a wx hf hsl hE => ?_) ?_
    · obtain ⟨s_1, -⟩ := hsl
      exact sg_plain rfl rfl (or_new [(1, .agg #[.int .i64 b2.1.1, .int .i64 b2.1.2, .int .i64 b2.2.1, .int .i64 b2.2.2])] rfl rfl ⟨(s_1.trans ha1), trivial⟩ (by kernel_rfl))
    refine steps_cons (fun own a wx hf hsl hE => ?_) ?_
    · exact sg_plain rfl rfl (or_assign rfl)
    exact steps_nil
  intro own30 a30 w30 hd30 hz30 hk30 hf30 hE30
  obtain ⟨⟨g26, (f_2 : a30.eval (.tmp 2) = .pointer (some ⟨g26, 0, none⟩)), (b_g26 : BlkO own30 27 w30 g26 45 #[.int .i64 x1.1.1, .int .i64 x1.1.2, .int .i64 x1.2.1, .int .i64 x1.2.2])⟩, ⟨g28, (f_3 : a30.eval (.tmp 3) = .pointer (some ⟨g28, 0, none⟩)), (b_g28 : BlkO own30 29 w30 g28 45 #[.int .i64 b2.1.1, .int .i64 b2.1.2, .int .i64 b2.2.1, .int .i64 b2.2.2])⟩, -⟩ := hf30 [0, 1] rfl
  have e30_2 := f_2
  have e30_3 := f_3
  have hX30 := Evo.step hE0 (fun _ => Nat.le_refl 0) hE30 rfl
  have b30_g26 := b_g26
  have b30_g28 := b_g28
  refine fl_seq (fun Q31 hn31 hp31 => ?_)
  obtain ⟨r32, hr32, hs⟩ := obind hs
  obtain ⟨r33, hr33, hs⟩ := obind hs
  refine rg_plain_seq (n := 53) (rs := []) (own0 := own30) (K := [])
      (bs := [0, 1, 3, 7, 15, 31, 63, 127])
      (ds := [⟨[], [2], [], Fct.val 9 (.agg #[.int .i64 x1.1.1, .int .i64 x1.1.2, .int .i64 x1.2.1, .int .i64 x1.2.2])⟩,
      ⟨[0], [], [], Fct.val 10 (.bool r32)⟩,
      ⟨[1], [], [], Fct.val 11 (.bool (!r32))⟩,
      ⟨[2], [], [], Fct.val 12 (.bool (!r32))⟩,
      ⟨[3], [3], [], Fct.cond (!(!r32)) (some 13) (Fct.val 13 (.agg #[.int .i64 b2.1.1, .int .i64 b2.1.2, .int .i64 b2.2.1, .int .i64 b2.2.2]))⟩,
      ⟨[3, 4], [], [], Fct.cond (!(!r32)) (some 14) (Fct.val 14 (.bool r33))⟩,
      ⟨[3, 5], [], [], Fct.cond (!(!r32)) (some 15) (Fct.val 15 (.bool (!r33)))⟩,
      ⟨[3, 6], [], [], Fct.val 16 (.bool ((!r32) || (!r33)))⟩]) (by kernel_rfl) hz30 hd30 (fun _ h => nomatch h) ?_ ?_
  · refine steps_cons (fun own a wx hf hsl hE => ?_) ?_
    · obtain ⟨s_2, -⟩ := hsl
      exact sg_plain rfl rfl (or_load (l := [.int .i64 x1.1.1, .int .i64 x1.1.2, .int .i64 x1.2.1, .int .i64 x1.2.2]) ta45 (s_2.trans e30_2) (Blk.cellsFrom (BlkO.evo (by decide) hE b30_g26).2 0 rfl) rfl)
    refine steps_cons (fun own a wx hf hsl hE => ?_) ?_
    · obtain ⟨(f_9 : a.eval (.tmp 9) = .agg #[.int .i64 x1.1.1, .int .i64 x1.1.2, .int .i64 x1.2.1, .int .i64 x1.2.2]), -⟩ := hf
      exact sg_plain rfl rfl (or_call cf24 (args1 f_9) (ref06_Right_w _ x1  r32 hr32) post_val)
    refine steps_cons (fun own a wx hf hsl hE => ?_) ?_
    · obtain ⟨(f_10 : a.eval (.tmp 10) = .bool r32), -⟩ := hf
      exact sg_plain rfl rfl (or_not f_10 rfl)
    refine steps_cons (fun own a wx hf hsl hE => ?_) ?_
    · obtain ⟨(f_11 : a.eval (.tmp 11) = .bool (!r32)), -⟩ := hf
      exact sg_plain rfl rfl (or_move f_11)
    refine steps_cons (fun own a wx hf hsl hE => ?_) ?_
    · obtain ⟨(f_12 : a.eval (.tmp 12) = .bool (!r32)), -⟩ := hf
      obtain ⟨s_3, -⟩ := hsl
      refine sg_f rfl rfl rfl f_12 (fun hg => ?_)
      exact or_load (l := [.int .i64 b2.1.1, .int .i64 b2.1.2, .int .i64 b2.2.1, .int .i64 b2.2.2]) ta45 (s_3.trans e30_3) (Blk.cellsFrom (BlkO.evo (by decide) hE b30_g28).2 0 rfl) rfl
    refine steps_cons (fun own a wx hf hsl hE => ?_) ?_
    · obtain ⟨(f_12 : a.eval (.tmp 12) = .bool (!r32)), c_13, -⟩ := hf
      refine sg_f rfl rfl rfl f_12 (fun hg => ?_)
      have f_13 : a.eval (.tmp 13) = .agg #[.int .i64 b2.1.1, .int .i64 b2.1.2, .int .i64 b2.2.1, .int .i64 b2.2.2] := c_13.1 hg
      exact or_call cf24 (args1 f_13) (ref06_Right_w _ b2  r33 (gd_t hr33 hg)) post_val
    refine steps_cons (fun own a wx hf hsl hE => ?_) ?_
    · obtain ⟨(f_12 : a.eval (.tmp 12) = .bool (!r32)), c_14, -⟩ := hf
      refine sg_f rfl rfl rfl f_12 (fun hg => ?_)
      have f_14 : a.eval (.tmp 14) = .bool r33 := c_14.1 hg
      exact or_not f_14 rfl
    refine steps_cons (fun own a wx hf hsl hE => ?_) ?_
    · obtain ⟨(f_12 : a.eval (.tmp 12) = .bool (!r32)), c_15, -⟩ := hf
      exact sg_plain rfl rfl (or_or f_12 rfl (fun hx => c_15.1 hx) rfl)
    exact steps_nil
  intro own34 a34 w34 hd34 hz34 hk34 hf34 hE34
  have e34_2 : a34.eval (.tmp 2) = .pointer (some ⟨g26, 0, none⟩) := (hk34 2 rfl).trans e30_2
  have e34_3 : a34.eval (.tmp 3) = .pointer (some ⟨g28, 0, none⟩) := (hk34 3 rfl).trans e30_3
  obtain ⟨(f_16 : a34.eval (.tmp 16) = .bool ((!r32) || (!r33))), -⟩ := hf34 [7] rfl
  have e34_16 := f_16
  have hX34 := Evo.step hX30 (fun _ => Nat.le_refl 0) hE34 rfl
  have b34_g26 := BlkO.evo (by decide) hE34 b30_g26
  have b34_g28 := BlkO.evo (by decide) hE34 b30_g28
  refine fl_cond e34_16 hs (fun c35 hs => ?_) (fun c35 hs => ?_)
  · refine rg_plain_seq (n := 53) (rs := []) (own0 := own34) (K := [])
        (bs := [0])
        (ds := [⟨[], [], [], Fct.val 4 (.bool false)⟩]) (by kernel_rfl) hz34 hd34 (fun _ h => nomatch h) ?_ ?_
    · refine steps_cons (fun own a wx hf hsl hE => ?_) ?_
      · exact sg_plain rfl rfl (or_assign rfl)
      exact steps_nil
    intro own36 a36 w36 hd36 hz36 hk36 hf36 hE36
    obtain ⟨(f_4 : a36.eval (.tmp 4) = .bool false), -⟩ := hf36 [0] rfl
    have e36_4 := f_4
    have hX36 := Evo.step hX34 (fun _ => Nat.le_refl 0) hE36 rfl
    refine fl_ret ?_
    refine hp31 _ _ _ rfl ?_
    obtain rfl := osome hs
    exact hret _ _ _ _ (.inl rfl) hd36 (results1_ rfl (RVal.tmp_ e36_4)) ⟨own36, rfl, hX36⟩
  refine fl_skip ?_
  refine hn31 _ _ ?_
  refine rg_draw_seq g_mixed (n := 53) (rs := []) (own0 := own34) (K := [])
      (bs := [0, 1, 3, 0, 8, 24, 63, 0, 128, 384, 0, 1024, 3072, 8064, 127, 32767])
      (ds := [⟨[], [2], [], Fct.val 17 (.pointer (some ⟨g26, 0, none⟩))⟩,
      ⟨[0], [], [], Fct.val 18 (.pointer (some ⟨g26, 0, none⟩))⟩,
      ⟨[1], [], [], Fct.val 19 (.int .i64 x1.1.1)⟩,
      ⟨[], [3], [], Fct.val 20 (.pointer (some ⟨g28, 0, none⟩))⟩,
      ⟨[3], [], [], Fct.val 21 (.pointer (some ⟨g28, 0, none⟩))⟩,
      ⟨[4], [], [], Fct.val 22 (.int .i64 b2.1.1)⟩,
      ⟨[2, 5], [], [], Fct.val 23 (.int .i64 (mx x1.1.1 b2.1.1))⟩,
      ⟨[], [2], [], Fct.val 24 (.pointer (some ⟨g26, 2, none⟩))⟩,
      ⟨[7], [], [], Fct.val 25 (.pointer (some ⟨g26, 2, none⟩))⟩,
      ⟨[8], [], [], Fct.val 26 (.int .i64 x1.2.1)⟩,
      ⟨[], [3], [], Fct.val 27 (.pointer (some ⟨g28, 2, none⟩))⟩,
      ⟨[10], [], [], Fct.val 28 (.pointer (some ⟨g28, 2, none⟩))⟩,
      ⟨[11], [], [], Fct.val 29 (.int .i64 b2.2.1)⟩,
      ⟨[9, 12], [], [], Fct.val 30 (.int .i64 (mn x1.2.1 b2.2.1))⟩,
      ⟨[6], [], [], Fct.val 5 (.int .i64 (mx x1.1.1 b2.1.1))⟩,
      ⟨[13], [], [], Fct.val 6 (.int .i64 (mn x1.2.1 b2.2.1))⟩]) (by kernel_rfl) hz34 hd34 (fun _ h => nomatch h) ?_ ?_
  · refine steps_cons (fun own a wx hf hsl hE => ?_) ?_
    · obtain ⟨s_2, -⟩ := hsl
      exact sg_plain rfl rfl (or_field fo45_0 (s_2.trans e34_2) (by rfl))
    refine steps_cons (fun own a wx hf hsl hE => ?_) ?_
    · obtain ⟨(f_17 : a.eval (.tmp 17) = .pointer (some ⟨g26, 0, none⟩)), -⟩ := hf
      exact sg_plain rfl rfl (or_field fo43_0 f_17 (by rfl))
    refine steps_cons (fun own a wx hf hsl hE => ?_) ?_
    · obtain ⟨(f_18 : a.eval (.tmp 18) = .pointer (some ⟨g26, 0, none⟩)), -⟩ := hf
      exact sg_plain rfl rfl (or_load1 to3 f_18 (Blk.at_ (BlkO.evo (by decide) hE b34_g26).2 0 rfl))
    refine steps_cons (fun own a wx hf hsl hE => ?_) ?_
    · obtain ⟨s_3, -⟩ := hsl
      exact sg_plain rfl rfl (or_field fo45_0 (s_3.trans e34_3) (by rfl))
    refine steps_cons (fun own a wx hf hsl hE => ?_) ?_
    · obtain ⟨(f_20 : a.eval (.tmp 20) = .pointer (some ⟨g28, 0, none⟩)), -⟩ := hf
      exact sg_plain rfl rfl (or_field fo43_0 f_20 (by rfl))
    refine steps_cons (fun own a wx hf hsl hE => ?_) ?_
    · obtain ⟨(f_21 : a.eval (.tmp 21) = .pointer (some ⟨g28, 0, none⟩)), -⟩ := hf
      exact sg_plain rfl rfl (or_load1 to3 f_21 (Blk.at_ (BlkO.evo (by decide) hE b34_g28).2 0 rfl))
    refine steps_cons (fun own a wx hf hsl hE => ?_) ?_
    · obtain ⟨(f_19 : a.eval (.tmp 19) = .int .i64 x1.1.1), (f_22 : a.eval (.tmp 22) = .int .i64 b2.1.1), -⟩ := hf
      exact sg_plain rfl rfl (or_max f_19 f_22)
    refine steps_cons (fun own a wx hf hsl hE => ?_) ?_
    · obtain ⟨s_2, -⟩ := hsl
      exact sg_plain rfl rfl (or_field fo45_1 (s_2.trans e34_2) (by rfl))
    refine steps_cons (fun own a wx hf hsl hE => ?_) ?_
    · obtain ⟨(f_24 : a.eval (.tmp 24) = .pointer (some ⟨g26, 2, none⟩)), -⟩ := hf
      exact sg_plain rfl rfl (or_field fo43_0 f_24 (by rfl))
    refine steps_cons (fun own a wx hf hsl hE => ?_) ?_
    · obtain ⟨(f_25 : a.eval (.tmp 25) = .pointer (some ⟨g26, 2, none⟩)), -⟩ := hf
      exact sg_plain rfl rfl (or_load1 to3 f_25 (Blk.at_ (BlkO.evo (by decide) hE b34_g26).2 2 rfl))
    refine steps_cons (fun own a wx hf hsl hE => ?_) ?_
    · obtain ⟨s_3, -⟩ := hsl
      exact sg_plain rfl rfl (or_field fo45_1 (s_3.trans e34_3) (by rfl))
    refine steps_cons (fun own a wx hf hsl hE => ?_) ?_
    · obtain ⟨(f_27 : a.eval (.tmp 27) = .pointer (some ⟨g28, 2, none⟩)), -⟩ := hf
      exact sg_plain rfl rfl (or_field fo43_0 f_27 (by rfl))
    refine steps_cons (fun own a wx hf hsl hE => ?_) ?_
    · obtain ⟨(f_28 : a.eval (.tmp 28) = .pointer (some ⟨g28, 2, none⟩)), -⟩ := hf
      exact sg_plain rfl rfl (or_load1 to3 f_28 (Blk.at_ (BlkO.evo (by decide) hE b34_g28).2 2 rfl))
    refine steps_cons (fun own a wx hf hsl hE => ?_) ?_
    · obtain ⟨(f_26 : a.eval (.tmp 26) = .int .i64 x1.2.1), (f_29 : a.eval (.tmp 29) = .int .i64 b2.2.1), -⟩ := hf
      exact sg_plain rfl rfl (or_min f_26 f_29)
    refine steps_cons (fun own a wx hf hsl hE => ?_) ?_
    · obtain ⟨(f_23 : a.eval (.tmp 23) = .int .i64 (mx x1.1.1 b2.1.1)), -⟩ := hf
      exact sg_plain rfl rfl (or_assign f_23)
    refine steps_cons (fun own a wx hf hsl hE => ?_) ?_
    · obtain ⟨(f_30 : a.eval (.tmp 30) = .int .i64 (mn x1.2.1 b2.2.1)), -⟩ := hf
      exact sg_plain rfl rfl (or_assign f_30)
    exact steps_nil
  intro own37 a37 w37 hd37 hz37 hk37 hf37 hE37
  have e37_2 : a37.eval (.tmp 2) = .pointer (some ⟨g26, 0, none⟩) := (hk37 2 rfl).trans e34_2
  have e37_3 : a37.eval (.tmp 3) = .pointer (some ⟨g28, 0, none⟩) := (hk37 3 rfl).trans e34_3
  obtain ⟨(f_5 : a37.eval (.tmp 5) = .int .i64 (mx x1.1.1 b2.1.1)), (f_6 : a37.eval (.tmp 6) = .int .i64 (mn x1.2.1 b2.2.1)), -⟩ := hf37 [14, 15] rfl
  have e37_5 := f_5
  have e37_6 := f_6
  have hX37 := Evo.step hX34 (fun _ => Nat.le_refl 0) hE37 rfl
  have b37_g26 := BlkO.evo (by decide) hE37 b34_g26
  have b37_g28 := BlkO.evo (by decide) hE37 b34_g28
  refine rg_draw_seq g_mixed (n := 53) (rs := []) (own0 := own37) (K := [])
      (bs := [0, 1, 3, 0, 8, 24, 63, 0, 128, 384, 0, 1024, 3072, 8064, 127, 32767])
      (ds := [⟨[], [2], [], Fct.val 31 (.pointer (some ⟨g26, 0, none⟩))⟩,
      ⟨[0], [], [], Fct.val 32 (.pointer (some ⟨g26, 1, none⟩))⟩,
      ⟨[1], [], [], Fct.val 33 (.int .i64 x1.1.2)⟩,
      ⟨[], [3], [], Fct.val 34 (.pointer (some ⟨g28, 0, none⟩))⟩,
      ⟨[3], [], [], Fct.val 35 (.pointer (some ⟨g28, 1, none⟩))⟩,
      ⟨[4], [], [], Fct.val 36 (.int .i64 b2.1.2)⟩,
      ⟨[2, 5], [], [], Fct.val 37 (.int .i64 (mx x1.1.2 b2.1.2))⟩,
      ⟨[], [2], [], Fct.val 38 (.pointer (some ⟨g26, 2, none⟩))⟩,
      ⟨[7], [], [], Fct.val 39 (.pointer (some ⟨g26, 3, none⟩))⟩,
      ⟨[8], [], [], Fct.val 40 (.int .i64 x1.2.2)⟩,
      ⟨[], [3], [], Fct.val 41 (.pointer (some ⟨g28, 2, none⟩))⟩,
      ⟨[10], [], [], Fct.val 42 (.pointer (some ⟨g28, 3, none⟩))⟩,
      ⟨[11], [], [], Fct.val 43 (.int .i64 b2.2.2)⟩,
      ⟨[9, 12], [], [], Fct.val 44 (.int .i64 (mn x1.2.2 b2.2.2))⟩,
      ⟨[6], [], [], Fct.val 7 (.int .i64 (mx x1.1.2 b2.1.2))⟩,
      ⟨[13], [], [], Fct.val 8 (.int .i64 (mn x1.2.2 b2.2.2))⟩]) (by kernel_rfl) hz37 hd37 (fun _ h => nomatch h) ?_ ?_
  · refine steps_cons (fun own a wx hf hsl hE => ?_) ?_
    · obtain ⟨s_2, -⟩ := hsl
      exact sg_plain rfl rfl (or_field fo45_0 (s_2.trans e37_2) (by rfl))
    refine steps_cons (fun own a wx hf hsl hE => ?_) ?_
    · obtain ⟨(f_31 : a.eval (.tmp 31) = .pointer (some ⟨g26, 0, none⟩)), -⟩ := hf
      exact sg_plain rfl rfl (or_field fo43_1 f_31 (by rfl))
    refine steps_cons (fun own a wx hf hsl hE => ?_) ?_
    · obtain ⟨(f_32 : a.eval (.tmp 32) = .pointer (some ⟨g26, 1, none⟩)), -⟩ := hf
      exact sg_plain rfl rfl (or_load1 to3 f_32 (Blk.at_ (BlkO.evo (by decide) hE b37_g26).2 1 rfl))
    refine steps_cons (fun own a wx hf hsl hE => ?_) ?_
    · obtain ⟨s_3, -⟩ := hsl
      exact sg_plain rfl rfl (or_field fo45_0 (s_3.trans e37_3) (by rfl))
    refine steps_cons (fun own a wx hf hsl hE => ?_) ?_
    · obtain ⟨(f_34 : a.eval (.tmp 34) = .pointer (some ⟨g28, 0, none⟩)), -⟩ := hf
      exact sg_plain rfl rfl (or_field fo43_1 f_34 (by rfl))
    refine steps_cons (fun own a wx hf hsl hE => ?_) ?_
    · obtain ⟨(f_35 : a.eval (.tmp 35) = .pointer (some ⟨g28, 1, none⟩)), -⟩ := hf
      exact sg_plain rfl rfl (or_load1 to3 f_35 (Blk.at_ (BlkO.evo (by decide) hE b37_g28).2 1 rfl))
    refine steps_cons (fun own a wx hf hsl hE => ?_) ?_
    · obtain ⟨(f_33 : a.eval (.tmp 33) = .int .i64 x1.1.2), (f_36 : a.eval (.tmp 36) = .int .i64 b2.1.2), -⟩ := hf
      exact sg_plain rfl rfl (or_max f_33 f_36)
    refine steps_cons (fun own a wx hf hsl hE => ?_) ?_
    · obtain ⟨s_2, -⟩ := hsl
      exact sg_plain rfl rfl (or_field fo45_1 (s_2.trans e37_2) (by rfl))
    refine steps_cons (fun own a wx hf hsl hE => ?_) ?_
    · obtain ⟨(f_38 : a.eval (.tmp 38) = .pointer (some ⟨g26, 2, none⟩)), -⟩ := hf
      exact sg_plain rfl rfl (or_field fo43_1 f_38 (by rfl))
    refine steps_cons (fun own a wx hf hsl hE => ?_) ?_
    · obtain ⟨(f_39 : a.eval (.tmp 39) = .pointer (some ⟨g26, 3, none⟩)), -⟩ := hf
      exact sg_plain rfl rfl (or_load1 to3 f_39 (Blk.at_ (BlkO.evo (by decide) hE b37_g26).2 3 rfl))
    refine steps_cons (fun own a wx hf hsl hE => ?_) ?_
    · obtain ⟨s_3, -⟩ := hsl
      exact sg_plain rfl rfl (or_field fo45_1 (s_3.trans e37_3) (by rfl))
    refine steps_cons (fun own a wx hf hsl hE => ?_) ?_
    · obtain ⟨(f_41 : a.eval (.tmp 41) = .pointer (some ⟨g28, 2, none⟩)), -⟩ := hf
      exact sg_plain rfl rfl (or_field fo43_1 f_41 (by rfl))
    refine steps_cons (fun own a wx hf hsl hE => ?_) ?_
    · obtain ⟨(f_42 : a.eval (.tmp 42) = .pointer (some ⟨g28, 3, none⟩)), -⟩ := hf
      exact sg_plain rfl rfl (or_load1 to3 f_42 (Blk.at_ (BlkO.evo (by decide) hE b37_g28).2 3 rfl))
    refine steps_cons (fun own a wx hf hsl hE => ?_) ?_
    · obtain ⟨(f_40 : a.eval (.tmp 40) = .int .i64 x1.2.2), (f_43 : a.eval (.tmp 43) = .int .i64 b2.2.2), -⟩ := hf
      exact sg_plain rfl rfl (or_min f_40 f_43)
    refine steps_cons (fun own a wx hf hsl hE => ?_) ?_
    · obtain ⟨(f_37 : a.eval (.tmp 37) = .int .i64 (mx x1.1.2 b2.1.2)), -⟩ := hf
      exact sg_plain rfl rfl (or_assign f_37)
    refine steps_cons (fun own a wx hf hsl hE => ?_) ?_
    · obtain ⟨(f_44 : a.eval (.tmp 44) = .int .i64 (mn x1.2.2 b2.2.2)), -⟩ := hf
      exact sg_plain rfl rfl (or_assign f_44)
    exact steps_nil
  intro own38 a38 w38 hd38 hz38 hk38 hf38 hE38
  have e38_5 : a38.eval (.tmp 5) = .int .i64 (mx x1.1.1 b2.1.1) := (hk38 5 rfl).trans e37_5
  have e38_6 : a38.eval (.tmp 6) = .int .i64 (mn x1.2.1 b2.2.1) := (hk38 6 rfl).trans e37_6
  obtain ⟨(f_7 : a38.eval (.tmp 7) = .int .i64 (mx x1.1.2 b2.1.2)), (f_8 : a38.eval (.tmp 8) = .int .i64 (mn x1.2.2 b2.2.2)), -⟩ := hf38 [14, 15] rfl
  have e38_7 := f_7
  have e38_8 := f_8
  have hX38 := Evo.step hX37 (fun _ => Nat.le_refl 0) hE38 rfl
  obtain ⟨x39, hx39, hs⟩ := obind hs
  refine rg_plain_seq (n := 53) (rs := []) (own0 := own38) (K := [])
      (bs := [0, 0, 3, 7, 15, 15, 63, 127, 255])
      (ds := [⟨[], [5], [], Fct.val 45 (.int .i64 (mx x1.1.1 b2.1.1))⟩,
      ⟨[], [6], [], Fct.val 46 (.int .i64 (mn x1.2.1 b2.2.1))⟩,
      ⟨[0, 1], [], [], Fct.val 47 (.bool (decide ((mx x1.1.1 b2.1.1) ≤ (mn x1.2.1 b2.2.1))))⟩,
      ⟨[2], [], [], Fct.val 48 (.bool (decide ((mx x1.1.1 b2.1.1) ≤ (mn x1.2.1 b2.2.1))))⟩,
      ⟨[3], [7], [], Fct.cond (decide ((mx x1.1.1 b2.1.1) ≤ (mn x1.2.1 b2.2.1))) (some 49) (Fct.val 49 (.int .i64 (mx x1.1.2 b2.1.2)))⟩,
      ⟨[3], [8], [], Fct.cond (decide ((mx x1.1.1 b2.1.1) ≤ (mn x1.2.1 b2.2.1))) (some 50) (Fct.val 50 (.int .i64 (mn x1.2.2 b2.2.2)))⟩,
      ⟨[3, 4, 5], [], [], Fct.cond (decide ((mx x1.1.1 b2.1.1) ≤ (mn x1.2.1 b2.2.1))) (some 51) (Fct.val 51 (.bool (decide ((mx x1.1.2 b2.1.2) ≤ (mn x1.2.2 b2.2.2)))))⟩,
      ⟨[3, 6], [], [], Fct.val 52 (.bool x39)⟩,
      ⟨[7], [], [], Fct.val 4 (.bool x39)⟩]) (by kernel_rfl) hz38 hd38 (fun _ h => nomatch h) ?_ ?_
  · refine steps_cons (fun own a wx hf hsl hE => ?_) ?_
    · obtain ⟨s_5, -⟩ := hsl
      exact sg_plain rfl rfl (or_move (s_5.trans e38_5))
    refine steps_cons (fun own a wx hf hsl hE => ?_) ?_
    · obtain ⟨s_6, -⟩ := hsl
      exact sg_plain rfl rfl (or_move (s_6.trans e38_6))
    refine steps_cons (fun own a wx hf hsl hE => ?_) ?_
    · obtain ⟨(f_45 : a.eval (.tmp 45) = .int .i64 (mx x1.1.1 b2.1.1)), (f_46 : a.eval (.tmp 46) = .int .i64 (mn x1.2.1 b2.2.1)), -⟩ := hf
      exact sg_plain rfl rfl (or_leq f_45 f_46 rfl)
    refine steps_cons (fun own a wx hf hsl hE => ?_) ?_
    · obtain ⟨(f_47 : a.eval (.tmp 47) = .bool (decide ((mx x1.1.1 b2.1.1) ≤ (mn x1.2.1 b2.2.1)))), -⟩ := hf
      exact sg_plain rfl rfl (or_move f_47)
    refine steps_cons (fun own a wx hf hsl hE => ?_) ?_
    · obtain ⟨(f_48 : a.eval (.tmp 48) = .bool (decide ((mx x1.1.1 b2.1.1) ≤ (mn x1.2.1 b2.2.1)))), -⟩ := hf
      obtain ⟨s_7, -⟩ := hsl
      refine sg_t rfl rfl rfl f_48 (fun hg => ?_)
      exact or_move (s_7.trans e38_7)
    refine steps_cons (fun own a wx hf hsl hE => ?_) ?_
    · obtain ⟨(f_48 : a.eval (.tmp 48) = .bool (decide ((mx x1.1.1 b2.1.1) ≤ (mn x1.2.1 b2.2.1)))), -⟩ := hf
      obtain ⟨s_8, -⟩ := hsl
      refine sg_t rfl rfl rfl f_48 (fun hg => ?_)
      exact or_move (s_8.trans e38_8)
    refine steps_cons (fun own a wx hf hsl hE => ?_) ?_
    · obtain ⟨(f_48 : a.eval (.tmp 48) = .bool (decide ((mx x1.1.1 b2.1.1) ≤ (mn x1.2.1 b2.2.1)))), c_49, c_50, -⟩ := hf
      refine sg_t rfl rfl rfl f_48 (fun hg => ?_)
      have f_49 : a.eval (.tmp 49) = .int .i64 (mx x1.1.2 b2.1.2) := c_49.1 hg
      have f_50 : a.eval (.tmp 50) = .int .i64 (mn x1.2.2 b2.2.2) := c_50.1 hg
      exact or_leq f_49 f_50 rfl
    refine steps_cons (fun own a wx hf hsl hE => ?_) ?_
    · obtain ⟨(f_48 : a.eval (.tmp 48) = .bool (decide ((mx x1.1.1 b2.1.1) ≤ (mn x1.2.1 b2.2.1)))), c_51, -⟩ := hf
      exact sg_plain rfl rfl (or_and f_48 (fun hx => c_51.1 hx) rfl (osome hx39).symm)
    refine steps_cons (fun own a wx hf hsl hE => ?_) ?_
    · obtain ⟨(f_52 : a.eval (.tmp 52) = .bool x39), -⟩ := hf
      exact sg_plain rfl rfl (or_assign f_52)
    exact steps_nil
  intro own40 a40 w40 hd40 hz40 hk40 hf40 hE40
  obtain ⟨(f_4 : a40.eval (.tmp 4) = .bool x39), -⟩ := hf40 [8] rfl
  have e40_4 := f_4
  have hX40 := Evo.step hX38 (fun _ => Nat.le_refl 0) hE40 rfl
  refine fl_ret ?_
  obtain rfl := (osome hs).symm
  exact hret _ _ _ _ (.inl rfl) hd40 (results1_ rfl (RVal.tmp_ e40_4)) ⟨own40, rfl, hX40⟩

theorem law01_Of_w (w : World) (p1 : Int × Int) (r : Int × Int) (hs : law01_Of p1 = some r) :
    Calls Try.prog 18 #[.agg #[.int .i64 p1.1, .int .i64 p1.2]] w fun e w' => ∃ own' : Own, e = .returned (.agg #[.int .i64 r.1, .int .i64 r.2]) ∧ Evo [] (fun _ => 0) own' w w' := by
  refine fl_enter (n := 8) rfl rfl rfl (Nat.le_of_ble_eq_true rfl) ?_
  intro a0 Q hd0 hz0 harg hret
  have ha0 := harg 0 _ rfl
  clear harg
  have hE0 : Evo [] (fun _ => 0) (fun _ => 0) w w := Evo.refl _ _ _
  refine rg_plain_seq (n := 8) (rs := []) (own0 := (fun _ => 0)) (K := [])
      (bs := [0, 0])
      (ds := [⟨[], [0], [], Fct.blk 19 1 (fun g => .pointer (some ⟨g, 0, none⟩)) 24 #[.int .i64 p1.1, .int .i64 p1.2]⟩,
      ⟨[], [], [], Fct.blk 21 2 (fun g => .pointer (some ⟨g, 0, none⟩)) 43 #[.int .i64 0, .int .i64 0]⟩]) (by kernel_rfl) hz0 hd0 (fun _ h => nomatch h) ?_ ?_
  · refine steps_cons (fun own a wx hf hsl hE => ?_) ?_
    · obtain ⟨s_0, -⟩ := hsl
      exact sg_plain rfl rfl (or_new [(0, .agg #[.int .i64 p1.1, .int .i64 p1.2])] rfl rfl ⟨(s_0.trans ha0), trivial⟩ (by kernel_rfl))
    refine steps_cons (fun own a wx hf hsl hE => ?_) ?_
    · exact sg_plain rfl rfl (or_new [] rfl rfl trivial (by kernel_rfl))
    exact steps_nil
  intro own22 a22 w22 hd22 hz22 hk22 hf22 hE22
  obtain ⟨⟨g18, (f_1 : a22.eval (.tmp 1) = .pointer (some ⟨g18, 0, none⟩)), (b_g18 : BlkO own22 19 w22 g18 24 #[.int .i64 p1.1, .int .i64 p1.2])⟩, ⟨g20, (f_2 : a22.eval (.tmp 2) = .pointer (some ⟨g20, 0, none⟩)), (b_g20 : BlkO own22 21 w22 g20 43 #[.int .i64 0, .int .i64 0])⟩, -⟩ := hf22 [0, 1] rfl
  have e22_1 := f_1
  have e22_2 := f_2
  have hX22 := Evo.step hE0 (fun _ => Nat.le_refl 0) hE22 rfl
  have b22_g18 := b_g18
  have b22_g20 := b_g20
  refine rg_plain_seq (n := 8) (rs := [Fct.at_ 21 g20 43 #[.int .i64 0, .int .i64 0]]) (own0 := own22) (K := [21])
      (bs := [0, 1, 0, 4, 15, 31])
      (ds := [⟨[], [1], [], Fct.val 3 (.pointer (some ⟨g18, 0, none⟩))⟩,
      ⟨[0], [], [], Fct.val 4 (.int .i64 p1.1)⟩,
      ⟨[], [1], [], Fct.val 5 (.pointer (some ⟨g18, 1, none⟩))⟩,
      ⟨[2], [], [], Fct.val 6 (.int .i64 p1.2)⟩,
      ⟨[1, 3], [], [], Fct.val 7 (.agg #[.int .i64 p1.1, .int .i64 p1.2])⟩,
      ⟨[4, 6], [2], [21], Fct.at_ 23 g20 43 #[.int .i64 p1.1, .int .i64 p1.2]⟩]) (by kernel_rfl) hz22 hd22 (by simp only [List.forall_mem_cons]; exact ⟨b22_g20, fun _ h => nomatch h⟩) ?_ ?_
  · refine steps_cons (fun own a wx hf hsl hE => ?_) ?_
    · obtain ⟨s_1, -⟩ := hsl
      exact sg_plain rfl rfl (or_field fo24_0 (s_1.trans e22_1) (by rfl))
    refine steps_cons (fun own a wx hf hsl hE => ?_) ?_
    · obtain ⟨(f_3 : a.eval (.tmp 3) = .pointer (some ⟨g18, 0, none⟩)), -⟩ := hf
      exact sg_plain rfl rfl (or_load1 to3 f_3 (Blk.at_ (BlkO.evo (by decide) hE b22_g18).2 0 rfl))
    refine steps_cons (fun own a wx hf hsl hE => ?_) ?_
    · obtain ⟨s_1, -⟩ := hsl
      exact sg_plain rfl rfl (or_field fo24_1 (s_1.trans e22_1) (by rfl))
    refine steps_cons (fun own a wx hf hsl hE => ?_) ?_
    · obtain ⟨(f_5 : a.eval (.tmp 5) = .pointer (some ⟨g18, 1, none⟩)), -⟩ := hf
      exact sg_plain rfl rfl (or_load1 to3 f_5 (Blk.at_ (BlkO.evo (by decide) hE b22_g18).2 1 rfl))
    refine steps_cons (fun own a wx hf hsl hE => ?_) ?_
    · obtain ⟨(f_4 : a.eval (.tmp 4) = .int .i64 p1.1), (f_6 : a.eval (.tmp 6) = .int .i64 p1.2), -⟩ := hf
      exact sg_plain rfl rfl (or_k [(4, .int .i64 p1.1), (6, .int .i64 p1.2)] rfl rfl ⟨f_4, f_6, trivial⟩ (by kernel_rfl))
    refine steps_cons (fun own a wx hf hsl hE => ?_) ?_
    · obtain ⟨(f_7 : a.eval (.tmp 7) = .agg #[.int .i64 p1.1, .int .i64 p1.2]), (b_g20 : BlkO own 21 wx g20 43 #[.int .i64 0, .int .i64 0]), -⟩ := hf
      obtain ⟨s_2, -⟩ := hsl
      exact sg_plain rfl rfl (or_store (l := #[.int .i64 p1.1, .int .i64 p1.2]) (lab := 21) (lab2 := 23) ts43 (s_2.trans e22_2) f_7 b_g20 (by simp) (by kernel_rfl) (mem_of rfl) (by decide) (by kernel_rfl) (fun own' a' w' ha hb => hb))
    exact steps_nil
  intro own24 a24 w24 hd24 hz24 hk24 hf24 hE24
  have e24_2 : a24.eval (.tmp 2) = .pointer (some ⟨g20, 0, none⟩) := (hk24 2 rfl).trans e22_2
  obtain ⟨(b_g20 : BlkO own24 23 w24 g20 43 #[.int .i64 p1.1, .int .i64 p1.2]), -⟩ := hf24 [5] rfl
  have hX24 := Evo.step hX22 (fun _ => Nat.le_refl 0) hE24 rfl
  have b24_g20 := b_g20
  refine fl_ret ?_
  obtain rfl := (osome hs).symm
  exact hret _ _ _ _ (.inl rfl) hd24 (results1_ rfl (RVal.cell_ e24_2 (run_loadVarAgg (l := [.int .i64 p1.1, .int .i64 p1.2]) ta43 (Blk.cellsFrom b24_g20.2 0 rfl) rfl))) ⟨own24, rfl, hX24⟩

theorem law06_of_w (w : World) (b1 : (Int × Int) × (Int × Int)) (r : (Int × Int) × (Int × Int)) (hs : law06_of b1 = some r) :
    Calls Try.prog 17 #[.agg #[.int .i64 b1.1.1, .int .i64 b1.1.2, .int .i64 b1.2.1, .int .i64 b1.2.2]] w fun e w' => ∃ own' : Own, e = .returned (.agg #[.int .i64 r.1.1, .int .i64 r.1.2, .int .i64 r.2.1, .int .i64 r.2.2]) ∧ Evo [] (fun _ => 0) own' w w' := by
  refine fl_enter (n := 10) rfl rfl rfl (Nat.le_of_ble_eq_true rfl) ?_
  intro a0 Q hd0 hz0 harg hret
  have ha0 := harg 0 _ rfl
  clear harg
  have hE0 : Evo [] (fun _ => 0) (fun _ => 0) w w := Evo.refl _ _ _
  refine rg_plain_seq (n := 10) (rs := []) (own0 := (fun _ => 0)) (K := [])
      (bs := [0, 0])
      (ds := [⟨[], [0], [], Fct.blk 23 1 (fun g => .pointer (some ⟨g, 0, none⟩)) 26 #[.int .i64 b1.1.1, .int .i64 b1.1.2, .int .i64 b1.2.1, .int .i64 b1.2.2]⟩,
      ⟨[], [], [], Fct.blk 25 2 (fun g => .pointer (some ⟨g, 0, none⟩)) 45 #[.int .i64 0, .int .i64 0, .int .i64 0, .int .i64 0]⟩]) (by kernel_rfl) hz0 hd0 (fun _ h => nomatch h) ?_ ?_
  · refine steps_cons (fun own a wx hf hsl hE => ?_) ?_
    · obtain ⟨s_0, -⟩ := hsl
      exact sg_plain rfl rfl (or_new [(0, .agg #[.int .i64 b1.1.1, .int .i64 b1.1.2, .int .i64 b1.2.1, .int .i64 b1.2.2])] rfl rfl ⟨(s_0.trans ha0), trivial⟩ (by kernel_rfl))
    refine steps_cons (fun own a wx hf hsl hE => ?_) ?_
    · exact sg_plain rfl rfl (or_new [] rfl rfl trivial (by kernel_rfl))
    exact steps_nil
  intro own26 a26 w26 hd26 hz26 hk26 hf26 hE26
  obtain ⟨⟨g22, (f_1 : a26.eval (.tmp 1) = .pointer (some ⟨g22, 0, none⟩)), (b_g22 : BlkO own26 23 w26 g22 26 #[.int .i64 b1.1.1, .int .i64 b1.1.2, .int .i64 b1.2.1, .int .i64 b1.2.2])⟩, ⟨g24, (f_2 : a26.eval (.tmp 2) = .pointer (some ⟨g24, 0, none⟩)), (b_g24 : BlkO own26 25 w26 g24 45 #[.int .i64 0, .int .i64 0, .int .i64 0, .int .i64 0])⟩, -⟩ := hf26 [0, 1] rfl
  have e26_1 := f_1
  have e26_2 := f_2
  have hX26 := Evo.step hE0 (fun _ => Nat.le_refl 0) hE26 rfl
  have b26_g22 := b_g22
  have b26_g24 := b_g24
  obtain ⟨r29, hr29, hs⟩ := obind hs
  obtain ⟨r30, hr30, hs⟩ := obind hs
  refine rg_draw_seq g_mixed (n := 10) (rs := [Fct.at_ 25 g24 45 #[.int .i64 0, .int .i64 0, .int .i64 0, .int .i64 0]]) (own0 := own26) (K := [25])
      (bs := [0, 1, 3, 0, 8, 31, 63, 127])
      (ds := [⟨[], [1], [], Fct.val 3 (.pointer (some ⟨g22, 0, none⟩))⟩,
      ⟨[0], [], [], Fct.val 4 (.agg #[.int .i64 b1.1.1, .int .i64 b1.1.2])⟩,
      ⟨[1], [], [], Fct.val 5 (.agg #[.int .i64 r29.1, .int .i64 r29.2])⟩,
      ⟨[], [1], [], Fct.val 6 (.pointer (some ⟨g22, 2, none⟩))⟩,
      ⟨[3], [], [], Fct.val 7 (.agg #[.int .i64 b1.2.1, .int .i64 b1.2.2])⟩,
      ⟨[4], [], [], Fct.val 8 (.agg #[.int .i64 r30.1, .int .i64 r30.2])⟩,
      ⟨[2, 5], [], [], Fct.val 9 (.agg #[.int .i64 r29.1, .int .i64 r29.2, .int .i64 r30.1, .int .i64 r30.2])⟩,
      ⟨[6, 8], [2], [25], Fct.at_ 31 g24 45 #[.int .i64 r29.1, .int .i64 r29.2, .int .i64 r30.1, .int .i64 r30.2]⟩]) (by kernel_rfl) hz26 hd26 (by simp only [List.forall_mem_cons]; exact ⟨b26_g24, fun _ h => nomatch h⟩) ?_ ?_
  · refine steps_cons (fun own a wx hf hsl hE => ?_) ?_
    · obtain ⟨s_1, -⟩ := hsl
      exact sg_plain rfl rfl (or_field fo26_0 (s_1.trans e26_1) (by rfl))
    refine steps_cons (fun own a wx hf hsl hE => ?_) ?_
    · obtain ⟨(f_3 : a.eval (.tmp 3) = .pointer (some ⟨g22, 0, none⟩)), -⟩ := hf
      exact sg_plain rfl rfl (or_load (l := [.int .i64 b1.1.1, .int .i64 b1.1.2]) ta24 f_3 (Blk.cellsFrom (BlkO.evo (by decide) hE b26_g22).2 0 rfl) rfl)
    refine steps_cons (fun own a wx hf hsl hE => ?_) ?_
    · obtain ⟨(f_4 : a.eval (.tmp 4) = .agg #[.int .i64 b1.1.1, .int .i64 b1.1.2]), -⟩ := hf
      exact sg_plain rfl rfl (or_call cf18 (args1 f_4) (law01_Of_w _ b1.1  r29 hr29) post_val)
    refine steps_cons (fun own a wx hf hsl hE => ?_) ?_
    · obtain ⟨s_1, -⟩ := hsl
      exact sg_plain rfl rfl (or_field fo26_1 (s_1.trans e26_1) (by rfl))
    refine steps_cons (fun own a wx hf hsl hE => ?_) ?_
    · obtain ⟨(f_6 : a.eval (.tmp 6) = .pointer (some ⟨g22, 2, none⟩)), -⟩ := hf
      exact sg_plain rfl rfl (or_load (l := [.int .i64 b1.2.1, .int .i64 b1.2.2]) ta24 f_6 (Blk.cellsFrom (BlkO.evo (by decide) hE b26_g22).2 2 rfl) rfl)
    refine steps_cons (fun own a wx hf hsl hE => ?_) ?_
    · obtain ⟨(f_7 : a.eval (.tmp 7) = .agg #[.int .i64 b1.2.1, .int .i64 b1.2.2]), -⟩ := hf
      exact sg_plain rfl rfl (or_call cf18 (args1 f_7) (law01_Of_w _ b1.2  r30 hr30) post_val)
    refine steps_cons (fun own a wx hf hsl hE => ?_) ?_
    · obtain ⟨(f_5 : a.eval (.tmp 5) = .agg #[.int .i64 r29.1, .int .i64 r29.2]), (f_8 : a.eval (.tmp 8) = .agg #[.int .i64 r30.1, .int .i64 r30.2]), -⟩ := hf
      exact sg_plain rfl rfl (or_k [(5, .agg #[.int .i64 r29.1, .int .i64 r29.2]), (8, .agg #[.int .i64 r30.1, .int .i64 r30.2])] rfl rfl ⟨f_5, f_8, trivial⟩ (by kernel_rfl))
    refine steps_cons (fun own a wx hf hsl hE => ?_) ?_
    · obtain ⟨(f_9 : a.eval (.tmp 9) = .agg #[.int .i64 r29.1, .int .i64 r29.2, .int .i64 r30.1, .int .i64 r30.2]), (b_g24 : BlkO own 25 wx g24 45 #[.int .i64 0, .int .i64 0, .int .i64 0, .int .i64 0]), -⟩ := hf
      obtain ⟨s_2, -⟩ := hsl
      exact sg_plain rfl rfl (or_store (l := #[.int .i64 r29.1, .int .i64 r29.2, .int .i64 r30.1, .int .i64 r30.2]) (lab := 25) (lab2 := 31) ts45 (s_2.trans e26_2) f_9 b_g24 (by simp) (by kernel_rfl) (mem_of rfl) (by decide) (by kernel_rfl) (fun own' a' w' ha hb => hb))
    exact steps_nil
  intro own32 a32 w32 hd32 hz32 hk32 hf32 hE32
  have e32_2 : a32.eval (.tmp 2) = .pointer (some ⟨g24, 0, none⟩) := (hk32 2 rfl).trans e26_2
  obtain ⟨(b_g24 : BlkO own32 31 w32 g24 45 #[.int .i64 r29.1, .int .i64 r29.2, .int .i64 r30.1, .int .i64 r30.2]), -⟩ := hf32 [7] rfl
  have hX32 := Evo.step hX26 (fun _ => Nat.le_refl 0) hE32 rfl
  have b32_g24 := b_g24
  refine fl_ret ?_
  obtain rfl := osome hs
  exact hret _ _ _ _ (.inl rfl) hd32 (results1_ rfl (RVal.cell_ e32_2 (run_loadVarAgg (l := [.int .i64 r29.1, .int .i64 r29.2, .int .i64 r30.1, .int .i64 r30.2]) ta45 (Blk.cellsFrom b32_g24.2 0 rfl) rfl))) ⟨own32, rfl, hX32⟩

end Go.Proofs.Ytajbjhcnppiloaa
