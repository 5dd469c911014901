/-
  Chapter 03. The walks.
-/
import Derived.Test.YthkmkmkcnljmaaaWp2
import Derived.Test.YthkmkmkcnljmaaaSp3
namespace Go.Proofs.Ythkmkmkcnljmaaa
open Go.RowKit
set_option linter.unusedVariables false
theorem exact_between_w (w : World) (x1 : Int × Int) (b2 : Int × Int) (p3 : Int × Int) (r : Bool) (hs : exact_between x1 b2 p3 = some r) :
    Calls Try.prog 60 #[.agg #[.int .i64 x1.1, .int .i64 x1.2], .agg #[.int .i64 b2.1, .int .i64 b2.2], .agg #[.int .i64 p3.1, .int .i64 p3.2]] w fun e w' => ∃ own' : Own, e = .returned (.bool r) ∧ Evo [] (fun _ => 0) own' w w' := by
  refine fl_enter (n := 35) rfl rfl rfl (Nat.le_of_ble_eq_true rfl) ?_
  intro a0 Q hd0 hz0 harg hret
  have ha0 := harg 0 _ rfl
  have ha1 := harg 1 _ rfl
  have ha2 := harg 2 _ rfl
  clear harg
  have hE0 : Evo [] (fun _ => 0) (fun _ => 0) w w := Evo.refl _ _ _
  refine rg_plain_seq (n := 35) (rs := []) (own0 := (fun _ => 0)) (K := [])
      (bs := [0, 0, 0, 0])
      (ds := [⟨[], [0], [], Fct.blk 22 3 (fun g => .pointer (some ⟨g, 0, none⟩)) 32 #[.int .i64 x1.1, .int .i64 x1.2]⟩,
      ⟨[], [1], [], Fct.blk 24 4 (fun g => .pointer (some ⟨g, 0, none⟩)) 32 #[.int .i64 b2.1, .int .i64 b2.2]⟩,
      ⟨[], [2], [], Fct.blk 26 5 (fun g => .pointer (some ⟨g, 0, none⟩)) 32 #[.int .i64 p3.1, .int .i64 p3.2]⟩,
      ⟨[], [], [], Fct.val 6 (.bool false)⟩]) (by kernel_rfl) hz0 hd0 (fun _ h => nomatch h) ?_ ?_
  · refine steps_cons (fun own a wx hf hsl hE => ?_) ?_
    · obtain ⟨s_0, -⟩ := hsl
      exact sg_plain rfl rfl (or_new [(0, .agg #[.int .i64 x1.1, .int .i64 x1.2])] rfl rfl ⟨(s_0.trans ha0), trivial⟩ (by kernel_rfl))
    refine steps_cons (fun own a wx hf hsl hE => ?_) ?_
    · obtain ⟨s_1, -⟩ := hsl
      exact sg_plain rfl rfl (or_new [(1, .agg #[.int .i64 b2.1, .int .i64 b2.2])] rfl rfl ⟨(s_1.trans ha1), trivial⟩ (by kernel_rfl))
    refine steps_cons (fun own a wx hf hsl hE => ?_) ?_
    · obtain ⟨s_2, -⟩ := hsl
      exact sg_plain rfl rfl (or_new [(2, .agg #[.int .i64 p3.1, .int .i64 p3.2])] rfl rfl ⟨(s_2.trans ha2), trivial⟩ (by kernel_rfl))
    refine steps_cons (fun own a wx hf hsl hE => ?_) ?_
    · exact sg_plain rfl rfl (or_assign rfl)
    exact steps_nil
  intro own27 a27 w27 hd27 hz27 hk27 hf27 hE27
  obtain ⟨⟨g21, (f_3 : a27.eval (.tmp 3) = .pointer (some ⟨g21, 0, none⟩)), (b_g21 : BlkO own27 22 w27 g21 32 #[.int .i64 x1.1, .int .i64 x1.2])⟩, ⟨g23, (f_4 : a27.eval (.tmp 4) = .pointer (some ⟨g23, 0, none⟩)), (b_g23 : BlkO own27 24 w27 g23 32 #[.int .i64 b2.1, .int .i64 b2.2])⟩, ⟨g25, (f_5 : a27.eval (.tmp 5) = .pointer (some ⟨g25, 0, none⟩)), (b_g25 : BlkO own27 26 w27 g25 32 #[.int .i64 p3.1, .int .i64 p3.2])⟩, -⟩ := hf27 [0, 1, 2] rfl
  have e27_3 := f_3
  have e27_4 := f_4
  have e27_5 := f_5
  have hX27 := Evo.step hE0 (fun _ => Nat.le_refl 0) hE27 rfl
  have b27_g21 := b_g21
  have b27_g23 := b_g23
  have b27_g25 := b_g25
  obtain ⟨r28, hr28, hs⟩ := obind hs
  obtain ⟨r29, hr29, hs⟩ := obind hs
  refine rg_plain_seq (n := 35) (rs := []) (own0 := own27) (K := [])
      (bs := [0, 1, 0, 4, 0, 16, 60, 0, 128, 0, 512, 1920, 4095, 8191, 16383, 32767, 16383, 81919, 16383, 278527, 999423, 16383, 2113535, 16383, 8404991, 31473663, 67108863, 134217727, 268435455])
      (ds := [⟨[], [5], [], Fct.val 7 (.pointer (some ⟨g25, 0, none⟩))⟩,
      ⟨[0], [], [], Fct.val 8 (.int .i64 p3.1)⟩,
      ⟨[], [3], [], Fct.val 9 (.pointer (some ⟨g21, 0, none⟩))⟩,
      ⟨[2], [], [], Fct.val 10 (.int .i64 x1.1)⟩,
      ⟨[], [4], [], Fct.val 11 (.pointer (some ⟨g23, 0, none⟩))⟩,
      ⟨[4], [], [], Fct.val 12 (.int .i64 b2.1)⟩,
      ⟨[3, 5], [], [], Fct.val 13 (.int .i64 (mn x1.1 b2.1))⟩,
      ⟨[], [3], [], Fct.val 14 (.pointer (some ⟨g21, 0, none⟩))⟩,
      ⟨[7], [], [], Fct.val 15 (.int .i64 x1.1)⟩,
      ⟨[], [4], [], Fct.val 16 (.pointer (some ⟨g23, 0, none⟩))⟩,
      ⟨[9], [], [], Fct.val 17 (.int .i64 b2.1)⟩,
      ⟨[8, 10], [], [], Fct.val 18 (.int .i64 (mx x1.1 b2.1))⟩,
      ⟨[1, 6, 11], [], [], Fct.val 19 (.bool r28)⟩,
      ⟨[12], [], [], Fct.val 20 (.bool r28)⟩,
      ⟨[13], [5], [], Fct.cond r28 (some 21) (Fct.val 21 (.pointer (some ⟨g25, 1, none⟩)))⟩,
      ⟨[13, 14], [], [], Fct.cond r28 (some 22) (Fct.val 22 (.int .i64 p3.2))⟩,
      ⟨[13], [3], [], Fct.cond r28 (some 23) (Fct.val 23 (.pointer (some ⟨g21, 1, none⟩)))⟩,
      ⟨[13, 16], [], [], Fct.cond r28 (some 24) (Fct.val 24 (.int .i64 x1.2))⟩,
      ⟨[13], [4], [], Fct.cond r28 (some 25) (Fct.val 25 (.pointer (some ⟨g23, 1, none⟩)))⟩,
      ⟨[13, 18], [], [], Fct.cond r28 (some 26) (Fct.val 26 (.int .i64 b2.2))⟩,
      ⟨[13, 17, 19], [], [], Fct.cond r28 (some 27) (Fct.val 27 (.int .i64 (mn x1.2 b2.2)))⟩,
      ⟨[13], [3], [], Fct.cond r28 (some 28) (Fct.val 28 (.pointer (some ⟨g21, 1, none⟩)))⟩,
      ⟨[13, 21], [], [], Fct.cond r28 (some 29) (Fct.val 29 (.int .i64 x1.2))⟩,
      ⟨[13], [4], [], Fct.cond r28 (some 30) (Fct.val 30 (.pointer (some ⟨g23, 1, none⟩)))⟩,
      ⟨[13, 23], [], [], Fct.cond r28 (some 31) (Fct.val 31 (.int .i64 b2.2))⟩,
      ⟨[13, 22, 24], [], [], Fct.cond r28 (some 32) (Fct.val 32 (.int .i64 (mx x1.2 b2.2)))⟩,
      ⟨[13, 15, 20, 25], [], [], Fct.cond r28 (some 33) (Fct.val 33 (.bool r29))⟩,
      ⟨[13, 26], [], [], Fct.val 34 (.bool (r28 && r29))⟩,
      ⟨[27], [], [], Fct.val 6 (.bool (r28 && r29))⟩]) (by kernel_rfl) hz27 hd27 (fun _ h => nomatch h) ?_ ?_
  · refine steps_cons (fun own a wx hf hsl hE => ?_) ?_
    · obtain ⟨s_5, -⟩ := hsl
      exact sg_plain rfl rfl (or_field fo32_0 (s_5.trans e27_5) (by rfl))
    refine steps_cons (fun own a wx hf hsl hE => ?_) ?_
    · obtain ⟨(f_7 : a.eval (.tmp 7) = .pointer (some ⟨g25, 0, none⟩)), -⟩ := hf
      exact sg_plain rfl rfl (or_load1 to3 f_7 (Blk.at_ (BlkO.evo (by decide) hE b27_g25).2 0 rfl))
    refine steps_cons (fun own a wx hf hsl hE => ?_) ?_
    · obtain ⟨s_3, -⟩ := hsl
      exact sg_plain rfl rfl (or_field fo32_0 (s_3.trans e27_3) (by rfl))
    refine steps_cons (fun own a wx hf hsl hE => ?_) ?_
    · obtain ⟨(f_9 : a.eval (.tmp 9) = .pointer (some ⟨g21, 0, none⟩)), -⟩ := hf
      exact sg_plain rfl rfl (or_load1 to3 f_9 (Blk.at_ (BlkO.evo (by decide) hE b27_g21).2 0 rfl))
    refine steps_cons (fun own a wx hf hsl hE => ?_) ?_
    · obtain ⟨s_4, -⟩ := hsl
      exact sg_plain rfl rfl (or_field fo32_0 (s_4.trans e27_4) (by rfl))
    refine steps_cons (fun own a wx hf hsl hE => ?_) ?_
    · obtain ⟨(f_11 : a.eval (.tmp 11) = .pointer (some ⟨g23, 0, none⟩)), -⟩ := hf
      exact sg_plain rfl rfl (or_load1 to3 f_11 (Blk.at_ (BlkO.evo (by decide) hE b27_g23).2 0 rfl))
    refine steps_cons (fun own a wx hf hsl hE => ?_) ?_
    · obtain ⟨(f_10 : a.eval (.tmp 10) = .int .i64 x1.1), (f_12 : a.eval (.tmp 12) = .int .i64 b2.1), -⟩ := hf
      exact sg_plain rfl rfl (or_min f_10 f_12)
    refine steps_cons (fun own a wx hf hsl hE => ?_) ?_
    · obtain ⟨s_3, -⟩ := hsl
      exact sg_plain rfl rfl (or_field fo32_0 (s_3.trans e27_3) (by rfl))
    refine steps_cons (fun own a wx hf hsl hE => ?_) ?_
    · obtain ⟨(f_14 : a.eval (.tmp 14) = .pointer (some ⟨g21, 0, none⟩)), -⟩ := hf
      exact sg_plain rfl rfl (or_load1 to3 f_14 (Blk.at_ (BlkO.evo (by decide) hE b27_g21).2 0 rfl))
    refine steps_cons (fun own a wx hf hsl hE => ?_) ?_
    · obtain ⟨s_4, -⟩ := hsl
      exact sg_plain rfl rfl (or_field fo32_0 (s_4.trans e27_4) (by rfl))
    refine steps_cons (fun own a wx hf hsl hE => ?_) ?_
    · obtain ⟨(f_16 : a.eval (.tmp 16) = .pointer (some ⟨g23, 0, none⟩)), -⟩ := hf
      exact sg_plain rfl rfl (or_load1 to3 f_16 (Blk.at_ (BlkO.evo (by decide) hE b27_g23).2 0 rfl))
    refine steps_cons (fun own a wx hf hsl hE => ?_) ?_
    · obtain ⟨(f_15 : a.eval (.tmp 15) = .int .i64 x1.1), (f_17 : a.eval (.tmp 17) = .int .i64 b2.1), -⟩ := hf
      exact sg_plain rfl rfl (or_max f_15 f_17)
    refine steps_cons (fun own a wx hf hsl hE => ?_) ?_
    · obtain ⟨(f_8 : a.eval (.tmp 8) = .int .i64 p3.1), (f_13 : a.eval (.tmp 13) = .int .i64 (mn x1.1 b2.1)), (f_18 : a.eval (.tmp 18) = .int .i64 (mx x1.1 b2.1)), -⟩ := hf
      exact sg_plain rfl rfl (or_call cf54 (args3 f_8 f_13 f_18) (exact_within_w _ p3.1 (mn x1.1 b2.1) (mx x1.1 b2.1)  r28 hr28) post_val)
    refine steps_cons (fun own a wx hf hsl hE => ?_) ?_
    · obtain ⟨(f_19 : a.eval (.tmp 19) = .bool r28), -⟩ := hf
      exact sg_plain rfl rfl (or_move f_19)
    refine steps_cons (fun own a wx hf hsl hE => ?_) ?_
    · obtain ⟨(f_20 : a.eval (.tmp 20) = .bool r28), -⟩ := hf
      obtain ⟨s_5, -⟩ := hsl
      refine sg_t rfl rfl rfl f_20 (fun hg => ?_)
      exact or_field fo32_1 (s_5.trans e27_5) (by rfl)
    refine steps_cons (fun own a wx hf hsl hE => ?_) ?_
    · obtain ⟨(f_20 : a.eval (.tmp 20) = .bool r28), c_21, -⟩ := hf
      refine sg_t rfl rfl rfl f_20 (fun hg => ?_)
      have f_21 : a.eval (.tmp 21) = .pointer (some ⟨g25, 1, none⟩) := c_21.1 hg
      exact or_load1 to3 f_21 (Blk.at_ (BlkO.evo (by decide) hE b27_g25).2 1 rfl)
    refine steps_cons (fun own a wx hf hsl hE => ?_) ?_
    · obtain ⟨(f_20 : a.eval (.tmp 20) = .bool r28), -⟩ := hf
      obtain ⟨s_3, -⟩ := hsl
      refine sg_t rfl rfl rfl f_20 (fun hg => ?_)
      exact or_field fo32_1 (s_3.trans e27_3) (by rfl)
    refine steps_cons (fun own a wx hf hsl hE => ?_) ?_
    · obtain ⟨(f_20 : a.eval (.tmp 20) = .bool r28), c_23, -⟩ := hf
      refine sg_t rfl rfl rfl f_20 (fun hg => ?_)
      have f_23 : a.eval (.tmp 23) = .pointer (some ⟨g21, 1, none⟩) := c_23.1 hg
      exact or_load1 to3 f_23 (Blk.at_ (BlkO.evo (by decide) hE b27_g21).2 1 rfl)
    refine steps_cons (fun own a wx hf hsl hE => ?_) ?_
    · obtain ⟨(f_20 : a.eval (.tmp 20) = .bool r28), -⟩ := hf
      obtain ⟨s_4, -⟩ := hsl
      refine sg_t rfl rfl rfl f_20 (fun hg => ?_)
      exact or_field fo32_1 (s_4.trans e27_4) (by rfl)
    refine steps_cons (fun own a wx hf hsl hE => ?_) ?_
    · obtain ⟨(f_20 : a.eval (.tmp 20) = .bool r28), c_25, -⟩ := hf
      refine sg_t rfl rfl rfl f_20 (fun hg => ?_)
      have f_25 : a.eval (.tmp 25) = .pointer (some ⟨g23, 1, none⟩) := c_25.1 hg
      exact or_load1 to3 f_25 (Blk.at_ (BlkO.evo (by decide) hE b27_g23).2 1 rfl)
    refine steps_cons (fun own a wx hf hsl hE => ?_) ?_
    · obtain ⟨(f_20 : a.eval (.tmp 20) = .bool r28), c_24, c_26, -⟩ := hf
      refine sg_t rfl rfl rfl f_20 (fun hg => ?_)
      have f_24 : a.eval (.tmp 24) = .int .i64 x1.2 := c_24.1 hg
      have f_26 : a.eval (.tmp 26) = .int .i64 b2.2 := c_26.1 hg
      exact or_min f_24 f_26
    refine steps_cons (fun own a wx hf hsl hE => ?_) ?_
    · obtain ⟨(f_20 : a.eval (.tmp 20) = .bool r28), -⟩ := hf
      obtain ⟨s_3, -⟩ := hsl
      refine sg_t rfl rfl rfl f_20 (fun hg => ?_)
      exact or_field fo32_1 (s_3.trans e27_3) (by rfl)
    refine steps_cons (fun own a wx hf hsl hE => ?_) ?_
    · obtain ⟨(f_20 : a.eval (.tmp 20) = .bool r28), c_28, -⟩ := hf
      refine sg_t rfl rfl rfl f_20 (fun hg => ?_)
      have f_28 : a.eval (.tmp 28) = .pointer (some ⟨g21, 1, none⟩) := c_28.1 hg
      exact or_load1 to3 f_28 (Blk.at_ (BlkO.evo (by decide) hE b27_g21).2 1 rfl)
    refine steps_cons (fun own a wx hf hsl hE => ?_) ?_
    · obtain ⟨(f_20 : a.eval (.tmp 20) = .bool r28), -⟩ := hf
      obtain ⟨s_4, -⟩ := hsl
      refine sg_t rfl rfl rfl f_20 (fun hg => ?_)
      exact or_field fo32_1 (s_4.trans e27_4) (by rfl)
    refine steps_cons (fun own a wx hf hsl hE => ?_) ?_
    · obtain ⟨(f_20 : a.eval (.tmp 20) = .bool r28), c_30, -⟩ := hf
      refine sg_t rfl rfl rfl f_20 (fun hg => ?_)
      have f_30 : a.eval (.tmp 30) = .pointer (some ⟨g23, 1, none⟩) := c_30.1 hg
      exact or_load1 to3 f_30 (Blk.at_ (BlkO.evo (by decide) hE b27_g23).2 1 rfl)
    refine steps_cons (fun own a wx hf hsl hE => ?_) ?_
    · obtain ⟨(f_20 : a.eval (.tmp 20) = .bool r28), c_29, c_31, -⟩ := hf
      refine sg_t rfl rfl rfl f_20 (fun hg => ?_)
      have f_29 : a.eval (.tmp 29) = .int .i64 x1.2 := c_29.1 hg
      have f_31 : a.eval (.tmp 31) = .int .i64 b2.2 := c_31.1 hg
      exact or_max f_29 f_31
    refine steps_cons (fun own a wx hf hsl hE => ?_) ?_
    · obtain ⟨(f_20 : a.eval (.tmp 20) = .bool r28), c_22, c_27, c_32, -⟩ := hf
      refine sg_t rfl rfl rfl f_20 (fun hg => ?_)
      have f_22 : a.eval (.tmp 22) = .int .i64 p3.2 := c_22.1 hg
      have f_27 : a.eval (.tmp 27) = .int .i64 (mn x1.2 b2.2) := c_27.1 hg
      have f_32 : a.eval (.tmp 32) = .int .i64 (mx x1.2 b2.2) := c_32.1 hg
      exact or_call cf54 (args3 f_22 f_27 f_32) (exact_within_w _ p3.2 (mn x1.2 b2.2) (mx x1.2 b2.2)  r29 (gd_t hr29 hg)) post_val
    refine steps_cons (fun own a wx hf hsl hE => ?_) ?_
    · obtain ⟨(f_20 : a.eval (.tmp 20) = .bool r28), c_33, -⟩ := hf
      exact sg_plain rfl rfl (or_and f_20 (fun hx => c_33.1 hx) rfl rfl)
    refine steps_cons (fun own a wx hf hsl hE => ?_) ?_
    · obtain ⟨(f_34 : a.eval (.tmp 34) = .bool (r28 && r29)), -⟩ := hf
      exact sg_plain rfl rfl (or_assign f_34)
    exact steps_nil
  intro own30 a30 w30 hd30 hz30 hk30 hf30 hE30
  obtain ⟨(f_6 : a30.eval (.tmp 6) = .bool (r28 && r29)), -⟩ := hf30 [28] rfl
  have e30_6 := f_6
  have hX30 := Evo.step hX27 (fun _ => Nat.le_refl 0) hE30 rfl
  refine fl_ret ?_
  obtain rfl := osome hs
  exact hret _ _ _ _ (.inl rfl) hd30 (results1_ rfl (RVal.tmp_ e30_6)) ⟨own30, rfl, hX30⟩

theorem exact_On_w (w : World) (x1 : Int × Int) (b2 : Int × Int) (p3 : Int × Int) (r : Bool) (hs : exact_On x1 b2 p3 = some r) :
    Calls Try.prog 39 #[.agg #[.int .i64 x1.1, .int .i64 x1.2], .agg #[.int .i64 b2.1, .int .i64 b2.2], .agg #[.int .i64 p3.1, .int .i64 p3.2]] w fun e w' => ∃ own' : Own, e = .returned (.bool r) ∧ Evo [] (fun _ => 0) own' w w' := by
  refine fl_enter (n := 25) rfl rfl rfl (Nat.le_of_ble_eq_true rfl) ?_
  intro a0 Q hd0 hz0 harg hret
  have ha0 := harg 0 _ rfl
  have ha1 := harg 1 _ rfl
  have ha2 := harg 2 _ rfl
  clear harg
  have hE0 : Evo [] (fun _ => 0) (fun _ => 0) w w := Evo.refl _ _ _
  refine rg_plain_seq (n := 25) (rs := []) (own0 := (fun _ => 0)) (K := [])
      (bs := [0, 0, 0, 0])
      (ds := [⟨[], [0], [], Fct.blk 25 3 (fun g => .pointer (some ⟨g, 0, none⟩)) 32 #[.int .i64 x1.1, .int .i64 x1.2]⟩,
      ⟨[], [1], [], Fct.blk 27 4 (fun g => .pointer (some ⟨g, 0, none⟩)) 32 #[.int .i64 b2.1, .int .i64 b2.2]⟩,
      ⟨[], [2], [], Fct.blk 29 5 (fun g => .pointer (some ⟨g, 0, none⟩)) 32 #[.int .i64 p3.1, .int .i64 p3.2]⟩,
      ⟨[], [], [], Fct.val 6 (.bool false)⟩]) (by kernel_rfl) hz0 hd0 (fun _ h => nomatch h) ?_ ?_
  · refine steps_cons (fun own a wx hf hsl hE => ?_) ?_
    · obtain ⟨s_0, -⟩ := hsl
      exact sg_plain rfl rfl (or_new [(0, .agg #[.int .i64 x1.1, .int .i64 x1.2])] rfl rfl ⟨(s_0.trans ha0), trivial⟩ (by kernel_rfl))
    refine steps_cons (fun own a wx hf hsl hE => ?_) ?_
    · obtain ⟨s_1, -⟩ := hsl
      exact sg_plain rfl rfl (or_new [(1, .agg #[.int .i64 b2.1, .int .i64 b2.2])] rfl rfl ⟨(s_1.trans ha1), trivial⟩ (by kernel_rfl))
    refine steps_cons (fun own a wx hf hsl hE => ?_) ?_
    · obtain ⟨s_2, -⟩ := hsl
      exact sg_plain rfl rfl (or_new [(2, .agg #[.int .i64 p3.1, .int .i64 p3.2])] rfl rfl ⟨(s_2.trans ha2), trivial⟩ (by kernel_rfl))
    refine steps_cons (fun own a wx hf hsl hE => ?_) ?_
    · exact sg_plain rfl rfl (or_assign rfl)
    exact steps_nil
  intro own30 a30 w30 hd30 hz30 hk30 hf30 hE30
  obtain ⟨⟨g24, (f_3 : a30.eval (.tmp 3) = .pointer (some ⟨g24, 0, none⟩)), (b_g24 : BlkO own30 25 w30 g24 32 #[.int .i64 x1.1, .int .i64 x1.2])⟩, ⟨g26, (f_4 : a30.eval (.tmp 4) = .pointer (some ⟨g26, 0, none⟩)), (b_g26 : BlkO own30 27 w30 g26 32 #[.int .i64 b2.1, .int .i64 b2.2])⟩, ⟨g28, (f_5 : a30.eval (.tmp 5) = .pointer (some ⟨g28, 0, none⟩)), (b_g28 : BlkO own30 29 w30 g28 32 #[.int .i64 p3.1, .int .i64 p3.2])⟩, -⟩ := hf30 [0, 1, 2] rfl
  have e30_3 := f_3
  have e30_4 := f_4
  have e30_5 := f_5
  have hX30 := Evo.step hE0 (fun _ => Nat.le_refl 0) hE30 rfl
  have b30_g24 := b_g24
  have b30_g26 := b_g26
  have b30_g28 := b_g28
  obtain ⟨r33, hr33, hs⟩ := obind hs
  obtain ⟨r34, hr34, hs⟩ := obind hs
  obtain ⟨r35, hr35, hs⟩ := obind hs
  refine rg_plain_seq (n := 25) (rs := []) (own0 := own30) (K := [])
      (bs := [0, 0, 0, 7, 15, 31, 63, 63, 63, 511, 1023, 2047, 4095, 8191, 8191, 8191, 65535, 131071, 262143])
      (ds := [⟨[], [3], [], Fct.val 7 (.agg #[.int .i64 x1.1, .int .i64 x1.2])⟩,
      ⟨[], [4], [], Fct.val 8 (.agg #[.int .i64 b2.1, .int .i64 b2.2])⟩,
      ⟨[], [5], [], Fct.val 9 (.agg #[.int .i64 p3.1, .int .i64 p3.2])⟩,
      ⟨[0, 1, 2], [], [], Fct.row 32 [] 10 32 R32 [x1, b2, p3]⟩,
      ⟨[3], [], [], Fct.val 11 (.bool r33)⟩,
      ⟨[4], [], [], Fct.val 12 (.bool r33)⟩,
      ⟨[5], [3], [], Fct.cond r33 (some 13) (Fct.val 13 (.agg #[.int .i64 x1.1, .int .i64 x1.2]))⟩,
      ⟨[5], [4], [], Fct.cond r33 (some 14) (Fct.val 14 (.agg #[.int .i64 b2.1, .int .i64 b2.2]))⟩,
      ⟨[5], [5], [], Fct.cond r33 (some 15) (Fct.val 15 (.agg #[.int .i64 p3.1, .int .i64 p3.2]))⟩,
      ⟨[5, 6, 7, 8], [], [], Fct.cond r33 (some 16) (Fct.val 16 (.int .i64 r34))⟩,
      ⟨[5, 9], [], [], Fct.cond r33 (some 17) (Fct.val 17 (.bool (decide (r34 = 0))))⟩,
      ⟨[5, 10], [], [], Fct.val 18 (.bool (r33 && (decide (r34 = 0))))⟩,
      ⟨[11], [], [], Fct.val 19 (.bool (r33 && (decide (r34 = 0))))⟩,
      ⟨[12], [3], [], Fct.cond (r33 && (decide (r34 = 0))) (some 20) (Fct.val 20 (.agg #[.int .i64 x1.1, .int .i64 x1.2]))⟩,
      ⟨[12], [4], [], Fct.cond (r33 && (decide (r34 = 0))) (some 21) (Fct.val 21 (.agg #[.int .i64 b2.1, .int .i64 b2.2]))⟩,
      ⟨[12], [5], [], Fct.cond (r33 && (decide (r34 = 0))) (some 22) (Fct.val 22 (.agg #[.int .i64 p3.1, .int .i64 p3.2]))⟩,
      ⟨[12, 13, 14, 15], [], [], Fct.cond (r33 && (decide (r34 = 0))) (some 23) (Fct.val 23 (.bool r35))⟩,
      ⟨[12, 16], [], [], Fct.val 24 (.bool ((r33 && (decide (r34 = 0))) && r35))⟩,
      ⟨[17], [], [], Fct.val 6 (.bool ((r33 && (decide (r34 = 0))) && r35))⟩]) (by kernel_rfl) hz30 hd30 (fun _ h => nomatch h) ?_ ?_
  · refine steps_cons (fun own a wx hf hsl hE => ?_) ?_
    · obtain ⟨s_3, -⟩ := hsl
      exact sg_plain rfl rfl (or_load (l := [.int .i64 x1.1, .int .i64 x1.2]) ta32 (s_3.trans e30_3) (Blk.cellsFrom (BlkO.evo (by decide) hE b30_g24).2 0 rfl) rfl)
    refine steps_cons (fun own a wx hf hsl hE => ?_) ?_
    · obtain ⟨s_4, -⟩ := hsl
      exact sg_plain rfl rfl (or_load (l := [.int .i64 b2.1, .int .i64 b2.2]) ta32 (s_4.trans e30_4) (Blk.cellsFrom (BlkO.evo (by decide) hE b30_g26).2 0 rfl) rfl)
    refine steps_cons (fun own a wx hf hsl hE => ?_) ?_
    · obtain ⟨s_5, -⟩ := hsl
      exact sg_plain rfl rfl (or_load (l := [.int .i64 p3.1, .int .i64 p3.2]) ta32 (s_5.trans e30_5) (Blk.cellsFrom (BlkO.evo (by decide) hE b30_g28).2 0 rfl) rfl)
    refine steps_cons (fun own a wx hf hsl hE => ?_) ?_
    · obtain ⟨(f_7 : a.eval (.tmp 7) = .agg #[.int .i64 x1.1, .int .i64 x1.2]), (f_8 : a.eval (.tmp 8) = .agg #[.int .i64 b2.1, .int .i64 b2.2]), (f_9 : a.eval (.tmp 9) = .agg #[.int .i64 p3.1, .int .i64 p3.2]), -⟩ := hf
      exact sg_plain rfl rfl (or_lit (lab := 32) (e := 32) (cs := #[.int .i64 x1.1, .int .i64 x1.2, .int .i64 b2.1, .int .i64 b2.2, .int .i64 p3.1, .int .i64 p3.2]) (F := E32) (or_new [(7, .agg #[.int .i64 x1.1, .int .i64 x1.2]), (8, .agg #[.int .i64 b2.1, .int .i64 b2.2]), (9, .agg #[.int .i64 p3.1, .int .i64 p3.2])] rfl rfl ⟨f_7, f_8, f_9, trivial⟩ (by kernel_rfl)) rfl rfl (show 3 ≤ maxLen by decide))
    refine steps_cons (fun own a wx hf hsl hE => ?_) ?_
    · obtain ⟨⟨⟨A31, cA31⟩, (f_10 : a.eval (.tmp 10) = .slice A31 [x1, b2, p3].length cA31), (b_A31 : RwO own 32 [] wx 32 R32 A31 cA31 [x1, b2, p3])⟩, -⟩ := hf
      exact sg_plain rfl rfl (or_call cf33 (args1 f_10) (exact_Right_w _ [x1, b2, p3] A31 cA31 (RdO.zero (RwO.rd b_A31)) r33 hr33) post_val)
    refine steps_cons (fun own a wx hf hsl hE => ?_) ?_
    · obtain ⟨(f_11 : a.eval (.tmp 11) = .bool r33), -⟩ := hf
      exact sg_plain rfl rfl (or_move f_11)
    refine steps_cons (fun own a wx hf hsl hE => ?_) ?_
    · obtain ⟨(f_12 : a.eval (.tmp 12) = .bool r33), -⟩ := hf
      obtain ⟨s_3, -⟩ := hsl
      refine sg_t rfl rfl rfl f_12 (fun hg => ?_)
      exact or_load (l := [.int .i64 x1.1, .int .i64 x1.2]) ta32 (s_3.trans e30_3) (Blk.cellsFrom (BlkO.evo (by decide) hE b30_g24).2 0 rfl) rfl
    refine steps_cons (fun own a wx hf hsl hE => ?_) ?_
    · obtain ⟨(f_12 : a.eval (.tmp 12) = .bool r33), -⟩ := hf
      obtain ⟨s_4, -⟩ := hsl
      refine sg_t rfl rfl rfl f_12 (fun hg => ?_)
      exact or_load (l := [.int .i64 b2.1, .int .i64 b2.2]) ta32 (s_4.trans e30_4) (Blk.cellsFrom (BlkO.evo (by decide) hE b30_g26).2 0 rfl) rfl
    refine steps_cons (fun own a wx hf hsl hE => ?_) ?_
    · obtain ⟨(f_12 : a.eval (.tmp 12) = .bool r33), -⟩ := hf
      obtain ⟨s_5, -⟩ := hsl
      refine sg_t rfl rfl rfl f_12 (fun hg => ?_)
      exact or_load (l := [.int .i64 p3.1, .int .i64 p3.2]) ta32 (s_5.trans e30_5) (Blk.cellsFrom (BlkO.evo (by decide) hE b30_g28).2 0 rfl) rfl
    refine steps_cons (fun own a wx hf hsl hE => ?_) ?_
    · obtain ⟨(f_12 : a.eval (.tmp 12) = .bool r33), c_13, c_14, c_15, -⟩ := hf
      refine sg_t rfl rfl rfl f_12 (fun hg => ?_)
      have f_13 : a.eval (.tmp 13) = .agg #[.int .i64 x1.1, .int .i64 x1.2] := c_13.1 hg
      have f_14 : a.eval (.tmp 14) = .agg #[.int .i64 b2.1, .int .i64 b2.2] := c_14.1 hg
      have f_15 : a.eval (.tmp 15) = .agg #[.int .i64 p3.1, .int .i64 p3.2] := c_15.1 hg
      exact or_call cf38 (args3 f_13 f_14 f_15) (exact_Turn_w _ x1 b2 p3  r34 (gd_t hr34 hg)) post_val
    refine steps_cons (fun own a wx hf hsl hE => ?_) ?_
    · obtain ⟨(f_12 : a.eval (.tmp 12) = .bool r33), c_16, -⟩ := hf
      refine sg_t rfl rfl rfl f_12 (fun hg => ?_)
      have f_16 : a.eval (.tmp 16) = .int .i64 r34 := c_16.1 hg
      exact or_eql f_16 rfl rfl
    refine steps_cons (fun own a wx hf hsl hE => ?_) ?_
    · obtain ⟨(f_12 : a.eval (.tmp 12) = .bool r33), c_17, -⟩ := hf
      exact sg_plain rfl rfl (or_and f_12 (fun hx => c_17.1 hx) rfl rfl)
    refine steps_cons (fun own a wx hf hsl hE => ?_) ?_
    · obtain ⟨(f_18 : a.eval (.tmp 18) = .bool (r33 && (decide (r34 = 0)))), -⟩ := hf
      exact sg_plain rfl rfl (or_move f_18)
    refine steps_cons (fun own a wx hf hsl hE => ?_) ?_
    · obtain ⟨(f_19 : a.eval (.tmp 19) = .bool (r33 && (decide (r34 = 0)))), -⟩ := hf
      obtain ⟨s_3, -⟩ := hsl
      refine sg_t rfl rfl rfl f_19 (fun hg => ?_)
      exact or_load (l := [.int .i64 x1.1, .int .i64 x1.2]) ta32 (s_3.trans e30_3) (Blk.cellsFrom (BlkO.evo (by decide) hE b30_g24).2 0 rfl) rfl
    refine steps_cons (fun own a wx hf hsl hE => ?_) ?_
    · obtain ⟨(f_19 : a.eval (.tmp 19) = .bool (r33 && (decide (r34 = 0)))), -⟩ := hf
      obtain ⟨s_4, -⟩ := hsl
      refine sg_t rfl rfl rfl f_19 (fun hg => ?_)
      exact or_load (l := [.int .i64 b2.1, .int .i64 b2.2]) ta32 (s_4.trans e30_4) (Blk.cellsFrom (BlkO.evo (by decide) hE b30_g26).2 0 rfl) rfl
    refine steps_cons (fun own a wx hf hsl hE => ?_) ?_
    · obtain ⟨(f_19 : a.eval (.tmp 19) = .bool (r33 && (decide (r34 = 0)))), -⟩ := hf
      obtain ⟨s_5, -⟩ := hsl
      refine sg_t rfl rfl rfl f_19 (fun hg => ?_)
      exact or_load (l := [.int .i64 p3.1, .int .i64 p3.2]) ta32 (s_5.trans e30_5) (Blk.cellsFrom (BlkO.evo (by decide) hE b30_g28).2 0 rfl) rfl
    refine steps_cons (fun own a wx hf hsl hE => ?_) ?_
    · obtain ⟨(f_19 : a.eval (.tmp 19) = .bool (r33 && (decide (r34 = 0)))), c_20, c_21, c_22, -⟩ := hf
      refine sg_t rfl rfl rfl f_19 (fun hg => ?_)
      have f_20 : a.eval (.tmp 20) = .agg #[.int .i64 x1.1, .int .i64 x1.2] := c_20.1 hg
      have f_21 : a.eval (.tmp 21) = .agg #[.int .i64 b2.1, .int .i64 b2.2] := c_21.1 hg
      have f_22 : a.eval (.tmp 22) = .agg #[.int .i64 p3.1, .int .i64 p3.2] := c_22.1 hg
      exact or_call cf60 (args3 f_20 f_21 f_22) (exact_between_w _ x1 b2 p3  r35 (gd_t hr35 hg)) post_val
    refine steps_cons (fun own a wx hf hsl hE => ?_) ?_
    · obtain ⟨(f_19 : a.eval (.tmp 19) = .bool (r33 && (decide (r34 = 0)))), c_23, -⟩ := hf
      exact sg_plain rfl rfl (or_and f_19 (fun hx => c_23.1 hx) rfl rfl)
    refine steps_cons (fun own a wx hf hsl hE => ?_) ?_
    · obtain ⟨(f_24 : a.eval (.tmp 24) = .bool ((r33 && (decide (r34 = 0))) && r35)), -⟩ := hf
      exact sg_plain rfl rfl (or_assign f_24)
    exact steps_nil
  intro own36 a36 w36 hd36 hz36 hk36 hf36 hE36
  obtain ⟨(f_6 : a36.eval (.tmp 6) = .bool ((r33 && (decide (r34 = 0))) && r35)), -⟩ := hf36 [18] rfl
  have e36_6 := f_6
  have hX36 := Evo.step hX30 (fun _ => Nat.le_refl 0) hE36 rfl
  refine fl_ret ?_
  obtain rfl := osome hs
  exact hret _ _ _ _ (.inl rfl) hd36 (results1_ rfl (RVal.tmp_ e36_6)) ⟨own36, rfl, hX36⟩

set_option maxHeartbeats 2000000 in
theorem ring_Winding_w (w : World) (l1 : List (Int × Int)) (Al1 : Option Addr) (cl1 : Nat) (p2 : Int × Int) (hl1 : RdO (fun _ => 0) [0] w R32 Al1 cl1 l1) (r : Int × Bool) (hs : ring_Winding l1 p2 = some r) :
    Calls Try.prog 16 #[.slice Al1 l1.length cl1, .agg #[.int .i64 p2.1, .int .i64 p2.2]] w fun e w' => ∃ own' : Own, e = .returned (.tuple #[.int .i64 r.1, .bool r.2]) ∧ Evo [] (fun _ => 0) own' w w' := by
  refine fl_enterM (n := 71) (kD := 11) (by decide) rfl rfl rfl (Nat.le_of_ble_eq_true rfl) ?_
  intro a0 Q hd0 hz0 harg hret
  have ha0 := harg 0 _ rfl
  have ha1 := harg 1 _ rfl
  clear harg
  have hE0 : Evo [] (fun _ => 0) (fun _ => 0) w w := Evo.refl _ _ _
  have hmk0 : MkO (fun _ => 0) 11 w [] := MkO.nil_
  refine rg_plain_seq (n := 71) (rs := []) (own0 := (fun _ => 0)) (K := [])
      (bs := [0, 0, 0])
      (ds := [⟨[], [1], [], Fct.blk 334 3 (fun g => .pointer (some ⟨g, 0, none⟩)) 32 #[.int .i64 p2.1, .int .i64 p2.2]⟩,
      ⟨[], [], [], Fct.blk 336 4 (fun g => .pointer (some ⟨g, 0, none⟩)) 3 #[.int .i64 0]⟩,
      ⟨[], [], [], Fct.blk 338 5 (fun g => .pointer (some ⟨g, 0, none⟩)) 4 #[.bool false]⟩]) (by kernel_rfl) hz0 hd0 (fun _ h => nomatch h) ?_ ?_
  · refine steps_cons (fun own a wx hf hsl hE => ?_) ?_
    · obtain ⟨s_1, -⟩ := hsl
      exact sg_plain rfl rfl (or_new [(1, .agg #[.int .i64 p2.1, .int .i64 p2.2])] rfl rfl ⟨(s_1.trans ha1), trivial⟩ (by kernel_rfl))
    refine steps_cons (fun own a wx hf hsl hE => ?_) ?_
    · exact sg_plain rfl rfl (or_new [] rfl rfl trivial (by kernel_rfl))
    refine steps_cons (fun own a wx hf hsl hE => ?_) ?_
    · exact sg_plain rfl rfl (or_new [] rfl rfl trivial (by kernel_rfl))
    exact steps_nil
  intro own339 a339 w339 hd339 hz339 hk339 hf339 hE339
  have e339_0 : a339.eval (.tmp 0) = .slice Al1 l1.length cl1 := (hk339 0 rfl).trans ha0
  obtain ⟨⟨g333, (f_3 : a339.eval (.tmp 3) = .pointer (some ⟨g333, 0, none⟩)), (b_g333 : BlkO own339 334 w339 g333 32 #[.int .i64 p2.1, .int .i64 p2.2])⟩, ⟨g335, (f_4 : a339.eval (.tmp 4) = .pointer (some ⟨g335, 0, none⟩)), (b_g335 : BlkO own339 336 w339 g335 3 #[.int .i64 0])⟩, ⟨g337, (f_5 : a339.eval (.tmp 5) = .pointer (some ⟨g337, 0, none⟩)), (b_g337 : BlkO own339 338 w339 g337 4 #[.bool false])⟩, -⟩ := hf339 [0, 1, 2] rfl
  have e339_3 := f_3
  have e339_4 := f_4
  have e339_5 := f_5
  have hX339 := Evo.step hE0 (fun _ => Nat.le_refl 0) hE339 rfl
  have b339_Al1 := RdO.evo rfl hE339 hl1
  have b339_mk := MkO.evo (by decide) hE339 hmk0
  have b339_g333 := b_g333
  have b339_g335 := b_g335
  have b339_g337 := b_g337
  refine fl_seq (fun Q340 hn340 hp340 => ?_)
  obtain ⟨r343, hr343, hs⟩ := obind hs
  obtain ⟨r344, hr344, hs⟩ := obind hs
  refine rg_plain_seq (n := 71) (rs := []) (own0 := own339) (K := [])
      (bs := [0, 1, 3, 7, 15, 31, 63, 127, 255])
      (ds := [⟨[], [3], [], Fct.val 10 (.agg #[.int .i64 p2.1, .int .i64 p2.2])⟩,
      ⟨[0], [], [], Fct.row 342 [] 11 32 R32 [p2]⟩,
      ⟨[1], [], [], Fct.val 12 (.bool r343)⟩,
      ⟨[2], [], [], Fct.val 13 (.bool (!r343))⟩,
      ⟨[3], [], [], Fct.val 14 (.bool (!r343))⟩,
      ⟨[4], [0], [], Fct.cond (!(!r343)) (some 15) (Fct.val 15 (.slice Al1 l1.length cl1))⟩,
      ⟨[4, 5], [], [], Fct.cond (!(!r343)) (some 16) (Fct.val 16 (.bool r344))⟩,
      ⟨[4, 6], [], [], Fct.cond (!(!r343)) (some 17) (Fct.val 17 (.bool (!r344)))⟩,
      ⟨[4, 7], [], [], Fct.val 18 (.bool ((!r343) || (!r344)))⟩]) (by kernel_rfl) hz339 hd339 (fun _ h => nomatch h) ?_ ?_
  · refine steps_cons (fun own a wx hf hsl hE => ?_) ?_
    · obtain ⟨s_3, -⟩ := hsl
      exact sg_plain rfl rfl (or_load (l := [.int .i64 p2.1, .int .i64 p2.2]) ta32 (s_3.trans e339_3) (Blk.cellsFrom (BlkO.evo (by decide) hE b339_g333).2 0 rfl) rfl)
    refine steps_cons (fun own a wx hf hsl hE => ?_) ?_
    · obtain ⟨(f_10 : a.eval (.tmp 10) = .agg #[.int .i64 p2.1, .int .i64 p2.2]), -⟩ := hf
      exact sg_plain rfl rfl (or_lit (lab := 342) (e := 32) (cs := #[.int .i64 p2.1, .int .i64 p2.2]) (F := E32) (or_new [(10, .agg #[.int .i64 p2.1, .int .i64 p2.2])] rfl rfl ⟨f_10, trivial⟩ (by kernel_rfl)) rfl rfl (show 1 ≤ maxLen by decide))
    refine steps_cons (fun own a wx hf hsl hE => ?_) ?_
    · obtain ⟨⟨⟨A341, cA341⟩, (f_11 : a.eval (.tmp 11) = .slice A341 [p2].length cA341), (b_A341 : RwO own 342 [] wx 32 R32 A341 cA341 [p2])⟩, -⟩ := hf
      exact sg_plain rfl rfl (or_call cf33 (args1 f_11) (exact_Right_w _ [p2] A341 cA341 (RdO.zero (RwO.rd b_A341)) r343 hr343) post_val)
    refine steps_cons (fun own a wx hf hsl hE => ?_) ?_
    · obtain ⟨(f_12 : a.eval (.tmp 12) = .bool r343), -⟩ := hf
      exact sg_plain rfl rfl (or_not f_12 rfl)
    refine steps_cons (fun own a wx hf hsl hE => ?_) ?_
    · obtain ⟨(f_13 : a.eval (.tmp 13) = .bool (!r343)), -⟩ := hf
      exact sg_plain rfl rfl (or_move f_13)
    refine steps_cons (fun own a wx hf hsl hE => ?_) ?_
    · obtain ⟨(f_14 : a.eval (.tmp 14) = .bool (!r343)), -⟩ := hf
      obtain ⟨s_0, -⟩ := hsl
      refine sg_f rfl rfl rfl f_14 (fun hg => ?_)
      exact or_move (s_0.trans e339_0)
    refine steps_cons (fun own a wx hf hsl hE => ?_) ?_
    · obtain ⟨(f_14 : a.eval (.tmp 14) = .bool (!r343)), c_15, -⟩ := hf
      refine sg_f rfl rfl rfl f_14 (fun hg => ?_)
      have f_15 : a.eval (.tmp 15) = .slice Al1 l1.length cl1 := c_15.1 hg
      exact or_call cf33 (args1 f_15) (exact_Right_w _ l1 Al1 cl1 (RdO.zero (RdO.evo rfl hE b339_Al1)) r344 (gd_t hr344 hg)) post_val
    refine steps_cons (fun own a wx hf hsl hE => ?_) ?_
    · obtain ⟨(f_14 : a.eval (.tmp 14) = .bool (!r343)), c_16, -⟩ := hf
      refine sg_f rfl rfl rfl f_14 (fun hg => ?_)
      have f_16 : a.eval (.tmp 16) = .bool r344 := c_16.1 hg
      exact or_not f_16 rfl
    refine steps_cons (fun own a wx hf hsl hE => ?_) ?_
    · obtain ⟨(f_14 : a.eval (.tmp 14) = .bool (!r343)), c_17, -⟩ := hf
      exact sg_plain rfl rfl (or_or f_14 rfl (fun hx => c_17.1 hx) rfl)
    exact steps_nil
  intro own345 a345 w345 hd345 hz345 hk345 hf345 hE345
  have e345_0 : a345.eval (.tmp 0) = .slice Al1 l1.length cl1 := (hk345 0 rfl).trans e339_0
  have e345_3 : a345.eval (.tmp 3) = .pointer (some ⟨g333, 0, none⟩) := (hk345 3 rfl).trans e339_3
  have e345_4 : a345.eval (.tmp 4) = .pointer (some ⟨g335, 0, none⟩) := (hk345 4 rfl).trans e339_4
  have e345_5 : a345.eval (.tmp 5) = .pointer (some ⟨g337, 0, none⟩) := (hk345 5 rfl).trans e339_5
  obtain ⟨(f_18 : a345.eval (.tmp 18) = .bool ((!r343) || (!r344))), -⟩ := hf345 [8] rfl
  have e345_18 := f_18
  have hX345 := Evo.step hX339 (fun _ => Nat.le_refl 0) hE345 rfl
  have b345_Al1 := RdO.evo rfl hE345 b339_Al1
  have b345_mk := MkO.evo (by decide) hE345 b339_mk
  have b345_g333 := BlkO.evo (by decide) hE345 b339_g333
  have b345_g335 := BlkO.evo (by decide) hE345 b339_g335
  have b345_g337 := BlkO.evo (by decide) hE345 b339_g337
  refine fl_cond e345_18 hs (fun c346 hs => ?_) (fun c346 hs => ?_)
  · refine rg_plain_seq (n := 71) (rs := [Fct.at_ 336 g335 3 #[.int .i64 0], Fct.at_ 338 g337 4 #[.bool false]]) (own0 := own345) (K := [336, 338])
        (bs := [0, 1])
        (ds := [⟨[2], [4], [336], Fct.at_ 348 g335 3 #[.int .i64 0]⟩,
        ⟨[3], [5], [338], Fct.at_ 349 g337 4 #[.bool false]⟩]) (by kernel_rfl) hz345 hd345 (by simp only [List.forall_mem_cons]; exact ⟨b345_g335, b345_g337, fun _ h => nomatch h⟩) ?_ ?_
    · refine steps_cons (fun own a wx hf hsl hE => ?_) ?_
      · obtain ⟨(b_g335 : BlkO own 336 wx g335 3 #[.int .i64 0]), -⟩ := hf
        obtain ⟨s_4, -⟩ := hsl
        exact sg_plain rfl rfl (or_store1 (lab := 336) (lab2 := 348) ts3 (s_4.trans e345_4) rfl b_g335 (by simp) rfl (mem_of rfl) (by decide) rfl (fun own' a' w' ha hb => hb))
      refine steps_cons (fun own a wx hf hsl hE => ?_) ?_
      · obtain ⟨(b_g337 : BlkO own 338 wx g337 4 #[.bool false]), -⟩ := hf
        obtain ⟨s_5, -⟩ := hsl
        exact sg_plain rfl rfl (or_store1 (lab := 338) (lab2 := 349) ts4 (s_5.trans e345_5) rfl b_g337 (by simp) rfl (mem_of rfl) (by decide) rfl (fun own' a' w' ha hb => hb))
      exact steps_nil
    intro own350 a350 w350 hd350 hz350 hk350 hf350 hE350
    have e350_4 : a350.eval (.tmp 4) = .pointer (some ⟨g335, 0, none⟩) := (hk350 4 rfl).trans e345_4
    have e350_5 : a350.eval (.tmp 5) = .pointer (some ⟨g337, 0, none⟩) := (hk350 5 rfl).trans e345_5
    obtain ⟨(b_g335 : BlkO own350 348 w350 g335 3 #[.int .i64 0]), (b_g337 : BlkO own350 349 w350 g337 4 #[.bool false]), -⟩ := hf350 [0, 1] rfl
    have hX350 := Evo.step hX345 (fun _ => Nat.le_refl 0) hE350 rfl
    have b350_mk := MkO.evo (by decide) hE350 b345_mk
    have b350_g335 := b_g335
    have b350_g337 := b_g337
    refine fl_ret ?_
    refine hp340 _ _ _ rfl ?_
    refine hret _ _ _ _ _ (.inl rfl) hd350 b350_mk (fun own351 w351 hE351 => ?_)
    have hX352 := Evo.step hX350 (fun _ => Nat.le_refl 0) hE351 rfl
    have b352_g335 := BlkO.evo (by decide) hE351 b350_g335
    have b352_g337 := BlkO.evo (by decide) hE351 b350_g337
    obtain rfl := osome hs
    exact ⟨_, results2_ rfl (RVal.cell_ e350_4 (run_loadVarOne to3 (Blk.at_ b352_g335.2 0 rfl))) (RVal.cell_ e350_5 (run_loadVarOne to4 (Blk.at_ b352_g337.2 0 rfl))), ⟨own351, rfl, hX352⟩⟩
  refine fl_skip ?_
  refine hn340 _ _ ?_
  refine rg_plain_seq (n := 71) (rs := []) (own0 := own345) (K := [354])
      (bs := [0, 1])
      (ds := [⟨[], [], [], Fct.blk 354 6 (fun g => .pointer (some ⟨g, 0, none⟩)) 3 #[.int .i64 0]⟩,
      ⟨[0], [], [354], Fct.blk 355 6 (fun g => .pointer (some ⟨g, 0, none⟩)) 3 #[.int .i64 0]⟩]) (by kernel_rfl) hz345 hd345 (fun _ h => nomatch h) ?_ ?_
  · refine steps_cons (fun own a wx hf hsl hE => ?_) ?_
    · exact sg_plain rfl rfl (or_new [] rfl rfl trivial (by kernel_rfl))
    refine steps_cons (fun own a wx hf hsl hE => ?_) ?_
    · obtain ⟨⟨g353, (f_6 : a.eval (.tmp 6) = .pointer (some ⟨g353, 0, none⟩)), (b_g353 : BlkO own 354 wx g353 3 #[.int .i64 0])⟩, -⟩ := hf
      exact sg_plain rfl rfl (or_store1 (lab := 354) (lab2 := 355) ts3 f_6 rfl b_g353 (by simp) rfl (mem_of rfl) (by decide) rfl (fun own' a' w' ha hb => ⟨_, (ha 6).trans f_6, hb⟩))
    exact steps_nil
  intro own356 a356 w356 hd356 hz356 hk356 hf356 hE356
  have e356_0 : a356.eval (.tmp 0) = .slice Al1 l1.length cl1 := (hk356 0 rfl).trans e345_0
  have e356_3 : a356.eval (.tmp 3) = .pointer (some ⟨g333, 0, none⟩) := (hk356 3 rfl).trans e345_3
  have e356_4 : a356.eval (.tmp 4) = .pointer (some ⟨g335, 0, none⟩) := (hk356 4 rfl).trans e345_4
  have e356_5 : a356.eval (.tmp 5) = .pointer (some ⟨g337, 0, none⟩) := (hk356 5 rfl).trans e345_5
  obtain ⟨⟨g353, (f_6 : a356.eval (.tmp 6) = .pointer (some ⟨g353, 0, none⟩)), (b_g353 : BlkO own356 355 w356 g353 3 #[.int .i64 0])⟩, -⟩ := hf356 [1] rfl
  have e356_6 := f_6
  have hX356 := Evo.step hX345 (fun _ => Nat.le_refl 0) hE356 rfl
  have b356_Al1 := RdO.evo rfl hE356 b345_Al1
  have b356_mk := MkO.evo (by decide) hE356 b345_mk
  have b356_g333 := BlkO.evo (by decide) hE356 b345_g333
  have b356_g335 := BlkO.evo (by decide) hE356 b345_g335
  have b356_g337 := BlkO.evo (by decide) hE356 b345_g337
  have b356_g353 := b_g353
  refine fl_seq (fun Q357 hn357 hp357 => ?_)
  refine rg_plain_seq (n := 71) (rs := []) (own0 := own356) (K := [])
      (bs := [0, 1])
      (ds := [⟨[], [0], [], Fct.val 19 (.slice Al1 l1.length cl1)⟩,
      ⟨[0], [], [], Fct.mems [359] 20 (fun (x : Option Addr × Nat) => .func (.func 55) #[] #[.pointer (some ⟨x.2, 0, none⟩)]) (fun (x : Option Addr × Nat) own w => BlkO own 359 w x.2 22 #[.slice Al1 l1.length cl1]) (fun hk he h => BlkO.evo (not_hit hk (by decide)) he h)⟩]) (by kernel_rfl) hz356 hd356 (fun _ h => nomatch h) ?_ ?_
  · refine steps_cons (fun own a wx hf hsl hE => ?_) ?_
    · obtain ⟨s_0, -⟩ := hsl
      exact sg_plain rfl rfl (or_move (s_0.trans e356_0))
    refine steps_cons (fun own a wx hf hsl hE => ?_) ?_
    · obtain ⟨(f_19 : a.eval (.tmp 19) = .slice Al1 l1.length cl1), -⟩ := hf
      exact sg_plain rfl rfl (or_call cf34 (args1 f_19) (ring_edges_w _ l1 Al1 cl1 (RdO.zero (RdO.evo rfl hE b356_Al1)) () rfl) (post_mems (m := (fun _ => 0)) (m' := (look0 [(1, 359)])) (fun _ _ => .inl rfl) (fun own' w' a' x h1 h => ⟨x, h1, BlkO.back_ h (by decide)⟩)))
    exact steps_nil
  intro own360 a360 w360 hd360 hz360 hk360 hf360 hE360
  have e360_3 : a360.eval (.tmp 3) = .pointer (some ⟨g333, 0, none⟩) := (hk360 3 rfl).trans e356_3
  have e360_4 : a360.eval (.tmp 4) = .pointer (some ⟨g335, 0, none⟩) := (hk360 4 rfl).trans e356_4
  have e360_5 : a360.eval (.tmp 5) = .pointer (some ⟨g337, 0, none⟩) := (hk360 5 rfl).trans e356_5
  have e360_6 : a360.eval (.tmp 6) = .pointer (some ⟨g353, 0, none⟩) := (hk360 6 rfl).trans e356_6
  obtain ⟨⟨⟨A358, cA358⟩, (f_20 : a360.eval (.tmp 20) = .func (.func 55) #[] #[.pointer (some ⟨cA358, 0, none⟩)]), (b_cA358 : BlkO own360 359 w360 cA358 22 #[.slice Al1 l1.length cl1])⟩, -⟩ := hf360 [1] rfl
  have e360_20 := f_20
  have hX360 := Evo.step hX356 (fun _ => Nat.le_refl 0) hE360 rfl
  have b360_Al1 := RdO.evo rfl hE360 b356_Al1
  have b360_mk := MkO.evo (by decide) hE360 b356_mk
  have b360_g333 := BlkO.evo (by decide) hE360 b356_g333
  have b360_g335 := BlkO.evo (by decide) hE360 b356_g335
  have b360_g337 := BlkO.evo (by decide) hE360 b356_g337
  have b360_g353 := BlkO.evo (by decide) hE360 b356_g353
  have b360_cA358 := b_cA358
  refine fl_block (fun Q361 hn361 hx361 hp361 => ?_)
  obtain ⟨zz552, hzz552, hs⟩ := rngO_some hs
  refine fl_range (S := Int) (D := Unit) (X := (Int × Int) × (Int × Int)) (encs := (fun (x : (Int × Int) × (Int × Int)) => #[.agg #[.int .i64 x.1.1, .int .i64 x.1.2], .agg #[.int .i64 x.2.1, .int .i64 x.2.2]])) (n := 71) [336, 338, 355, 559, 563, 629, 637, 638, 643, 648] 553 11 rfl
      (fun (n457 : Int) (ox : Own) (wx : World) => Evo [] (fun _ => 0) ox w wx ∧ BlkO ox 334 wx g333 32 #[.int .i64 p2.1, .int .i64 p2.2] ∧ BlkO ox 336 wx g335 3 #[.int .i64 0] ∧ BlkO ox 338 wx g337 4 #[.bool false] ∧ BlkO ox 355 wx g353 3 #[.int .i64 n457] ∧ BlkO ox 359 wx cA358 22 #[.slice Al1 l1.length cl1] ∧ RdO ox [0] wx R32 Al1 cl1 l1)
      (fun (_ : Unit) (ox : Own) (wx : World) => Evo [] (fun _ => 0) ox w wx ∧ BlkO ox 539 wx g335 3 #[.int .i64 0] ∧ BlkO ox 540 wx g337 4 #[.bool false])
      (fun _ => Code.ret) (fun (sr : Int) (xr : (Int × Int) × (Int × Int)) => ring_Winding_b2 p2 sr xr) hz360 rfl e360_20 cf55 (cargs := fun l => #[.func (.yield l) #[] #[], .pointer (some ⟨cA358, 0, none⟩)]) (fun _ => by simp) (fun _ => rfl) hd360 b360_mk ?_ ?_ 0 zz552 ⟨hX360, b360_g333, b360_g335, b360_g337, b360_g353, b360_cA358, b360_Al1⟩ ?_ ?_ ?_ ?_
  · rintro n457 ox ox1 wx wx1 hEs ⟨h552_0, h552_1, h552_2, h552_3, h552_4, h552_5, h552_6⟩
    exact ⟨(Evo.step h552_0 (fun _ => Nat.le_refl 0) hEs rfl), (BlkO.evo (by decide) hEs h552_1), (BlkO.evo (by decide) hEs h552_2), (BlkO.evo (by decide) hEs h552_3), (BlkO.evo (by decide) hEs h552_4), (BlkO.evo (by decide) hEs h552_5), (RdO.evo rfl hEs h552_6)⟩
  · rintro _ ox ox1 wx wx1 hEs ⟨h552_0, h552_1, h552_2⟩
    exact ⟨(Evo.step h552_0 (fun _ => Nat.le_refl 0) hEs rfl), (BlkO.evo (by decide) hEs h552_1), (BlkO.evo (by decide) hEs h552_2)⟩
  · intro l552 own1 w1 J552 hE1 hJ1 hR1
    exact (ring_edges_1_w w1 (forth own1 (look0 (kj 553 [336, 338, 355, 559, 563, 629, 637, 638, 643, 648]))) (Int ⊕ Unit) (yb (fun (sr : Int) (xr : (Int × Int) × (Int × Int)) => ring_Winding_b2 p2 sr xr)) J552 l552 (Sum.inl 0) l1 cA358 22 Al1 cl1 (look0_le rfl) hR1 hJ1 (BlkO.forth_ (BlkO.evo (by decide) hE1 b360_cA358)) (RdO.forth0_ (RdO.evo rfl hE1 b360_Al1) rfl) zz552 hzz552).mono fun e wz ⟨oz, he, _, hJz⟩ => ⟨_, oz, he, hJz⟩
  · rintro l556 n457 x555 zz2 own556 a556 w556 Ds556 ⟨hE557, b557_g333, b557_g335, b557_g337, b557_g353, b557_cA358, b557_Al1⟩ - hrc556 hs ⟨hd556, hz556, hkp556, hpar556⟩ Q556 hn556
    have hs : ring_Winding_b2 p2 n457 x555 = some zz2 := hs
    replace hz556 := hz556.trans hz360
    have e556_3 : a556.eval (.tmp 3) = .pointer (some ⟨g333, 0, none⟩) := (hkp556 3 rfl).trans e360_3
    have e556_4 : a556.eval (.tmp 4) = .pointer (some ⟨g335, 0, none⟩) := (hkp556 4 rfl).trans e360_4
    have e556_5 : a556.eval (.tmp 5) = .pointer (some ⟨g337, 0, none⟩) := (hkp556 5 rfl).trans e360_5
    have e556_6 : a556.eval (.tmp 6) = .pointer (some ⟨g353, 0, none⟩) := (hkp556 6 rfl).trans e360_6
    have e556_20 : a556.eval (.tmp 20) = .func (.func 55) #[] #[.pointer (some ⟨cA358, 0, none⟩)] := (hkp556 20 rfl).trans e360_20
    have e556_21 : a556.eval (.tmp 21) = .agg #[.int .i64 x555.1.1, .int .i64 x555.1.2] := hpar556 0 21 _ rfl rfl
    have e556_22 : a556.eval (.tmp 22) = .agg #[.int .i64 x555.2.1, .int .i64 x555.2.2] := hpar556 1 22 _ rfl rfl
    have hE556 := Evo.refl [336, 338, 355, 559, 563, 629, 637, 638, 643, 648] own556 w556
    have hrc0_556 := hrc556
    refine rg_plain_seq (n := 71) (rs := []) (own0 := own556) (K := [559])
        (bs := [0, 1])
        (ds := [⟨[], [], [], Fct.blk 559 7 (fun g => .pointer (some ⟨g, 0, none⟩)) 32 #[.int .i64 0, .int .i64 0]⟩,
        ⟨[0], [21], [559], Fct.blk 560 7 (fun g => .pointer (some ⟨g, 0, none⟩)) 32 #[.int .i64 x555.1.1, .int .i64 x555.1.2]⟩]) (by kernel_rfl) hz556 hd556 (fun _ h => nomatch h) ?_ ?_
    · refine steps_cons (fun own a wx hf hsl hE => ?_) ?_
      · exact sg_plain rfl rfl (or_new [] rfl rfl trivial (by kernel_rfl))
      refine steps_cons (fun own a wx hf hsl hE => ?_) ?_
      · obtain ⟨⟨g558, (f_7 : a.eval (.tmp 7) = .pointer (some ⟨g558, 0, none⟩)), (b_g558 : BlkO own 559 wx g558 32 #[.int .i64 0, .int .i64 0])⟩, -⟩ := hf
        obtain ⟨s_21, -⟩ := hsl
        exact sg_plain rfl rfl (or_store (l := #[.int .i64 x555.1.1, .int .i64 x555.1.2]) (lab := 559) (lab2 := 560) ts32 f_7 (s_21.trans e556_21) b_g558 (by simp) (by kernel_rfl) (mem_of rfl) (by decide) (by kernel_rfl) (fun own' a' w' ha hb => ⟨_, (ha 7).trans f_7, hb⟩))
      exact steps_nil
    intro own561 a561 w561 hd561 hz561 hk561 hf561 hE561
    have e561_3 : a561.eval (.tmp 3) = .pointer (some ⟨g333, 0, none⟩) := (hk561 3 rfl).trans e556_3
    have e561_4 : a561.eval (.tmp 4) = .pointer (some ⟨g335, 0, none⟩) := (hk561 4 rfl).trans e556_4
    have e561_5 : a561.eval (.tmp 5) = .pointer (some ⟨g337, 0, none⟩) := (hk561 5 rfl).trans e556_5
    have e561_6 : a561.eval (.tmp 6) = .pointer (some ⟨g353, 0, none⟩) := (hk561 6 rfl).trans e556_6
    have e561_20 : a561.eval (.tmp 20) = .func (.func 55) #[] #[.pointer (some ⟨cA358, 0, none⟩)] := (hk561 20 rfl).trans e556_20
    have e561_22 : a561.eval (.tmp 22) = .agg #[.int .i64 x555.2.1, .int .i64 x555.2.2] := (hk561 22 rfl).trans e556_22
    obtain ⟨⟨g558, (f_7 : a561.eval (.tmp 7) = .pointer (some ⟨g558, 0, none⟩)), (b_g558 : BlkO own561 560 w561 g558 32 #[.int .i64 x555.1.1, .int .i64 x555.1.2])⟩, -⟩ := hf561 [1] rfl
    have e561_7 := f_7
    have hX561 := Evo.stepK hE556 hE561 rfl
    have b561_g333 := BlkO.evo (by decide) hE561 b557_g333
    have b561_g335 := BlkO.evo (by decide) hE561 b557_g335
    have b561_g337 := BlkO.evo (by decide) hE561 b557_g337
    have b561_g353 := BlkO.evo (by decide) hE561 b557_g353
    have b561_cA358 := BlkO.evo (by decide) hE561 b557_cA358
    have b561_Al1 := RdO.evo rfl hE561 b557_Al1
    have b561_g558 := b_g558
    refine rg_plain (n := 71) (rs := []) (own0 := own561) (K := [563])
        (bs := [0, 1])
        (ds := [⟨[], [], [], Fct.blk 563 8 (fun g => .pointer (some ⟨g, 0, none⟩)) 32 #[.int .i64 0, .int .i64 0]⟩,
        ⟨[0], [22], [563], Fct.blk 564 8 (fun g => .pointer (some ⟨g, 0, none⟩)) 32 #[.int .i64 x555.2.1, .int .i64 x555.2.2]⟩]) (by kernel_rfl) hz561 hd561 (fun _ h => nomatch h) ?_ ?_
    · refine steps_cons (fun own a wx hf hsl hE => ?_) ?_
      · exact sg_plain rfl rfl (or_new [] rfl rfl trivial (by kernel_rfl))
      refine steps_cons (fun own a wx hf hsl hE => ?_) ?_
      · obtain ⟨⟨g562, (f_8 : a.eval (.tmp 8) = .pointer (some ⟨g562, 0, none⟩)), (b_g562 : BlkO own 563 wx g562 32 #[.int .i64 0, .int .i64 0])⟩, -⟩ := hf
        obtain ⟨s_22, -⟩ := hsl
        exact sg_plain rfl rfl (or_store (l := #[.int .i64 x555.2.1, .int .i64 x555.2.2]) (lab := 563) (lab2 := 564) ts32 f_8 (s_22.trans e561_22) b_g562 (by simp) (by kernel_rfl) (mem_of rfl) (by decide) (by kernel_rfl) (fun own' a' w' ha hb => ⟨_, (ha 8).trans f_8, hb⟩))
      exact steps_nil
    intro own565 a565 w565 hd565 hz565 hk565 hf565 hE565
    have e565_3 : a565.eval (.tmp 3) = .pointer (some ⟨g333, 0, none⟩) := (hk565 3 rfl).trans e561_3
    have e565_4 : a565.eval (.tmp 4) = .pointer (some ⟨g335, 0, none⟩) := (hk565 4 rfl).trans e561_4
    have e565_5 : a565.eval (.tmp 5) = .pointer (some ⟨g337, 0, none⟩) := (hk565 5 rfl).trans e561_5
    have e565_6 : a565.eval (.tmp 6) = .pointer (some ⟨g353, 0, none⟩) := (hk565 6 rfl).trans e561_6
    have e565_7 : a565.eval (.tmp 7) = .pointer (some ⟨g558, 0, none⟩) := (hk565 7 rfl).trans e561_7
    have e565_20 : a565.eval (.tmp 20) = .func (.func 55) #[] #[.pointer (some ⟨cA358, 0, none⟩)] := (hk565 20 rfl).trans e561_20
    obtain ⟨⟨g562, (f_8 : a565.eval (.tmp 8) = .pointer (some ⟨g562, 0, none⟩)), (b_g562 : BlkO own565 564 w565 g562 32 #[.int .i64 x555.2.1, .int .i64 x555.2.2])⟩, -⟩ := hf565 [1] rfl
    have e565_8 := f_8
    have hX565 := Evo.stepK hX561 hE565 rfl
    have b565_g333 := BlkO.evo (by decide) hE565 b561_g333
    have b565_g335 := BlkO.evo (by decide) hE565 b561_g335
    have b565_g337 := BlkO.evo (by decide) hE565 b561_g337
    have b565_g353 := BlkO.evo (by decide) hE565 b561_g353
    have b565_cA358 := BlkO.evo (by decide) hE565 b561_cA358
    have b565_Al1 := RdO.evo rfl hE565 b561_Al1
    have b565_g558 := BlkO.evo (by decide) hE565 b561_g558
    have b565_g562 := b_g562
    refine hn556 _ _ _ hX565 (fun w566 own566 hE566 hrc566 => ?_)
    have b566_g333 := BlkO.evo (by decide) hE566 b565_g333
    have b566_g335 := BlkO.evo (by decide) hE566 b565_g335
    have b566_g337 := BlkO.evo (by decide) hE566 b565_g337
    have b566_g353 := BlkO.evo (by decide) hE566 b565_g353
    have b566_cA358 := BlkO.evo (by decide) hE566 b565_cA358
    have b566_Al1 := RdO.evo rfl hE566 b565_Al1
    have b566_g558 := BlkO.evo (by decide) hE566 b565_g558
    have b566_g562 := BlkO.evo (by decide) hE566 b565_g562
    have hU566 := Evo.step (Evo.step hE557 (fun _ => Nat.le_refl 0) hX565 rfl) (fun _ => Nat.le_refl 0) hE566 rfl
    have hX566 := Evo.refl [336, 338, 355, 559, 563, 629, 637, 638, 643, 648] own566 w566
    have hmk566 : MkO own566 11 w566 [] := MkO.nil_
    refine fl_block (fun Q567 hn567 hx567 hp567 => ?_)
    obtain ⟨r609, hr609, hs⟩ := obind hs
    refine rg_plain_seq (n := 71) (rs := []) (own0 := own566) (K := [])
        (bs := [0, 0, 0, 7, 15])
        (ds := [⟨[], [7], [], Fct.val 23 (.agg #[.int .i64 x555.1.1, .int .i64 x555.1.2])⟩,
        ⟨[], [8], [], Fct.val 24 (.agg #[.int .i64 x555.2.1, .int .i64 x555.2.2])⟩,
        ⟨[], [3], [], Fct.val 25 (.agg #[.int .i64 p2.1, .int .i64 p2.2])⟩,
        ⟨[0, 1, 2], [], [], Fct.val 26 (.int .i64 r609)⟩,
        ⟨[3], [], [], Fct.val 9 (.int .i64 r609)⟩]) (by kernel_rfl) hz565 hd565 (fun _ h => nomatch h) ?_ ?_
    · refine steps_cons (fun own a wx hf hsl hE => ?_) ?_
      · obtain ⟨s_7, -⟩ := hsl
        exact sg_plain rfl rfl (or_load (l := [.int .i64 x555.1.1, .int .i64 x555.1.2]) ta32 (s_7.trans e565_7) (Blk.cellsFrom (BlkO.evo (by decide) hE b566_g558).2 0 rfl) rfl)
      refine steps_cons (fun own a wx hf hsl hE => ?_) ?_
      · obtain ⟨s_8, -⟩ := hsl
        exact sg_plain rfl rfl (or_load (l := [.int .i64 x555.2.1, .int .i64 x555.2.2]) ta32 (s_8.trans e565_8) (Blk.cellsFrom (BlkO.evo (by decide) hE b566_g562).2 0 rfl) rfl)
      refine steps_cons (fun own a wx hf hsl hE => ?_) ?_
      · obtain ⟨s_3, -⟩ := hsl
        exact sg_plain rfl rfl (or_load (l := [.int .i64 p2.1, .int .i64 p2.2]) ta32 (s_3.trans e565_3) (Blk.cellsFrom (BlkO.evo (by decide) hE b566_g333).2 0 rfl) rfl)
      refine steps_cons (fun own a wx hf hsl hE => ?_) ?_
      · obtain ⟨(f_23 : a.eval (.tmp 23) = .agg #[.int .i64 x555.1.1, .int .i64 x555.1.2]), (f_24 : a.eval (.tmp 24) = .agg #[.int .i64 x555.2.1, .int .i64 x555.2.2]), (f_25 : a.eval (.tmp 25) = .agg #[.int .i64 p2.1, .int .i64 p2.2]), -⟩ := hf
        exact sg_plain rfl rfl (or_call cf38 (args3 f_23 f_24 f_25) (exact_Turn_w _ x555.1 x555.2 p2  r609 hr609) post_val)
      refine steps_cons (fun own a wx hf hsl hE => ?_) ?_
      · obtain ⟨(f_26 : a.eval (.tmp 26) = .int .i64 r609), -⟩ := hf
        exact sg_plain rfl rfl (or_assign f_26)
      exact steps_nil
    intro own610 a610 w610 hd610 hz610 hk610 hf610 hE610
    have e610_3 : a610.eval (.tmp 3) = .pointer (some ⟨g333, 0, none⟩) := (hk610 3 rfl).trans e565_3
    have e610_4 : a610.eval (.tmp 4) = .pointer (some ⟨g335, 0, none⟩) := (hk610 4 rfl).trans e565_4
    have e610_5 : a610.eval (.tmp 5) = .pointer (some ⟨g337, 0, none⟩) := (hk610 5 rfl).trans e565_5
    have e610_6 : a610.eval (.tmp 6) = .pointer (some ⟨g353, 0, none⟩) := (hk610 6 rfl).trans e565_6
    have e610_7 : a610.eval (.tmp 7) = .pointer (some ⟨g558, 0, none⟩) := (hk610 7 rfl).trans e565_7
    have e610_8 : a610.eval (.tmp 8) = .pointer (some ⟨g562, 0, none⟩) := (hk610 8 rfl).trans e565_8
    have e610_20 : a610.eval (.tmp 20) = .func (.func 55) #[] #[.pointer (some ⟨cA358, 0, none⟩)] := (hk610 20 rfl).trans e565_20
    obtain ⟨(f_9 : a610.eval (.tmp 9) = .int .i64 r609), -⟩ := hf610 [4] rfl
    have e610_9 := f_9
    have hX610 := Evo.stepK hX566 hE610 rfl
    have b610_g333 := BlkO.evo (by decide) hE610 b566_g333
    have b610_g335 := BlkO.evo (by decide) hE610 b566_g335
    have b610_g337 := BlkO.evo (by decide) hE610 b566_g337
    have b610_g353 := BlkO.evo (by decide) hE610 b566_g353
    have b610_cA358 := BlkO.evo (by decide) hE610 b566_cA358
    have b610_Al1 := RdO.evo rfl hE610 b566_Al1
    have b610_g558 := BlkO.evo (by decide) hE610 b566_g558
    have b610_g562 := BlkO.evo (by decide) hE610 b566_g562
    have b610_rc := RcO.evo (by decide) hE610 hrc566
    have b610_mk := MkO.evo (by decide) hE610 hmk566
    refine fl_block (fun Q611 hn611 hx611 hp611 => ?_)
    have K631 : ∀ (a631 : Act) (w631 : World) (own631 : Own) (n630 : Int), a631.defers = mkD [] → a631.tmps.size = 71 → a631.eval (.tmp 3) = .pointer (some ⟨g333, 0, none⟩) → a631.eval (.tmp 4) = .pointer (some ⟨g335, 0, none⟩) → a631.eval (.tmp 5) = .pointer (some ⟨g337, 0, none⟩) → a631.eval (.tmp 6) = .pointer (some ⟨g353, 0, none⟩) → a631.eval (.tmp 20) = .func (.func 55) #[] #[.pointer (some ⟨cA358, 0, none⟩)] → Evo [336, 338, 355, 559, 563, 629, 637, 638, 643, 648] own566 own631 w566 w631 → BlkO own631 334 w631 g333 32 #[.int .i64 p2.1, .int .i64 p2.2] → BlkO own631 336 w631 g335 3 #[.int .i64 0] → BlkO own631 338 w631 g337 4 #[.bool false] → BlkO own631 629 w631 g353 3 #[.int .i64 n630] → BlkO own631 359 w631 cA358 22 #[.slice Al1 l1.length cl1] → RdO own631 [0] w631 R32 Al1 cl1 l1 → MkO own631 11 w631 [] → RcO own631 553 w631 l556 → ring_Winding_k1 n630 = some zz2 → (Q611 .normal a631 w631 ∧ Q611 (.exit 2) a631 w631) := by
      intro a631 w631 own631 n630 hd632 hz632 e632_3 e632_4 e632_5 e632_6 e632_20 hE632 b632_g333 b632_g335 b632_g337 b632_g353 b632_cA358 b632_Al1 b632_mk b632_rc hs
      refine and_both (hn611 _ _) (hx611 _ _) ?_
      refine hn567 _ _ ?_
      exact ⟨_, (rl [(629, 355)] own631), osome hs, (Evo.rlK hE632 rfl), (Evo.step hU566 (fun _ => Nat.le_refl 0) (Evo.rlK hE632 rfl) rfl), (BlkO.rl_ (mm := [(629, 355)]) b632_g333), (BlkO.rl_ (mm := [(629, 355)]) b632_g335), (BlkO.rl_ (mm := [(629, 355)]) b632_g337), (BlkO.rl_ (mm := [(629, 355)]) b632_g353), (BlkO.rl_ (mm := [(629, 355)]) b632_cA358), (RdO.rl_ (mm := [(629, 355)]) b632_Al1)⟩
    obtain ⟨r633, hr633, hs⟩ := obind hs
    refine rg_plain_seq (n := 71) (rs := []) (own0 := own610) (K := [])
        (bs := [0, 0, 0, 7, 15])
        (ds := [⟨[], [7], [], Fct.val 28 (.agg #[.int .i64 x555.1.1, .int .i64 x555.1.2])⟩,
        ⟨[], [8], [], Fct.val 29 (.agg #[.int .i64 x555.2.1, .int .i64 x555.2.2])⟩,
        ⟨[], [3], [], Fct.val 30 (.agg #[.int .i64 p2.1, .int .i64 p2.2])⟩,
        ⟨[0, 1, 2], [], [], Fct.val 31 (.bool r633)⟩,
        ⟨[3], [], [], Fct.val 27 (.bool r633)⟩]) (by kernel_rfl) hz610 hd610 (fun _ h => nomatch h) ?_ ?_
    · refine steps_cons (fun own a wx hf hsl hE => ?_) ?_
      · obtain ⟨s_7, -⟩ := hsl
        exact sg_plain rfl rfl (or_load (l := [.int .i64 x555.1.1, .int .i64 x555.1.2]) ta32 (s_7.trans e610_7) (Blk.cellsFrom (BlkO.evo (by decide) hE b610_g558).2 0 rfl) rfl)
      refine steps_cons (fun own a wx hf hsl hE => ?_) ?_
      · obtain ⟨s_8, -⟩ := hsl
        exact sg_plain rfl rfl (or_load (l := [.int .i64 x555.2.1, .int .i64 x555.2.2]) ta32 (s_8.trans e610_8) (Blk.cellsFrom (BlkO.evo (by decide) hE b610_g562).2 0 rfl) rfl)
      refine steps_cons (fun own a wx hf hsl hE => ?_) ?_
      · obtain ⟨s_3, -⟩ := hsl
        exact sg_plain rfl rfl (or_load (l := [.int .i64 p2.1, .int .i64 p2.2]) ta32 (s_3.trans e610_3) (Blk.cellsFrom (BlkO.evo (by decide) hE b610_g333).2 0 rfl) rfl)
      refine steps_cons (fun own a wx hf hsl hE => ?_) ?_
      · obtain ⟨(f_28 : a.eval (.tmp 28) = .agg #[.int .i64 x555.1.1, .int .i64 x555.1.2]), (f_29 : a.eval (.tmp 29) = .agg #[.int .i64 x555.2.1, .int .i64 x555.2.2]), (f_30 : a.eval (.tmp 30) = .agg #[.int .i64 p2.1, .int .i64 p2.2]), -⟩ := hf
        exact sg_plain rfl rfl (or_call cf39 (args3 f_28 f_29 f_30) (exact_On_w _ x555.1 x555.2 p2  r633 hr633) post_val)
      refine steps_cons (fun own a wx hf hsl hE => ?_) ?_
      · obtain ⟨(f_31 : a.eval (.tmp 31) = .bool r633), -⟩ := hf
        exact sg_plain rfl rfl (or_assign f_31)
      exact steps_nil
    intro own634 a634 w634 hd634 hz634 hk634 hf634 hE634
    have e634_3 : a634.eval (.tmp 3) = .pointer (some ⟨g333, 0, none⟩) := (hk634 3 rfl).trans e610_3
    have e634_4 : a634.eval (.tmp 4) = .pointer (some ⟨g335, 0, none⟩) := (hk634 4 rfl).trans e610_4
    have e634_5 : a634.eval (.tmp 5) = .pointer (some ⟨g337, 0, none⟩) := (hk634 5 rfl).trans e610_5
    have e634_6 : a634.eval (.tmp 6) = .pointer (some ⟨g353, 0, none⟩) := (hk634 6 rfl).trans e610_6
    have e634_7 : a634.eval (.tmp 7) = .pointer (some ⟨g558, 0, none⟩) := (hk634 7 rfl).trans e610_7
    have e634_8 : a634.eval (.tmp 8) = .pointer (some ⟨g562, 0, none⟩) := (hk634 8 rfl).trans e610_8
    have e634_9 : a634.eval (.tmp 9) = .int .i64 r609 := (hk634 9 rfl).trans e610_9
    have e634_20 : a634.eval (.tmp 20) = .func (.func 55) #[] #[.pointer (some ⟨cA358, 0, none⟩)] := (hk634 20 rfl).trans e610_20
    obtain ⟨(f_27 : a634.eval (.tmp 27) = .bool r633), -⟩ := hf634 [4] rfl
    have e634_27 := f_27
    have hX634 := Evo.stepK hX610 hE634 rfl
    have b634_g333 := BlkO.evo (by decide) hE634 b610_g333
    have b634_g335 := BlkO.evo (by decide) hE634 b610_g335
    have b634_g337 := BlkO.evo (by decide) hE634 b610_g337
    have b634_g353 := BlkO.evo (by decide) hE634 b610_g353
    have b634_cA358 := BlkO.evo (by decide) hE634 b610_cA358
    have b634_Al1 := RdO.evo rfl hE634 b610_Al1
    have b634_g558 := BlkO.evo (by decide) hE634 b610_g558
    have b634_g562 := BlkO.evo (by decide) hE634 b610_g562
    have b634_rc := RcO.evo (by decide) hE634 b610_rc
    have b634_mk := MkO.evo (by decide) hE634 b610_mk
    refine fl_cond e634_27 hs (fun c635 hs => ?_) (fun c635 hs => ?_)
    · refine rg_plain_seq (n := 71) (rs := [Fct.at_ 336 g335 3 #[.int .i64 0], Fct.at_ 338 g337 4 #[.bool false]]) (own0 := own634) (K := [336, 338])
          (bs := [0, 1])
          (ds := [⟨[2], [4], [336], Fct.at_ 637 g335 3 #[.int .i64 0]⟩,
          ⟨[3], [5], [338], Fct.at_ 638 g337 4 #[.bool false]⟩]) (by kernel_rfl) hz634 hd634 (by simp only [List.forall_mem_cons]; exact ⟨b634_g335, b634_g337, fun _ h => nomatch h⟩) ?_ ?_
      · refine steps_cons (fun own a wx hf hsl hE => ?_) ?_
        · obtain ⟨(b_g335 : BlkO own 336 wx g335 3 #[.int .i64 0]), -⟩ := hf
          obtain ⟨s_4, -⟩ := hsl
          exact sg_plain rfl rfl (or_store1 (lab := 336) (lab2 := 637) ts3 (s_4.trans e634_4) rfl b_g335 (by simp) rfl (mem_of rfl) (by decide) rfl (fun own' a' w' ha hb => hb))
        refine steps_cons (fun own a wx hf hsl hE => ?_) ?_
        · obtain ⟨(b_g337 : BlkO own 338 wx g337 4 #[.bool false]), -⟩ := hf
          obtain ⟨s_5, -⟩ := hsl
          exact sg_plain rfl rfl (or_store1 (lab := 338) (lab2 := 638) ts4 (s_5.trans e634_5) rfl b_g337 (by simp) rfl (mem_of rfl) (by decide) rfl (fun own' a' w' ha hb => hb))
        exact steps_nil
      intro own639 a639 w639 hd639 hz639 hk639 hf639 hE639
      have e639_4 : a639.eval (.tmp 4) = .pointer (some ⟨g335, 0, none⟩) := (hk639 4 rfl).trans e634_4
      have e639_5 : a639.eval (.tmp 5) = .pointer (some ⟨g337, 0, none⟩) := (hk639 5 rfl).trans e634_5
      obtain ⟨(b_g335 : BlkO own639 637 w639 g335 3 #[.int .i64 0]), (b_g337 : BlkO own639 638 w639 g337 4 #[.bool false]), -⟩ := hf639 [0, 1] rfl
      have hX639 := Evo.stepK hX634 hE639 rfl
      have b639_rc := RcO.evo (by decide) hE639 b634_rc
      have b639_mk := MkO.evo (by decide) hE639 b634_mk
      have b639_g335 := b_g335
      have b639_g337 := b_g337
      refine fl_ret ?_
      refine hp611 _ _ _ rfl ?_
      refine hp567 _ _ _ rfl ?_
      exact ⟨_, (rl [(637, 539), (638, 540)] own639), osome hs, rfl, (Evo.rlK hX639 rfl), (Evo.step hU566 (fun _ => Nat.le_refl 0) (Evo.rlK hX639 rfl) rfl), (BlkO.rl_ (mm := [(637, 539), (638, 540)]) b639_g335), (BlkO.rl_ (mm := [(637, 539), (638, 540)]) b639_g337)⟩
    obtain ⟨x640, hx640, hs⟩ := obind hs
    refine rg_plain_seq (n := 71) (rs := []) (own0 := own634) (K := [])
        (bs := [0, 1, 0, 4, 15, 31, 63, 127, 63, 319, 1023, 2047, 4095, 8191, 16383, 32767, 65535])
        (ds := [⟨[], [7], [], Fct.val 33 (.pointer (some ⟨g558, 1, none⟩))⟩,
        ⟨[0], [], [], Fct.val 34 (.int .i64 x555.1.2)⟩,
        ⟨[], [3], [], Fct.val 35 (.pointer (some ⟨g333, 1, none⟩))⟩,
        ⟨[2], [], [], Fct.val 36 (.int .i64 p2.2)⟩,
        ⟨[1, 3], [], [], Fct.val 37 (.bool (decide (x555.1.2 ≤ p2.2)))⟩,
        ⟨[4], [], [], Fct.val 38 (.bool (decide (x555.1.2 ≤ p2.2)))⟩,
        ⟨[5], [3], [], Fct.cond (decide (x555.1.2 ≤ p2.2)) (some 39) (Fct.val 39 (.pointer (some ⟨g333, 1, none⟩)))⟩,
        ⟨[5, 6], [], [], Fct.cond (decide (x555.1.2 ≤ p2.2)) (some 40) (Fct.val 40 (.int .i64 p2.2))⟩,
        ⟨[5], [8], [], Fct.cond (decide (x555.1.2 ≤ p2.2)) (some 41) (Fct.val 41 (.pointer (some ⟨g562, 1, none⟩)))⟩,
        ⟨[5, 8], [], [], Fct.cond (decide (x555.1.2 ≤ p2.2)) (some 42) (Fct.val 42 (.int .i64 x555.2.2))⟩,
        ⟨[5, 7, 9], [], [], Fct.cond (decide (x555.1.2 ≤ p2.2)) (some 43) (Fct.val 43 (.bool (decide (p2.2 < x555.2.2))))⟩,
        ⟨[5, 10], [], [], Fct.val 44 (.bool x640)⟩,
        ⟨[11], [], [], Fct.val 45 (.bool x640)⟩,
        ⟨[12], [9], [], Fct.cond x640 (some 46) (Fct.val 46 (.int .i64 r609))⟩,
        ⟨[12, 13], [], [], Fct.cond x640 (some 47) (Fct.val 47 (.bool (decide (0 < r609))))⟩,
        ⟨[12, 14], [], [], Fct.val 48 (.bool (x640 && (decide (0 < r609))))⟩,
        ⟨[15], [], [], Fct.val 32 (.bool (x640 && (decide (0 < r609))))⟩]) (by kernel_rfl) hz634 hd634 (fun _ h => nomatch h) ?_ ?_
    · refine steps_cons (fun own a wx hf hsl hE => ?_) ?_
      · obtain ⟨s_7, -⟩ := hsl
        exact sg_plain rfl rfl (or_field fo32_1 (s_7.trans e634_7) (by rfl))
      refine steps_cons (fun own a wx hf hsl hE => ?_) ?_
      · obtain ⟨(f_33 : a.eval (.tmp 33) = .pointer (some ⟨g558, 1, none⟩)), -⟩ := hf
        exact sg_plain rfl rfl (or_load1 to3 f_33 (Blk.at_ (BlkO.evo (by decide) hE b634_g558).2 1 rfl))
      refine steps_cons (fun own a wx hf hsl hE => ?_) ?_
      · obtain ⟨s_3, -⟩ := hsl
        exact sg_plain rfl rfl (or_field fo32_1 (s_3.trans e634_3) (by rfl))
      refine steps_cons (fun own a wx hf hsl hE => ?_) ?_
      · obtain ⟨(f_35 : a.eval (.tmp 35) = .pointer (some ⟨g333, 1, none⟩)), -⟩ := hf
        exact sg_plain rfl rfl (or_load1 to3 f_35 (Blk.at_ (BlkO.evo (by decide) hE b634_g333).2 1 rfl))
      refine steps_cons (fun own a wx hf hsl hE => ?_) ?_
      · obtain ⟨(f_34 : a.eval (.tmp 34) = .int .i64 x555.1.2), (f_36 : a.eval (.tmp 36) = .int .i64 p2.2), -⟩ := hf
        exact sg_plain rfl rfl (or_leq f_34 f_36 rfl)
      refine steps_cons (fun own a wx hf hsl hE => ?_) ?_
      · obtain ⟨(f_37 : a.eval (.tmp 37) = .bool (decide (x555.1.2 ≤ p2.2))), -⟩ := hf
        exact sg_plain rfl rfl (or_move f_37)
      refine steps_cons (fun own a wx hf hsl hE => ?_) ?_
      · obtain ⟨(f_38 : a.eval (.tmp 38) = .bool (decide (x555.1.2 ≤ p2.2))), -⟩ := hf
        obtain ⟨s_3, -⟩ := hsl
        refine sg_t rfl rfl rfl f_38 (fun hg => ?_)
        exact or_field fo32_1 (s_3.trans e634_3) (by rfl)
      refine steps_cons (fun own a wx hf hsl hE => ?_) ?_
      · obtain ⟨(f_38 : a.eval (.tmp 38) = .bool (decide (x555.1.2 ≤ p2.2))), c_39, -⟩ := hf
        refine sg_t rfl rfl rfl f_38 (fun hg => ?_)
        have f_39 : a.eval (.tmp 39) = .pointer (some ⟨g333, 1, none⟩) := c_39.1 hg
        exact or_load1 to3 f_39 (Blk.at_ (BlkO.evo (by decide) hE b634_g333).2 1 rfl)
      refine steps_cons (fun own a wx hf hsl hE => ?_) ?_
      · obtain ⟨(f_38 : a.eval (.tmp 38) = .bool (decide (x555.1.2 ≤ p2.2))), -⟩ := hf
        obtain ⟨s_8, -⟩ := hsl
        refine sg_t rfl rfl rfl f_38 (fun hg => ?_)
        exact or_field fo32_1 (s_8.trans e634_8) (by rfl)
      refine steps_cons (fun own a wx hf hsl hE => ?_) ?_
      · obtain ⟨(f_38 : a.eval (.tmp 38) = .bool (decide (x555.1.2 ≤ p2.2))), c_41, -⟩ := hf
        refine sg_t rfl rfl rfl f_38 (fun hg => ?_)
        have f_41 : a.eval (.tmp 41) = .pointer (some ⟨g562, 1, none⟩) := c_41.1 hg
        exact or_load1 to3 f_41 (Blk.at_ (BlkO.evo (by decide) hE b634_g562).2 1 rfl)
      refine steps_cons (fun own a wx hf hsl hE => ?_) ?_
      · obtain ⟨(f_38 : a.eval (.tmp 38) = .bool (decide (x555.1.2 ≤ p2.2))), c_40, c_42, -⟩ := hf
        refine sg_t rfl rfl rfl f_38 (fun hg => ?_)
        have f_40 : a.eval (.tmp 40) = .int .i64 p2.2 := c_40.1 hg
        have f_42 : a.eval (.tmp 42) = .int .i64 x555.2.2 := c_42.1 hg
        exact or_lss f_40 f_42 rfl
      refine steps_cons (fun own a wx hf hsl hE => ?_) ?_
      · obtain ⟨(f_38 : a.eval (.tmp 38) = .bool (decide (x555.1.2 ≤ p2.2))), c_43, -⟩ := hf
        exact sg_plain rfl rfl (or_and f_38 (fun hx => c_43.1 hx) rfl (osome hx640).symm)
      refine steps_cons (fun own a wx hf hsl hE => ?_) ?_
      · obtain ⟨(f_44 : a.eval (.tmp 44) = .bool x640), -⟩ := hf
        exact sg_plain rfl rfl (or_move f_44)
      refine steps_cons (fun own a wx hf hsl hE => ?_) ?_
      · obtain ⟨(f_45 : a.eval (.tmp 45) = .bool x640), -⟩ := hf
        obtain ⟨s_9, -⟩ := hsl
        refine sg_t rfl rfl rfl f_45 (fun hg => ?_)
        exact or_move (s_9.trans e634_9)
      refine steps_cons (fun own a wx hf hsl hE => ?_) ?_
      · obtain ⟨(f_45 : a.eval (.tmp 45) = .bool x640), c_46, -⟩ := hf
        refine sg_t rfl rfl rfl f_45 (fun hg => ?_)
        have f_46 : a.eval (.tmp 46) = .int .i64 r609 := c_46.1 hg
        exact or_gtr f_46 rfl rfl
      refine steps_cons (fun own a wx hf hsl hE => ?_) ?_
      · obtain ⟨(f_45 : a.eval (.tmp 45) = .bool x640), c_47, -⟩ := hf
        exact sg_plain rfl rfl (or_and f_45 (fun hx => c_47.1 hx) rfl rfl)
      refine steps_cons (fun own a wx hf hsl hE => ?_) ?_
      · obtain ⟨(f_48 : a.eval (.tmp 48) = .bool (x640 && (decide (0 < r609)))), -⟩ := hf
        exact sg_plain rfl rfl (or_assign f_48)
      exact steps_nil
    intro own641 a641 w641 hd641 hz641 hk641 hf641 hE641
    have e641_3 : a641.eval (.tmp 3) = .pointer (some ⟨g333, 0, none⟩) := (hk641 3 rfl).trans e634_3
    have e641_4 : a641.eval (.tmp 4) = .pointer (some ⟨g335, 0, none⟩) := (hk641 4 rfl).trans e634_4
    have e641_5 : a641.eval (.tmp 5) = .pointer (some ⟨g337, 0, none⟩) := (hk641 5 rfl).trans e634_5
    have e641_6 : a641.eval (.tmp 6) = .pointer (some ⟨g353, 0, none⟩) := (hk641 6 rfl).trans e634_6
    have e641_7 : a641.eval (.tmp 7) = .pointer (some ⟨g558, 0, none⟩) := (hk641 7 rfl).trans e634_7
    have e641_8 : a641.eval (.tmp 8) = .pointer (some ⟨g562, 0, none⟩) := (hk641 8 rfl).trans e634_8
    have e641_9 : a641.eval (.tmp 9) = .int .i64 r609 := (hk641 9 rfl).trans e634_9
    have e641_20 : a641.eval (.tmp 20) = .func (.func 55) #[] #[.pointer (some ⟨cA358, 0, none⟩)] := (hk641 20 rfl).trans e634_20
    obtain ⟨(f_32 : a641.eval (.tmp 32) = .bool (x640 && (decide (0 < r609)))), -⟩ := hf641 [16] rfl
    have e641_32 := f_32
    have hX641 := Evo.stepK hX634 hE641 rfl
    have b641_g333 := BlkO.evo (by decide) hE641 b634_g333
    have b641_g335 := BlkO.evo (by decide) hE641 b634_g335
    have b641_g337 := BlkO.evo (by decide) hE641 b634_g337
    have b641_g353 := BlkO.evo (by decide) hE641 b634_g353
    have b641_cA358 := BlkO.evo (by decide) hE641 b634_cA358
    have b641_Al1 := RdO.evo rfl hE641 b634_Al1
    have b641_g558 := BlkO.evo (by decide) hE641 b634_g558
    have b641_g562 := BlkO.evo (by decide) hE641 b634_g562
    have b641_rc := RcO.evo (by decide) hE641 b634_rc
    have b641_mk := MkO.evo (by decide) hE641 b634_mk
    refine fl_cond e641_32 hs (fun c642 hs => ?_) (fun c642 hs => ?_)
    · refine rg_plain (n := 71) (rs := [Fct.at_ 355 g353 3 #[.int .i64 n457]]) (own0 := own641) (K := [355])
          (bs := [0, 1, 3])
          (ds := [⟨[3], [6], [], Fct.val 49 (.int .i64 n457)⟩,
          ⟨[0], [], [], Fct.val 50 (.int .i64 (ad n457 1))⟩,
          ⟨[1, 3], [6], [355], Fct.at_ 643 g353 3 #[.int .i64 (ad n457 1)]⟩]) (by kernel_rfl) hz641 hd641 (by simp only [List.forall_mem_cons]; exact ⟨b641_g353, fun _ h => nomatch h⟩) ?_ ?_
      · refine steps_cons (fun own a wx hf hsl hE => ?_) ?_
        · obtain ⟨(b_g353 : BlkO own 355 wx g353 3 #[.int .i64 n457]), -⟩ := hf
          obtain ⟨s_6, -⟩ := hsl
          exact sg_plain rfl rfl (or_load1 to3 (s_6.trans e641_6) (Blk.at_ b_g353.2 0 rfl))
        refine steps_cons (fun own a wx hf hsl hE => ?_) ?_
        · obtain ⟨(f_49 : a.eval (.tmp 49) = .int .i64 n457), -⟩ := hf
          exact sg_plain rfl rfl (or_add f_49 rfl rfl)
        refine steps_cons (fun own a wx hf hsl hE => ?_) ?_
        · obtain ⟨(f_50 : a.eval (.tmp 50) = .int .i64 (ad n457 1)), (b_g353 : BlkO own 355 wx g353 3 #[.int .i64 n457]), -⟩ := hf
          obtain ⟨s_6, -⟩ := hsl
          exact sg_plain rfl rfl (or_store1 (lab := 355) (lab2 := 643) ts3 (s_6.trans e641_6) f_50 b_g353 (by simp) rfl (mem_of rfl) (by decide) rfl (fun own' a' w' ha hb => hb))
        exact steps_nil
      intro own644 a644 w644 hd644 hz644 hk644 hf644 hE644
      have e644_3 : a644.eval (.tmp 3) = .pointer (some ⟨g333, 0, none⟩) := (hk644 3 rfl).trans e641_3
      have e644_4 : a644.eval (.tmp 4) = .pointer (some ⟨g335, 0, none⟩) := (hk644 4 rfl).trans e641_4
      have e644_5 : a644.eval (.tmp 5) = .pointer (some ⟨g337, 0, none⟩) := (hk644 5 rfl).trans e641_5
      have e644_6 : a644.eval (.tmp 6) = .pointer (some ⟨g353, 0, none⟩) := (hk644 6 rfl).trans e641_6
      have e644_20 : a644.eval (.tmp 20) = .func (.func 55) #[] #[.pointer (some ⟨cA358, 0, none⟩)] := (hk644 20 rfl).trans e641_20
      obtain ⟨(b_g353 : BlkO own644 643 w644 g353 3 #[.int .i64 (ad n457 1)]), -⟩ := hf644 [2] rfl
      have hX644 := Evo.stepK hX641 hE644 rfl
      have b644_g333 := BlkO.evo (by decide) hE644 b641_g333
      have b644_g335 := BlkO.evo (by decide) hE644 b641_g335
      have b644_g337 := BlkO.evo (by decide) hE644 b641_g337
      have b644_cA358 := BlkO.evo (by decide) hE644 b641_cA358
      have b644_Al1 := RdO.evo rfl hE644 b641_Al1
      have b644_rc := RcO.evo (by decide) hE644 b641_rc
      have b644_mk := MkO.evo (by decide) hE644 b641_mk
      have b644_g353 := b_g353
      exact (K631 _ _ (rl [(643, 629)] own644) _ hd644 hz644 e644_3 e644_4 e644_5 e644_6 e644_20 (Evo.rlK hX644 rfl) (BlkO.rl_ (mm := [(643, 629)]) b644_g333) (BlkO.rl_ (mm := [(643, 629)]) b644_g335) (BlkO.rl_ (mm := [(643, 629)]) b644_g337) (BlkO.rl_ (mm := [(643, 629)]) b644_g353) (BlkO.rl_ (mm := [(643, 629)]) b644_cA358) (RdO.rl_ (mm := [(643, 629)]) b644_Al1) (MkO.rl_ (mm := [(643, 629)]) b644_mk) (RcO.rl_ (mm := [(643, 629)]) b644_rc) hs).1
    obtain ⟨x645, hx645, hs⟩ := obind hs
    refine rg_plain_seq (n := 71) (rs := []) (own0 := own641) (K := [])
        (bs := [0, 1, 0, 4, 15, 31, 63, 127, 63, 319, 1023, 2047, 4095, 8191, 16383, 32767, 65535])
        (ds := [⟨[], [8], [], Fct.val 52 (.pointer (some ⟨g562, 1, none⟩))⟩,
        ⟨[0], [], [], Fct.val 53 (.int .i64 x555.2.2)⟩,
        ⟨[], [3], [], Fct.val 54 (.pointer (some ⟨g333, 1, none⟩))⟩,
        ⟨[2], [], [], Fct.val 55 (.int .i64 p2.2)⟩,
        ⟨[1, 3], [], [], Fct.val 56 (.bool (decide (x555.2.2 ≤ p2.2)))⟩,
        ⟨[4], [], [], Fct.val 57 (.bool (decide (x555.2.2 ≤ p2.2)))⟩,
        ⟨[5], [3], [], Fct.cond (decide (x555.2.2 ≤ p2.2)) (some 58) (Fct.val 58 (.pointer (some ⟨g333, 1, none⟩)))⟩,
        ⟨[5, 6], [], [], Fct.cond (decide (x555.2.2 ≤ p2.2)) (some 59) (Fct.val 59 (.int .i64 p2.2))⟩,
        ⟨[5], [7], [], Fct.cond (decide (x555.2.2 ≤ p2.2)) (some 60) (Fct.val 60 (.pointer (some ⟨g558, 1, none⟩)))⟩,
        ⟨[5, 8], [], [], Fct.cond (decide (x555.2.2 ≤ p2.2)) (some 61) (Fct.val 61 (.int .i64 x555.1.2))⟩,
        ⟨[5, 7, 9], [], [], Fct.cond (decide (x555.2.2 ≤ p2.2)) (some 62) (Fct.val 62 (.bool (decide (p2.2 < x555.1.2))))⟩,
        ⟨[5, 10], [], [], Fct.val 63 (.bool x645)⟩,
        ⟨[11], [], [], Fct.val 64 (.bool x645)⟩,
        ⟨[12], [9], [], Fct.cond x645 (some 65) (Fct.val 65 (.int .i64 r609))⟩,
        ⟨[12, 13], [], [], Fct.cond x645 (some 66) (Fct.val 66 (.bool (decide (r609 < 0))))⟩,
        ⟨[12, 14], [], [], Fct.val 67 (.bool (x645 && (decide (r609 < 0))))⟩,
        ⟨[15], [], [], Fct.val 51 (.bool (x645 && (decide (r609 < 0))))⟩]) (by kernel_rfl) hz641 hd641 (fun _ h => nomatch h) ?_ ?_
    · refine steps_cons (fun own a wx hf hsl hE => ?_) ?_
      · obtain ⟨s_8, -⟩ := hsl
        exact sg_plain rfl rfl (or_field fo32_1 (s_8.trans e641_8) (by rfl))
      refine steps_cons (fun own a wx hf hsl hE => ?_) ?_
      · obtain ⟨(f_52 : a.eval (.tmp 52) = .pointer (some ⟨g562, 1, none⟩)), -⟩ := hf
        exact sg_plain rfl rfl (or_load1 to3 f_52 (Blk.at_ (BlkO.evo (by decide) hE b641_g562).2 1 rfl))
      refine steps_cons (fun own a wx hf hsl hE => ?_) ?_
      · obtain ⟨s_3, -⟩ := hsl
        exact sg_plain rfl rfl (or_field fo32_1 (s_3.trans e641_3) (by rfl))
      refine steps_cons (fun own a wx hf hsl hE => ?_) ?_
      · obtain ⟨(f_54 : a.eval (.tmp 54) = .pointer (some ⟨g333, 1, none⟩)), -⟩ := hf
        exact sg_plain rfl rfl (or_load1 to3 f_54 (Blk.at_ (BlkO.evo (by decide) hE b641_g333).2 1 rfl))
      refine steps_cons (fun own a wx hf hsl hE => ?_) ?_
      · obtain ⟨(f_53 : a.eval (.tmp 53) = .int .i64 x555.2.2), (f_55 : a.eval (.tmp 55) = .int .i64 p2.2), -⟩ := hf
        exact sg_plain rfl rfl (or_leq f_53 f_55 rfl)
      refine steps_cons (fun own a wx hf hsl hE => ?_) ?_
      · obtain ⟨(f_56 : a.eval (.tmp 56) = .bool (decide (x555.2.2 ≤ p2.2))), -⟩ := hf
        exact sg_plain rfl rfl (or_move f_56)
      refine steps_cons (fun own a wx hf hsl hE => ?_) ?_
      · obtain ⟨(f_57 : a.eval (.tmp 57) = .bool (decide (x555.2.2 ≤ p2.2))), -⟩ := hf
        obtain ⟨s_3, -⟩ := hsl
        refine sg_t rfl rfl rfl f_57 (fun hg => ?_)
        exact or_field fo32_1 (s_3.trans e641_3) (by rfl)
      refine steps_cons (fun own a wx hf hsl hE => ?_) ?_
      · obtain ⟨(f_57 : a.eval (.tmp 57) = .bool (decide (x555.2.2 ≤ p2.2))), c_58, -⟩ := hf
        refine sg_t rfl rfl rfl f_57 (fun hg => ?_)
        have f_58 : a.eval (.tmp 58) = .pointer (some ⟨g333, 1, none⟩) := c_58.1 hg
        exact or_load1 to3 f_58 (Blk.at_ (BlkO.evo (by decide) hE b641_g333).2 1 rfl)
      refine steps_cons (fun own a wx hf hsl hE => ?_) ?_
      · obtain ⟨(f_57 : a.eval (.tmp 57) = .bool (decide (x555.2.2 ≤ p2.2))), -⟩ := hf
        obtain ⟨s_7, -⟩ := hsl
        refine sg_t rfl rfl rfl f_57 (fun hg => ?_)
        exact or_field fo32_1 (s_7.trans e641_7) (by rfl)
      refine steps_cons (fun own a wx hf hsl hE => ?_) ?_
      · obtain ⟨(f_57 : a.eval (.tmp 57) = .bool (decide (x555.2.2 ≤ p2.2))), c_60, -⟩ := hf
        refine sg_t rfl rfl rfl f_57 (fun hg => ?_)
        have f_60 : a.eval (.tmp 60) = .pointer (some ⟨g558, 1, none⟩) := c_60.1 hg
        exact or_load1 to3 f_60 (Blk.at_ (BlkO.evo (by decide) hE b641_g558).2 1 rfl)
      refine steps_cons (fun own a wx hf hsl hE => ?_) ?_
      · obtain ⟨(f_57 : a.eval (.tmp 57) = .bool (decide (x555.2.2 ≤ p2.2))), c_59, c_61, -⟩ := hf
        refine sg_t rfl rfl rfl f_57 (fun hg => ?_)
        have f_59 : a.eval (.tmp 59) = .int .i64 p2.2 := c_59.1 hg
        have f_61 : a.eval (.tmp 61) = .int .i64 x555.1.2 := c_61.1 hg
        exact or_lss f_59 f_61 rfl
      refine steps_cons (fun own a wx hf hsl hE => ?_) ?_
      · obtain ⟨(f_57 : a.eval (.tmp 57) = .bool (decide (x555.2.2 ≤ p2.2))), c_62, -⟩ := hf
        exact sg_plain rfl rfl (or_and f_57 (fun hx => c_62.1 hx) rfl (osome hx645).symm)
      refine steps_cons (fun own a wx hf hsl hE => ?_) ?_
      · obtain ⟨(f_63 : a.eval (.tmp 63) = .bool x645), -⟩ := hf
        exact sg_plain rfl rfl (or_move f_63)
      refine steps_cons (fun own a wx hf hsl hE => ?_) ?_
      · obtain ⟨(f_64 : a.eval (.tmp 64) = .bool x645), -⟩ := hf
        obtain ⟨s_9, -⟩ := hsl
        refine sg_t rfl rfl rfl f_64 (fun hg => ?_)
        exact or_move (s_9.trans e641_9)
      refine steps_cons (fun own a wx hf hsl hE => ?_) ?_
      · obtain ⟨(f_64 : a.eval (.tmp 64) = .bool x645), c_65, -⟩ := hf
        refine sg_t rfl rfl rfl f_64 (fun hg => ?_)
        have f_65 : a.eval (.tmp 65) = .int .i64 r609 := c_65.1 hg
        exact or_lss f_65 rfl rfl
      refine steps_cons (fun own a wx hf hsl hE => ?_) ?_
      · obtain ⟨(f_64 : a.eval (.tmp 64) = .bool x645), c_66, -⟩ := hf
        exact sg_plain rfl rfl (or_and f_64 (fun hx => c_66.1 hx) rfl rfl)
      refine steps_cons (fun own a wx hf hsl hE => ?_) ?_
      · obtain ⟨(f_67 : a.eval (.tmp 67) = .bool (x645 && (decide (r609 < 0)))), -⟩ := hf
        exact sg_plain rfl rfl (or_assign f_67)
      exact steps_nil
    intro own646 a646 w646 hd646 hz646 hk646 hf646 hE646
    have e646_3 : a646.eval (.tmp 3) = .pointer (some ⟨g333, 0, none⟩) := (hk646 3 rfl).trans e641_3
    have e646_4 : a646.eval (.tmp 4) = .pointer (some ⟨g335, 0, none⟩) := (hk646 4 rfl).trans e641_4
    have e646_5 : a646.eval (.tmp 5) = .pointer (some ⟨g337, 0, none⟩) := (hk646 5 rfl).trans e641_5
    have e646_6 : a646.eval (.tmp 6) = .pointer (some ⟨g353, 0, none⟩) := (hk646 6 rfl).trans e641_6
    have e646_20 : a646.eval (.tmp 20) = .func (.func 55) #[] #[.pointer (some ⟨cA358, 0, none⟩)] := (hk646 20 rfl).trans e641_20
    obtain ⟨(f_51 : a646.eval (.tmp 51) = .bool (x645 && (decide (r609 < 0)))), -⟩ := hf646 [16] rfl
    have e646_51 := f_51
    have hX646 := Evo.stepK hX641 hE646 rfl
    have b646_g333 := BlkO.evo (by decide) hE646 b641_g333
    have b646_g335 := BlkO.evo (by decide) hE646 b641_g335
    have b646_g337 := BlkO.evo (by decide) hE646 b641_g337
    have b646_g353 := BlkO.evo (by decide) hE646 b641_g353
    have b646_cA358 := BlkO.evo (by decide) hE646 b641_cA358
    have b646_Al1 := RdO.evo rfl hE646 b641_Al1
    have b646_rc := RcO.evo (by decide) hE646 b641_rc
    have b646_mk := MkO.evo (by decide) hE646 b641_mk
    refine fl_cond e646_51 hs (fun c647 hs => ?_) (fun c647 hs => ?_)
    · refine rg_plain (n := 71) (rs := [Fct.at_ 355 g353 3 #[.int .i64 n457]]) (own0 := own646) (K := [355])
          (bs := [0, 1, 3])
          (ds := [⟨[3], [6], [], Fct.val 68 (.int .i64 n457)⟩,
          ⟨[0], [], [], Fct.val 69 (.int .i64 (sb n457 1))⟩,
          ⟨[1, 3], [6], [355], Fct.at_ 648 g353 3 #[.int .i64 (sb n457 1)]⟩]) (by kernel_rfl) hz646 hd646 (by simp only [List.forall_mem_cons]; exact ⟨b646_g353, fun _ h => nomatch h⟩) ?_ ?_
      · refine steps_cons (fun own a wx hf hsl hE => ?_) ?_
        · obtain ⟨(b_g353 : BlkO own 355 wx g353 3 #[.int .i64 n457]), -⟩ := hf
          obtain ⟨s_6, -⟩ := hsl
          exact sg_plain rfl rfl (or_load1 to3 (s_6.trans e646_6) (Blk.at_ b_g353.2 0 rfl))
        refine steps_cons (fun own a wx hf hsl hE => ?_) ?_
        · obtain ⟨(f_68 : a.eval (.tmp 68) = .int .i64 n457), -⟩ := hf
          exact sg_plain rfl rfl (or_sub f_68 rfl rfl)
        refine steps_cons (fun own a wx hf hsl hE => ?_) ?_
        · obtain ⟨(f_69 : a.eval (.tmp 69) = .int .i64 (sb n457 1)), (b_g353 : BlkO own 355 wx g353 3 #[.int .i64 n457]), -⟩ := hf
          obtain ⟨s_6, -⟩ := hsl
          exact sg_plain rfl rfl (or_store1 (lab := 355) (lab2 := 648) ts3 (s_6.trans e646_6) f_69 b_g353 (by simp) rfl (mem_of rfl) (by decide) rfl (fun own' a' w' ha hb => hb))
        exact steps_nil
      intro own649 a649 w649 hd649 hz649 hk649 hf649 hE649
      have e649_3 : a649.eval (.tmp 3) = .pointer (some ⟨g333, 0, none⟩) := (hk649 3 rfl).trans e646_3
      have e649_4 : a649.eval (.tmp 4) = .pointer (some ⟨g335, 0, none⟩) := (hk649 4 rfl).trans e646_4
      have e649_5 : a649.eval (.tmp 5) = .pointer (some ⟨g337, 0, none⟩) := (hk649 5 rfl).trans e646_5
      have e649_6 : a649.eval (.tmp 6) = .pointer (some ⟨g353, 0, none⟩) := (hk649 6 rfl).trans e646_6
      have e649_20 : a649.eval (.tmp 20) = .func (.func 55) #[] #[.pointer (some ⟨cA358, 0, none⟩)] := (hk649 20 rfl).trans e646_20
      obtain ⟨(b_g353 : BlkO own649 648 w649 g353 3 #[.int .i64 (sb n457 1)]), -⟩ := hf649 [2] rfl
      have hX649 := Evo.stepK hX646 hE649 rfl
      have b649_g333 := BlkO.evo (by decide) hE649 b646_g333
      have b649_g335 := BlkO.evo (by decide) hE649 b646_g335
      have b649_g337 := BlkO.evo (by decide) hE649 b646_g337
      have b649_cA358 := BlkO.evo (by decide) hE649 b646_cA358
      have b649_Al1 := RdO.evo rfl hE649 b646_Al1
      have b649_rc := RcO.evo (by decide) hE649 b646_rc
      have b649_mk := MkO.evo (by decide) hE649 b646_mk
      have b649_g353 := b_g353
      exact (K631 _ _ (rl [(648, 629)] own649) _ hd649 hz649 e649_3 e649_4 e649_5 e649_6 e649_20 (Evo.rlK hX649 rfl) (BlkO.rl_ (mm := [(648, 629)]) b649_g333) (BlkO.rl_ (mm := [(648, 629)]) b649_g335) (BlkO.rl_ (mm := [(648, 629)]) b649_g337) (BlkO.rl_ (mm := [(648, 629)]) b649_g353) (BlkO.rl_ (mm := [(648, 629)]) b649_cA358) (RdO.rl_ (mm := [(648, 629)]) b649_Al1) (MkO.rl_ (mm := [(648, 629)]) b649_mk) (RcO.rl_ (mm := [(648, 629)]) b649_rc) hs).1
    refine fl_skip ?_
    exact (K631 _ _ (rl [(355, 629)] own646) _ hd646 hz646 e646_3 e646_4 e646_5 e646_6 e646_20 (Evo.rlK hX646 rfl) (BlkO.rl_ (mm := [(355, 629)]) b646_g333) (BlkO.rl_ (mm := [(355, 629)]) b646_g335) (BlkO.rl_ (mm := [(355, 629)]) b646_g337) (BlkO.rl_ (mm := [(355, 629)]) b646_g353) (BlkO.rl_ (mm := [(355, 629)]) b646_cA358) (RdO.rl_ (mm := [(355, 629)]) b646_Al1) (MkO.rl_ (mm := [(355, 629)]) b646_mk) (RcO.rl_ (mm := [(355, 629)]) b646_rc) hs).1
  · rintro n457 a650 own650 w650 Ds650 hzz650 hd650 hz650 hkp650 hmk650 ⟨hE650, b650_g333, b650_g335, b650_g337, b650_g353, b650_cA358, b650_Al1⟩
    subst hzz650
    have hs : ring_Winding_b3 n457 = some r := hs
    have e650_3 : a650.eval (.tmp 3) = .pointer (some ⟨g333, 0, none⟩) := (hkp650 3).trans e360_3
    have e650_4 : a650.eval (.tmp 4) = .pointer (some ⟨g335, 0, none⟩) := (hkp650 4).trans e360_4
    have e650_5 : a650.eval (.tmp 5) = .pointer (some ⟨g337, 0, none⟩) := (hkp650 5).trans e360_5
    have e650_6 : a650.eval (.tmp 6) = .pointer (some ⟨g353, 0, none⟩) := (hkp650 6).trans e360_6
    have e650_20 : a650.eval (.tmp 20) = .func (.func 55) #[] #[.pointer (some ⟨cA358, 0, none⟩)] := (hkp650 20).trans e360_20
    refine hn361 _ _ ?_
    refine hn357 _ _ ?_
    refine rg_plain_seq (n := 71) (rs := [Fct.at_ 336 g335 3 #[.int .i64 0], Fct.at_ 338 g337 4 #[.bool false]]) (own0 := own650) (K := [336, 338])
        (bs := [0, 1, 3])
        (ds := [⟨[], [6], [], Fct.val 70 (.int .i64 n457)⟩,
        ⟨[0, 3], [4], [336], Fct.at_ 652 g335 3 #[.int .i64 n457]⟩,
        ⟨[4], [5], [338], Fct.at_ 653 g337 4 #[.bool true]⟩]) (by kernel_rfl) hz650 hd650 (by simp only [List.forall_mem_cons]; exact ⟨b650_g335, b650_g337, fun _ h => nomatch h⟩) ?_ ?_
    · refine steps_cons (fun own a wx hf hsl hE => ?_) ?_
      · obtain ⟨s_6, -⟩ := hsl
        exact sg_plain rfl rfl (or_load1 to3 (s_6.trans e650_6) (Blk.at_ (BlkO.evo (by decide) hE b650_g353).2 0 rfl))
      refine steps_cons (fun own a wx hf hsl hE => ?_) ?_
      · obtain ⟨(f_70 : a.eval (.tmp 70) = .int .i64 n457), (b_g335 : BlkO own 336 wx g335 3 #[.int .i64 0]), -⟩ := hf
        obtain ⟨s_4, -⟩ := hsl
        exact sg_plain rfl rfl (or_store1 (lab := 336) (lab2 := 652) ts3 (s_4.trans e650_4) f_70 b_g335 (by simp) rfl (mem_of rfl) (by decide) rfl (fun own' a' w' ha hb => hb))
      refine steps_cons (fun own a wx hf hsl hE => ?_) ?_
      · obtain ⟨(b_g337 : BlkO own 338 wx g337 4 #[.bool false]), -⟩ := hf
        obtain ⟨s_5, -⟩ := hsl
        exact sg_plain rfl rfl (or_store1 (lab := 338) (lab2 := 653) ts4 (s_5.trans e650_5) rfl b_g337 (by simp) rfl (mem_of rfl) (by decide) rfl (fun own' a' w' ha hb => hb))
      exact steps_nil
    intro own654 a654 w654 hd654 hz654 hk654 hf654 hE654
    have e654_4 : a654.eval (.tmp 4) = .pointer (some ⟨g335, 0, none⟩) := (hk654 4 rfl).trans e650_4
    have e654_5 : a654.eval (.tmp 5) = .pointer (some ⟨g337, 0, none⟩) := (hk654 5 rfl).trans e650_5
    obtain ⟨(b_g335 : BlkO own654 652 w654 g335 3 #[.int .i64 n457]), (b_g337 : BlkO own654 653 w654 g337 4 #[.bool true]), -⟩ := hf654 [1, 2] rfl
    have hX654 := Evo.step hE650 (fun _ => Nat.le_refl 0) hE654 rfl
    have b654_mk := MkO.evo (by decide) hE654 hmk650
    have b654_g335 := b_g335
    have b654_g337 := b_g337
    refine fl_ret ?_
    refine hret _ _ _ _ _ (.inl rfl) hd654 b654_mk (fun own655 w655 hE655 => ?_)
    have hX656 := Evo.step hX654 (fun _ => Nat.le_refl 0) hE655 rfl
    have b656_g335 := BlkO.evo (by decide) hE655 b654_g335
    have b656_g337 := BlkO.evo (by decide) hE655 b654_g337
    obtain rfl := osome hs
    exact ⟨_, results2_ rfl (RVal.cell_ e654_4 (run_loadVarOne to3 (Blk.at_ b656_g335.2 0 rfl))) (RVal.cell_ e654_5 (run_loadVarOne to4 (Blk.at_ b656_g337.2 0 rfl))), ⟨own655, rfl, hX656⟩⟩
  · rintro _ a657 own657 w657 Ds657 hzz657 hd657 hz657 hkp657 hmk657 ⟨hE657, b657_g335, b657_g337⟩
    subst hzz657
    have hs : ring_Winding_b4 = some r := hs
    have e657_4 : a657.eval (.tmp 4) = .pointer (some ⟨g335, 0, none⟩) := (hkp657 4).trans e360_4
    have e657_5 : a657.eval (.tmp 5) = .pointer (some ⟨g337, 0, none⟩) := (hkp657 5).trans e360_5
    refine fl_ret ?_
    refine hp361 _ _ _ rfl ?_
    refine hp357 _ _ _ rfl ?_
    refine hret _ _ _ _ _ (.inl rfl) hd657 hmk657 (fun own658 w658 hE658 => ?_)
    have hX659 := Evo.step hE657 (fun _ => Nat.le_refl 0) hE658 rfl
    have b659_g335 := BlkO.evo (by decide) hE658 b657_g335
    have b659_g337 := BlkO.evo (by decide) hE658 b657_g337
    obtain rfl := osome hs
    exact ⟨_, results2_ rfl (RVal.cell_ e657_4 (run_loadVarOne to3 (Blk.at_ b659_g335.2 0 rfl))) (RVal.cell_ e657_5 (run_loadVarOne to4 (Blk.at_ b659_g337.2 0 rfl))), ⟨own658, rfl, hX659⟩⟩

theorem ring_beside_has_1_w (w : World) (n1 : Int) (c2 : Int) (d3 : Int) (r : Bool) (hs : ring_beside_has_1 n1 c2 d3 = some r) :
    Calls Try.prog 61 #[.int .i64 n1, .int .i64 c2, .int .i64 d3] w fun e w' => ∃ own' : Own, e = .returned (.bool r) ∧ Evo [] (fun _ => 0) own' w w' := by
  refine fl_enter (n := 21) rfl rfl rfl (Nat.le_of_ble_eq_true rfl) ?_
  intro a0 Q hd0 hz0 harg hret
  have ha0 := harg 0 _ rfl
  have ha1 := harg 1 _ rfl
  have ha2 := harg 2 _ rfl
  clear harg
  have hE0 : Evo [] (fun _ => 0) (fun _ => 0) w w := Evo.refl _ _ _
  refine rg_plain_seq (n := 21) (rs := []) (own0 := (fun _ => 0)) (K := [])
      (bs := [0])
      (ds := [⟨[], [], [], Fct.val 6 (.bool false)⟩]) (by kernel_rfl) hz0 hd0 (fun _ h => nomatch h) ?_ ?_
  · refine steps_cons (fun own a wx hf hsl hE => ?_) ?_
    · exact sg_plain rfl rfl (or_assign rfl)
    exact steps_nil
  intro own14 a14 w14 hd14 hz14 hk14 hf14 hE14
  have e14_0 : a14.eval (.tmp 0) = .int .i64 n1 := (hk14 0 rfl).trans ha0
  have e14_1 : a14.eval (.tmp 1) = .int .i64 c2 := (hk14 1 rfl).trans ha1
  have e14_2 : a14.eval (.tmp 2) = .int .i64 d3 := (hk14 2 rfl).trans ha2
  have hX14 := Evo.step hE0 (fun _ => Nat.le_refl 0) hE14 rfl
  obtain ⟨x15, hx15, hs⟩ := obind hs
  refine rg_plain_seq (n := 21) (rs := []) (own0 := own14) (K := [])
      (bs := [0, 0, 3, 7, 0, 31, 63, 127, 127, 127, 895, 1919, 4095, 8191, 16383])
      (ds := [⟨[], [1], [], Fct.val 7 (.int .i64 c2)⟩,
      ⟨[], [2], [], Fct.val 8 (.int .i64 d3)⟩,
      ⟨[0, 1], [], [], Fct.val 9 (.int .i64 (mn c2 d3))⟩,
      ⟨[2], [], [], Fct.val 10 (.int .i64 (ml 2 (mn c2 d3)))⟩,
      ⟨[], [0], [], Fct.val 11 (.int .i64 n1)⟩,
      ⟨[3, 4], [], [], Fct.val 12 (.bool (decide ((ml 2 (mn c2 d3)) ≤ n1)))⟩,
      ⟨[5], [], [], Fct.val 13 (.bool (decide ((ml 2 (mn c2 d3)) ≤ n1)))⟩,
      ⟨[6], [0], [], Fct.cond (decide ((ml 2 (mn c2 d3)) ≤ n1)) (some 14) (Fct.val 14 (.int .i64 n1))⟩,
      ⟨[6], [1], [], Fct.cond (decide ((ml 2 (mn c2 d3)) ≤ n1)) (some 15) (Fct.val 15 (.int .i64 c2))⟩,
      ⟨[6], [2], [], Fct.cond (decide ((ml 2 (mn c2 d3)) ≤ n1)) (some 16) (Fct.val 16 (.int .i64 d3))⟩,
      ⟨[6, 8, 9], [], [], Fct.cond (decide ((ml 2 (mn c2 d3)) ≤ n1)) (some 17) (Fct.val 17 (.int .i64 (mx c2 d3)))⟩,
      ⟨[6, 10], [], [], Fct.cond (decide ((ml 2 (mn c2 d3)) ≤ n1)) (some 18) (Fct.val 18 (.int .i64 (ml 2 (mx c2 d3))))⟩,
      ⟨[6, 7, 11], [], [], Fct.cond (decide ((ml 2 (mn c2 d3)) ≤ n1)) (some 19) (Fct.val 19 (.bool (decide (n1 ≤ (ml 2 (mx c2 d3))))))⟩,
      ⟨[6, 12], [], [], Fct.val 20 (.bool x15)⟩,
      ⟨[13], [], [], Fct.val 6 (.bool x15)⟩]) (by kernel_rfl) hz14 hd14 (fun _ h => nomatch h) ?_ ?_
  · refine steps_cons (fun own a wx hf hsl hE => ?_) ?_
    · obtain ⟨s_1, -⟩ := hsl
      exact sg_plain rfl rfl (or_move (s_1.trans e14_1))
    refine steps_cons (fun own a wx hf hsl hE => ?_) ?_
    · obtain ⟨s_2, -⟩ := hsl
      exact sg_plain rfl rfl (or_move (s_2.trans e14_2))
    refine steps_cons (fun own a wx hf hsl hE => ?_) ?_
    · obtain ⟨(f_7 : a.eval (.tmp 7) = .int .i64 c2), (f_8 : a.eval (.tmp 8) = .int .i64 d3), -⟩ := hf
      exact sg_plain rfl rfl (or_min f_7 f_8)
    refine steps_cons (fun own a wx hf hsl hE => ?_) ?_
    · obtain ⟨(f_9 : a.eval (.tmp 9) = .int .i64 (mn c2 d3)), -⟩ := hf
      exact sg_plain rfl rfl (or_mul rfl f_9 rfl)
    refine steps_cons (fun own a wx hf hsl hE => ?_) ?_
    · obtain ⟨s_0, -⟩ := hsl
      exact sg_plain rfl rfl (or_move (s_0.trans e14_0))
    refine steps_cons (fun own a wx hf hsl hE => ?_) ?_
    · obtain ⟨(f_10 : a.eval (.tmp 10) = .int .i64 (ml 2 (mn c2 d3))), (f_11 : a.eval (.tmp 11) = .int .i64 n1), -⟩ := hf
      exact sg_plain rfl rfl (or_leq f_10 f_11 rfl)
    refine steps_cons (fun own a wx hf hsl hE => ?_) ?_
    · obtain ⟨(f_12 : a.eval (.tmp 12) = .bool (decide ((ml 2 (mn c2 d3)) ≤ n1))), -⟩ := hf
      exact sg_plain rfl rfl (or_move f_12)
    refine steps_cons (fun own a wx hf hsl hE => ?_) ?_
    · obtain ⟨(f_13 : a.eval (.tmp 13) = .bool (decide ((ml 2 (mn c2 d3)) ≤ n1))), -⟩ := hf
      obtain ⟨s_0, -⟩ := hsl
      refine sg_t rfl rfl rfl f_13 (fun hg => ?_)
      exact or_move (s_0.trans e14_0)
    refine steps_cons (fun own a wx hf hsl hE => ?_) ?_
    · obtain ⟨(f_13 : a.eval (.tmp 13) = .bool (decide ((ml 2 (mn c2 d3)) ≤ n1))), -⟩ := hf
      obtain ⟨s_1, -⟩ := hsl
      refine sg_t rfl rfl rfl f_13 (fun hg => ?_)
      exact or_move (s_1.trans e14_1)
    refine steps_cons (fun own a wx hf hsl hE => ?_) ?_
    · obtain ⟨(f_13 : a.eval (.tmp 13) = .bool (decide ((ml 2 (mn c2 d3)) ≤ n1))), -⟩ := hf
      obtain ⟨s_2, -⟩ := hsl
      refine sg_t rfl rfl rfl f_13 (fun hg => ?_)
      exact or_move (s_2.trans e14_2)
    refine steps_cons (fun own a wx hf hsl hE => ?_) ?_
    · obtain ⟨(f_13 : a.eval (.tmp 13) = .bool (decide ((ml 2 (mn c2 d3)) ≤ n1))), c_15, c_16, -⟩ := hf
      refine sg_t rfl rfl rfl f_13 (fun hg => ?_)
      have f_15 : a.eval (.tmp 15) = .int .i64 c2 := c_15.1 hg
      have f_16 : a.eval (.tmp 16) = .int .i64 d3 := c_16.1 hg
      exact or_max f_15 f_16
    refine steps_cons (fun own a wx hf hsl hE => ?_) ?_
    · obtain ⟨(f_13 : a.eval (.tmp 13) = .bool (decide ((ml 2 (mn c2 d3)) ≤ n1))), c_17, -⟩ := hf
      refine sg_t rfl rfl rfl f_13 (fun hg => ?_)
      have f_17 : a.eval (.tmp 17) = .int .i64 (mx c2 d3) := c_17.1 hg
      exact or_mul rfl f_17 rfl
    refine steps_cons (fun own a wx hf hsl hE => ?_) ?_
    · obtain ⟨(f_13 : a.eval (.tmp 13) = .bool (decide ((ml 2 (mn c2 d3)) ≤ n1))), c_14, c_18, -⟩ := hf
      refine sg_t rfl rfl rfl f_13 (fun hg => ?_)
      have f_14 : a.eval (.tmp 14) = .int .i64 n1 := c_14.1 hg
      have f_18 : a.eval (.tmp 18) = .int .i64 (ml 2 (mx c2 d3)) := c_18.1 hg
      exact or_leq f_14 f_18 rfl
    refine steps_cons (fun own a wx hf hsl hE => ?_) ?_
    · obtain ⟨(f_13 : a.eval (.tmp 13) = .bool (decide ((ml 2 (mn c2 d3)) ≤ n1))), c_19, -⟩ := hf
      exact sg_plain rfl rfl (or_and f_13 (fun hx => c_19.1 hx) rfl (osome hx15).symm)
    refine steps_cons (fun own a wx hf hsl hE => ?_) ?_
    · obtain ⟨(f_20 : a.eval (.tmp 20) = .bool x15), -⟩ := hf
      exact sg_plain rfl rfl (or_assign f_20)
    exact steps_nil
  intro own16 a16 w16 hd16 hz16 hk16 hf16 hE16
  obtain ⟨(f_6 : a16.eval (.tmp 6) = .bool x15), -⟩ := hf16 [14] rfl
  have e16_6 := f_6
  have hX16 := Evo.step hX14 (fun _ => Nat.le_refl 0) hE16 rfl
  refine fl_ret ?_
  obtain rfl := (osome hs).symm
  exact hret _ _ _ _ (.inl rfl) hd16 (results1_ rfl (RVal.tmp_ e16_6)) ⟨own16, rfl, hX16⟩

theorem ring_beside_has_w (w : World) (m1 : (Int × Int) × (Int × Int)) (x2 : Int × Int) (b3 : Int × Int) (r : Bool) (hs : ring_beside_has m1 x2 b3 = some r) :
    Calls Try.prog 40 #[.agg #[.int .i64 m1.1.1, .int .i64 m1.1.2, .int .i64 m1.2.1, .int .i64 m1.2.2], .agg #[.int .i64 x2.1, .int .i64 x2.2], .agg #[.int .i64 b3.1, .int .i64 b3.2]] w fun e w' => ∃ own' : Own, e = .returned (.bool r) ∧ Evo [] (fun _ => 0) own' w w' := by
  refine fl_enter (n := 72) rfl rfl rfl (Nat.le_of_ble_eq_true rfl) ?_
  intro a0 Q hd0 hz0 harg hret
  have ha0 := harg 0 _ rfl
  have ha1 := harg 1 _ rfl
  have ha2 := harg 2 _ rfl
  clear harg
  have hE0 : Evo [] (fun _ => 0) (fun _ => 0) w w := Evo.refl _ _ _
  refine rg_plain_seq (n := 72) (rs := []) (own0 := (fun _ => 0)) (K := [])
      (bs := [0, 0, 0, 0])
      (ds := [⟨[], [0], [], Fct.blk 31 3 (fun g => .pointer (some ⟨g, 0, none⟩)) 64 #[.int .i64 m1.1.1, .int .i64 m1.1.2, .int .i64 m1.2.1, .int .i64 m1.2.2]⟩,
      ⟨[], [1], [], Fct.blk 33 4 (fun g => .pointer (some ⟨g, 0, none⟩)) 32 #[.int .i64 x2.1, .int .i64 x2.2]⟩,
      ⟨[], [2], [], Fct.blk 35 5 (fun g => .pointer (some ⟨g, 0, none⟩)) 32 #[.int .i64 b3.1, .int .i64 b3.2]⟩,
      ⟨[], [], [], Fct.val 6 (.bool false)⟩]) (by kernel_rfl) hz0 hd0 (fun _ h => nomatch h) ?_ ?_
  · refine steps_cons (fun own a wx hf hsl hE => ?_) ?_
    · obtain ⟨s_0, -⟩ := hsl
      exact sg_plain rfl rfl (or_new [(0, .agg #[.int .i64 m1.1.1, .int .i64 m1.1.2, .int .i64 m1.2.1, .int .i64 m1.2.2])] rfl rfl ⟨(s_0.trans ha0), trivial⟩ (by kernel_rfl))
    refine steps_cons (fun own a wx hf hsl hE => ?_) ?_
    · obtain ⟨s_1, -⟩ := hsl
      exact sg_plain rfl rfl (or_new [(1, .agg #[.int .i64 x2.1, .int .i64 x2.2])] rfl rfl ⟨(s_1.trans ha1), trivial⟩ (by kernel_rfl))
    refine steps_cons (fun own a wx hf hsl hE => ?_) ?_
    · obtain ⟨s_2, -⟩ := hsl
      exact sg_plain rfl rfl (or_new [(2, .agg #[.int .i64 b3.1, .int .i64 b3.2])] rfl rfl ⟨(s_2.trans ha2), trivial⟩ (by kernel_rfl))
    refine steps_cons (fun own a wx hf hsl hE => ?_) ?_
    · exact sg_plain rfl rfl (or_assign rfl)
    exact steps_nil
  intro own36 a36 w36 hd36 hz36 hk36 hf36 hE36
  obtain ⟨⟨g30, (f_3 : a36.eval (.tmp 3) = .pointer (some ⟨g30, 0, none⟩)), (b_g30 : BlkO own36 31 w36 g30 64 #[.int .i64 m1.1.1, .int .i64 m1.1.2, .int .i64 m1.2.1, .int .i64 m1.2.2])⟩, ⟨g32, (f_4 : a36.eval (.tmp 4) = .pointer (some ⟨g32, 0, none⟩)), (b_g32 : BlkO own36 33 w36 g32 32 #[.int .i64 x2.1, .int .i64 x2.2])⟩, ⟨g34, (f_5 : a36.eval (.tmp 5) = .pointer (some ⟨g34, 0, none⟩)), (b_g34 : BlkO own36 35 w36 g34 32 #[.int .i64 b3.1, .int .i64 b3.2])⟩, -⟩ := hf36 [0, 1, 2] rfl
  have e36_3 := f_3
  have e36_4 := f_4
  have e36_5 := f_5
  have hX36 := Evo.step hE0 (fun _ => Nat.le_refl 0) hE36 rfl
  have b36_g30 := b_g30
  have b36_g32 := b_g32
  have b36_g34 := b_g34
  refine rg_draw_seq g_mixed (n := 72) (rs := []) (own0 := own36) (K := [])
      (bs := [0, 1, 0, 4, 15, 0, 32, 0, 128, 480, 31, 2047])
      (ds := [⟨[], [5], [], Fct.val 10 (.pointer (some ⟨g34, 0, none⟩))⟩,
      ⟨[0], [], [], Fct.val 11 (.int .i64 b3.1)⟩,
      ⟨[], [4], [], Fct.val 12 (.pointer (some ⟨g32, 0, none⟩))⟩,
      ⟨[2], [], [], Fct.val 13 (.int .i64 x2.1)⟩,
      ⟨[1, 3], [], [], Fct.val 14 (.int .i64 (sb b3.1 x2.1))⟩,
      ⟨[], [5], [], Fct.val 15 (.pointer (some ⟨g34, 1, none⟩))⟩,
      ⟨[5], [], [], Fct.val 16 (.int .i64 b3.2)⟩,
      ⟨[], [4], [], Fct.val 17 (.pointer (some ⟨g32, 1, none⟩))⟩,
      ⟨[7], [], [], Fct.val 18 (.int .i64 x2.2)⟩,
      ⟨[6, 8], [], [], Fct.val 19 (.int .i64 (sb b3.2 x2.2))⟩,
      ⟨[4], [], [], Fct.val 7 (.int .i64 (sb b3.1 x2.1))⟩,
      ⟨[9], [], [], Fct.val 8 (.int .i64 (sb b3.2 x2.2))⟩]) (by kernel_rfl) hz36 hd36 (fun _ h => nomatch h) ?_ ?_
  · refine steps_cons (fun own a wx hf hsl hE => ?_) ?_
    · obtain ⟨s_5, -⟩ := hsl
      exact sg_plain rfl rfl (or_field fo32_0 (s_5.trans e36_5) (by rfl))
    refine steps_cons (fun own a wx hf hsl hE => ?_) ?_
    · obtain ⟨(f_10 : a.eval (.tmp 10) = .pointer (some ⟨g34, 0, none⟩)), -⟩ := hf
      exact sg_plain rfl rfl (or_load1 to3 f_10 (Blk.at_ (BlkO.evo (by decide) hE b36_g34).2 0 rfl))
    refine steps_cons (fun own a wx hf hsl hE => ?_) ?_
    · obtain ⟨s_4, -⟩ := hsl
      exact sg_plain rfl rfl (or_field fo32_0 (s_4.trans e36_4) (by rfl))
    refine steps_cons (fun own a wx hf hsl hE => ?_) ?_
    · obtain ⟨(f_12 : a.eval (.tmp 12) = .pointer (some ⟨g32, 0, none⟩)), -⟩ := hf
      exact sg_plain rfl rfl (or_load1 to3 f_12 (Blk.at_ (BlkO.evo (by decide) hE b36_g32).2 0 rfl))
    refine steps_cons (fun own a wx hf hsl hE => ?_) ?_
    · obtain ⟨(f_11 : a.eval (.tmp 11) = .int .i64 b3.1), (f_13 : a.eval (.tmp 13) = .int .i64 x2.1), -⟩ := hf
      exact sg_plain rfl rfl (or_sub f_11 f_13 rfl)
    refine steps_cons (fun own a wx hf hsl hE => ?_) ?_
    · obtain ⟨s_5, -⟩ := hsl
      exact sg_plain rfl rfl (or_field fo32_1 (s_5.trans e36_5) (by rfl))
    refine steps_cons (fun own a wx hf hsl hE => ?_) ?_
    · obtain ⟨(f_15 : a.eval (.tmp 15) = .pointer (some ⟨g34, 1, none⟩)), -⟩ := hf
      exact sg_plain rfl rfl (or_load1 to3 f_15 (Blk.at_ (BlkO.evo (by decide) hE b36_g34).2 1 rfl))
    refine steps_cons (fun own a wx hf hsl hE => ?_) ?_
    · obtain ⟨s_4, -⟩ := hsl
      exact sg_plain rfl rfl (or_field fo32_1 (s_4.trans e36_4) (by rfl))
    refine steps_cons (fun own a wx hf hsl hE => ?_) ?_
    · obtain ⟨(f_17 : a.eval (.tmp 17) = .pointer (some ⟨g32, 1, none⟩)), -⟩ := hf
      exact sg_plain rfl rfl (or_load1 to3 f_17 (Blk.at_ (BlkO.evo (by decide) hE b36_g32).2 1 rfl))
    refine steps_cons (fun own a wx hf hsl hE => ?_) ?_
    · obtain ⟨(f_16 : a.eval (.tmp 16) = .int .i64 b3.2), (f_18 : a.eval (.tmp 18) = .int .i64 x2.2), -⟩ := hf
      exact sg_plain rfl rfl (or_sub f_16 f_18 rfl)
    refine steps_cons (fun own a wx hf hsl hE => ?_) ?_
    · obtain ⟨(f_14 : a.eval (.tmp 14) = .int .i64 (sb b3.1 x2.1)), -⟩ := hf
      exact sg_plain rfl rfl (or_assign f_14)
    refine steps_cons (fun own a wx hf hsl hE => ?_) ?_
    · obtain ⟨(f_19 : a.eval (.tmp 19) = .int .i64 (sb b3.2 x2.2)), -⟩ := hf
      exact sg_plain rfl rfl (or_assign f_19)
    exact steps_nil
  intro own37 a37 w37 hd37 hz37 hk37 hf37 hE37
  have e37_3 : a37.eval (.tmp 3) = .pointer (some ⟨g30, 0, none⟩) := (hk37 3 rfl).trans e36_3
  have e37_4 : a37.eval (.tmp 4) = .pointer (some ⟨g32, 0, none⟩) := (hk37 4 rfl).trans e36_4
  have e37_5 : a37.eval (.tmp 5) = .pointer (some ⟨g34, 0, none⟩) := (hk37 5 rfl).trans e36_5
  obtain ⟨(f_7 : a37.eval (.tmp 7) = .int .i64 (sb b3.1 x2.1)), (f_8 : a37.eval (.tmp 8) = .int .i64 (sb b3.2 x2.2)), -⟩ := hf37 [10, 11] rfl
  have e37_7 := f_7
  have e37_8 := f_8
  have hX37 := Evo.step hX36 (fun _ => Nat.le_refl 0) hE37 rfl
  have b37_g30 := BlkO.evo (by decide) hE37 b36_g30
  have b37_g32 := BlkO.evo (by decide) hE37 b36_g32
  have b37_g34 := BlkO.evo (by decide) hE37 b36_g34
  refine fl_seq (fun Q38 hn38 hp38 => ?_)
  obtain ⟨x39, hx39, hs⟩ := obind hs
  obtain ⟨x40, hx40, hs⟩ := obind hs
  obtain ⟨x41, hx41, hs⟩ := obind hs
  refine rg_plain_seq (n := 72) (rs := []) (own0 := own37) (K := [])
      (bs := [0, 0, 2, 6, 15, 0, 0, 64, 192, 480, 1023, 2047, 4095, 4095, 12287, 28671, 4095, 69631, 200703, 520191, 1048575, 4095, 4095, 4198399, 12587007, 4095, 33558527, 100667391, 264245247, 534777855, 1073741823, 2147483647])
      (ds := [⟨[], [7], [], Fct.val 20 (.int .i64 (sb b3.1 x2.1))⟩,
      ⟨[], [3], [], Fct.val 21 (.pointer (some ⟨g30, 2, none⟩))⟩,
      ⟨[1], [], [], Fct.val 22 (.pointer (some ⟨g30, 3, none⟩))⟩,
      ⟨[2], [], [], Fct.val 23 (.int .i64 m1.2.2)⟩,
      ⟨[0, 3], [], [], Fct.val 24 (.int .i64 (ml (sb b3.1 x2.1) m1.2.2))⟩,
      ⟨[], [8], [], Fct.val 25 (.int .i64 (sb b3.2 x2.2))⟩,
      ⟨[], [3], [], Fct.val 26 (.pointer (some ⟨g30, 2, none⟩))⟩,
      ⟨[6], [], [], Fct.val 27 (.pointer (some ⟨g30, 2, none⟩))⟩,
      ⟨[7], [], [], Fct.val 28 (.int .i64 m1.2.1)⟩,
      ⟨[5, 8], [], [], Fct.val 29 (.int .i64 (ml (sb b3.2 x2.2) m1.2.1))⟩,
      ⟨[4, 9], [], [], Fct.val 30 (.bool (decide ((ml (sb b3.1 x2.1) m1.2.2) = (ml (sb b3.2 x2.2) m1.2.1))))⟩,
      ⟨[10], [], [], Fct.val 31 (.bool (decide ((ml (sb b3.1 x2.1) m1.2.2) = (ml (sb b3.2 x2.2) m1.2.1))))⟩,
      ⟨[11], [7], [], Fct.cond (!(decide ((ml (sb b3.1 x2.1) m1.2.2) = (ml (sb b3.2 x2.2) m1.2.1)))) (some 32) (Fct.val 32 (.int .i64 (sb b3.1 x2.1)))⟩,
      ⟨[11], [3], [], Fct.cond (!(decide ((ml (sb b3.1 x2.1) m1.2.2) = (ml (sb b3.2 x2.2) m1.2.1)))) (some 33) (Fct.val 33 (.pointer (some ⟨g30, 0, none⟩)))⟩,
      ⟨[11, 13], [], [], Fct.cond (!(decide ((ml (sb b3.1 x2.1) m1.2.2) = (ml (sb b3.2 x2.2) m1.2.1)))) (some 34) (Fct.val 34 (.pointer (some ⟨g30, 1, none⟩)))⟩,
      ⟨[11, 14], [], [], Fct.cond (!(decide ((ml (sb b3.1 x2.1) m1.2.2) = (ml (sb b3.2 x2.2) m1.2.1)))) (some 35) (Fct.val 35 (.int .i64 m1.1.2))⟩,
      ⟨[11], [4], [], Fct.cond (!(decide ((ml (sb b3.1 x2.1) m1.2.2) = (ml (sb b3.2 x2.2) m1.2.1)))) (some 36) (Fct.val 36 (.pointer (some ⟨g32, 1, none⟩)))⟩,
      ⟨[11, 16], [], [], Fct.cond (!(decide ((ml (sb b3.1 x2.1) m1.2.2) = (ml (sb b3.2 x2.2) m1.2.1)))) (some 37) (Fct.val 37 (.int .i64 x2.2))⟩,
      ⟨[11, 17], [], [], Fct.cond (!(decide ((ml (sb b3.1 x2.1) m1.2.2) = (ml (sb b3.2 x2.2) m1.2.1)))) (some 38) (Fct.val 38 (.int .i64 (ml 2 x2.2)))⟩,
      ⟨[11, 15, 18], [], [], Fct.cond (!(decide ((ml (sb b3.1 x2.1) m1.2.2) = (ml (sb b3.2 x2.2) m1.2.1)))) (some 39) (Fct.val 39 (.int .i64 (sb m1.1.2 (ml 2 x2.2))))⟩,
      ⟨[11, 12, 19], [], [], Fct.cond (!(decide ((ml (sb b3.1 x2.1) m1.2.2) = (ml (sb b3.2 x2.2) m1.2.1)))) (some 40) (Fct.val 40 (.int .i64 x39))⟩,
      ⟨[11], [8], [], Fct.cond (!(decide ((ml (sb b3.1 x2.1) m1.2.2) = (ml (sb b3.2 x2.2) m1.2.1)))) (some 41) (Fct.val 41 (.int .i64 (sb b3.2 x2.2)))⟩,
      ⟨[11], [3], [], Fct.cond (!(decide ((ml (sb b3.1 x2.1) m1.2.2) = (ml (sb b3.2 x2.2) m1.2.1)))) (some 42) (Fct.val 42 (.pointer (some ⟨g30, 0, none⟩)))⟩,
      ⟨[11, 22], [], [], Fct.cond (!(decide ((ml (sb b3.1 x2.1) m1.2.2) = (ml (sb b3.2 x2.2) m1.2.1)))) (some 43) (Fct.val 43 (.pointer (some ⟨g30, 0, none⟩)))⟩,
      ⟨[11, 23], [], [], Fct.cond (!(decide ((ml (sb b3.1 x2.1) m1.2.2) = (ml (sb b3.2 x2.2) m1.2.1)))) (some 44) (Fct.val 44 (.int .i64 m1.1.1))⟩,
      ⟨[11], [4], [], Fct.cond (!(decide ((ml (sb b3.1 x2.1) m1.2.2) = (ml (sb b3.2 x2.2) m1.2.1)))) (some 45) (Fct.val 45 (.pointer (some ⟨g32, 0, none⟩)))⟩,
      ⟨[11, 25], [], [], Fct.cond (!(decide ((ml (sb b3.1 x2.1) m1.2.2) = (ml (sb b3.2 x2.2) m1.2.1)))) (some 46) (Fct.val 46 (.int .i64 x2.1))⟩,
      ⟨[11, 26], [], [], Fct.cond (!(decide ((ml (sb b3.1 x2.1) m1.2.2) = (ml (sb b3.2 x2.2) m1.2.1)))) (some 47) (Fct.val 47 (.int .i64 (ml 2 x2.1)))⟩,
      ⟨[11, 24, 27], [], [], Fct.cond (!(decide ((ml (sb b3.1 x2.1) m1.2.2) = (ml (sb b3.2 x2.2) m1.2.1)))) (some 48) (Fct.val 48 (.int .i64 (sb m1.1.1 (ml 2 x2.1))))⟩,
      ⟨[11, 21, 28], [], [], Fct.cond (!(decide ((ml (sb b3.1 x2.1) m1.2.2) = (ml (sb b3.2 x2.2) m1.2.1)))) (some 49) (Fct.val 49 (.int .i64 x40))⟩,
      ⟨[11, 20, 29], [], [], Fct.cond (!(decide ((ml (sb b3.1 x2.1) m1.2.2) = (ml (sb b3.2 x2.2) m1.2.1)))) (some 50) (Fct.val 50 (.bool (!decide (x39 = x40))))⟩,
      ⟨[11, 30], [], [], Fct.val 51 (.bool x41)⟩]) (by kernel_rfl) hz37 hd37 (fun _ h => nomatch h) ?_ ?_
  · refine steps_cons (fun own a wx hf hsl hE => ?_) ?_
    · obtain ⟨s_7, -⟩ := hsl
      exact sg_plain rfl rfl (or_move (s_7.trans e37_7))
    refine steps_cons (fun own a wx hf hsl hE => ?_) ?_
    · obtain ⟨s_3, -⟩ := hsl
      exact sg_plain rfl rfl (or_field fo64_1 (s_3.trans e37_3) (by rfl))
    refine steps_cons (fun own a wx hf hsl hE => ?_) ?_
    · obtain ⟨(f_21 : a.eval (.tmp 21) = .pointer (some ⟨g30, 2, none⟩)), -⟩ := hf
      exact sg_plain rfl rfl (or_field fo32_1 f_21 (by rfl))
    refine steps_cons (fun own a wx hf hsl hE => ?_) ?_
    · obtain ⟨(f_22 : a.eval (.tmp 22) = .pointer (some ⟨g30, 3, none⟩)), -⟩ := hf
      exact sg_plain rfl rfl (or_load1 to3 f_22 (Blk.at_ (BlkO.evo (by decide) hE b37_g30).2 3 rfl))
    refine steps_cons (fun own a wx hf hsl hE => ?_) ?_
    · obtain ⟨(f_20 : a.eval (.tmp 20) = .int .i64 (sb b3.1 x2.1)), (f_23 : a.eval (.tmp 23) = .int .i64 m1.2.2), -⟩ := hf
      exact sg_plain rfl rfl (or_mul f_20 f_23 rfl)
    refine steps_cons (fun own a wx hf hsl hE => ?_) ?_
    · obtain ⟨s_8, -⟩ := hsl
      exact sg_plain rfl rfl (or_move (s_8.trans e37_8))
    refine steps_cons (fun own a wx hf hsl hE => ?_) ?_
    · obtain ⟨s_3, -⟩ := hsl
      exact sg_plain rfl rfl (or_field fo64_1 (s_3.trans e37_3) (by rfl))
    refine steps_cons (fun own a wx hf hsl hE => ?_) ?_
    · obtain ⟨(f_26 : a.eval (.tmp 26) = .pointer (some ⟨g30, 2, none⟩)), -⟩ := hf
      exact sg_plain rfl rfl (or_field fo32_0 f_26 (by rfl))
    refine steps_cons (fun own a wx hf hsl hE => ?_) ?_
    · obtain ⟨(f_27 : a.eval (.tmp 27) = .pointer (some ⟨g30, 2, none⟩)), -⟩ := hf
      exact sg_plain rfl rfl (or_load1 to3 f_27 (Blk.at_ (BlkO.evo (by decide) hE b37_g30).2 2 rfl))
    refine steps_cons (fun own a wx hf hsl hE => ?_) ?_
    · obtain ⟨(f_25 : a.eval (.tmp 25) = .int .i64 (sb b3.2 x2.2)), (f_28 : a.eval (.tmp 28) = .int .i64 m1.2.1), -⟩ := hf
      exact sg_plain rfl rfl (or_mul f_25 f_28 rfl)
    refine steps_cons (fun own a wx hf hsl hE => ?_) ?_
    · obtain ⟨(f_24 : a.eval (.tmp 24) = .int .i64 (ml (sb b3.1 x2.1) m1.2.2)), (f_29 : a.eval (.tmp 29) = .int .i64 (ml (sb b3.2 x2.2) m1.2.1)), -⟩ := hf
      exact sg_plain rfl rfl (or_eql f_24 f_29 rfl)
    refine steps_cons (fun own a wx hf hsl hE => ?_) ?_
    · obtain ⟨(f_30 : a.eval (.tmp 30) = .bool (decide ((ml (sb b3.1 x2.1) m1.2.2) = (ml (sb b3.2 x2.2) m1.2.1)))), -⟩ := hf
      exact sg_plain rfl rfl (or_move f_30)
    refine steps_cons (fun own a wx hf hsl hE => ?_) ?_
    · obtain ⟨(f_31 : a.eval (.tmp 31) = .bool (decide ((ml (sb b3.1 x2.1) m1.2.2) = (ml (sb b3.2 x2.2) m1.2.1)))), -⟩ := hf
      obtain ⟨s_7, -⟩ := hsl
      refine sg_f rfl rfl rfl f_31 (fun hg => ?_)
      exact or_move (s_7.trans e37_7)
    refine steps_cons (fun own a wx hf hsl hE => ?_) ?_
    · obtain ⟨(f_31 : a.eval (.tmp 31) = .bool (decide ((ml (sb b3.1 x2.1) m1.2.2) = (ml (sb b3.2 x2.2) m1.2.1)))), -⟩ := hf
      obtain ⟨s_3, -⟩ := hsl
      refine sg_f rfl rfl rfl f_31 (fun hg => ?_)
      exact or_field fo64_0 (s_3.trans e37_3) (by rfl)
    refine steps_cons (fun own a wx hf hsl hE => ?_) ?_
    · obtain ⟨(f_31 : a.eval (.tmp 31) = .bool (decide ((ml (sb b3.1 x2.1) m1.2.2) = (ml (sb b3.2 x2.2) m1.2.1)))), c_33, -⟩ := hf
      refine sg_f rfl rfl rfl f_31 (fun hg => ?_)
      have f_33 : a.eval (.tmp 33) = .pointer (some ⟨g30, 0, none⟩) := c_33.1 hg
      exact or_field fo32_1 f_33 (by rfl)
    refine steps_cons (fun own a wx hf hsl hE => ?_) ?_
    · obtain ⟨(f_31 : a.eval (.tmp 31) = .bool (decide ((ml (sb b3.1 x2.1) m1.2.2) = (ml (sb b3.2 x2.2) m1.2.1)))), c_34, -⟩ := hf
      refine sg_f rfl rfl rfl f_31 (fun hg => ?_)
      have f_34 : a.eval (.tmp 34) = .pointer (some ⟨g30, 1, none⟩) := c_34.1 hg
      exact or_load1 to3 f_34 (Blk.at_ (BlkO.evo (by decide) hE b37_g30).2 1 rfl)
    refine steps_cons (fun own a wx hf hsl hE => ?_) ?_
    · obtain ⟨(f_31 : a.eval (.tmp 31) = .bool (decide ((ml (sb b3.1 x2.1) m1.2.2) = (ml (sb b3.2 x2.2) m1.2.1)))), -⟩ := hf
      obtain ⟨s_4, -⟩ := hsl
      refine sg_f rfl rfl rfl f_31 (fun hg => ?_)
      exact or_field fo32_1 (s_4.trans e37_4) (by rfl)
    refine steps_cons (fun own a wx hf hsl hE => ?_) ?_
    · obtain ⟨(f_31 : a.eval (.tmp 31) = .bool (decide ((ml (sb b3.1 x2.1) m1.2.2) = (ml (sb b3.2 x2.2) m1.2.1)))), c_36, -⟩ := hf
      refine sg_f rfl rfl rfl f_31 (fun hg => ?_)
      have f_36 : a.eval (.tmp 36) = .pointer (some ⟨g32, 1, none⟩) := c_36.1 hg
      exact or_load1 to3 f_36 (Blk.at_ (BlkO.evo (by decide) hE b37_g32).2 1 rfl)
    refine steps_cons (fun own a wx hf hsl hE => ?_) ?_
    · obtain ⟨(f_31 : a.eval (.tmp 31) = .bool (decide ((ml (sb b3.1 x2.1) m1.2.2) = (ml (sb b3.2 x2.2) m1.2.1)))), c_37, -⟩ := hf
      refine sg_f rfl rfl rfl f_31 (fun hg => ?_)
      have f_37 : a.eval (.tmp 37) = .int .i64 x2.2 := c_37.1 hg
      exact or_mul rfl f_37 rfl
    refine steps_cons (fun own a wx hf hsl hE => ?_) ?_
    · obtain ⟨(f_31 : a.eval (.tmp 31) = .bool (decide ((ml (sb b3.1 x2.1) m1.2.2) = (ml (sb b3.2 x2.2) m1.2.1)))), c_35, c_38, -⟩ := hf
      refine sg_f rfl rfl rfl f_31 (fun hg => ?_)
      have f_35 : a.eval (.tmp 35) = .int .i64 m1.1.2 := c_35.1 hg
      have f_38 : a.eval (.tmp 38) = .int .i64 (ml 2 x2.2) := c_38.1 hg
      exact or_sub f_35 f_38 rfl
    refine steps_cons (fun own a wx hf hsl hE => ?_) ?_
    · obtain ⟨(f_31 : a.eval (.tmp 31) = .bool (decide ((ml (sb b3.1 x2.1) m1.2.2) = (ml (sb b3.2 x2.2) m1.2.1)))), c_32, c_39, -⟩ := hf
      refine sg_f rfl rfl rfl f_31 (fun hg => ?_)
      have f_32 : a.eval (.tmp 32) = .int .i64 (sb b3.1 x2.1) := c_32.1 hg
      have f_39 : a.eval (.tmp 39) = .int .i64 (sb m1.1.2 (ml 2 x2.2)) := c_39.1 hg
      exact or_mul f_32 f_39 (osome hx39).symm
    refine steps_cons (fun own a wx hf hsl hE => ?_) ?_
    · obtain ⟨(f_31 : a.eval (.tmp 31) = .bool (decide ((ml (sb b3.1 x2.1) m1.2.2) = (ml (sb b3.2 x2.2) m1.2.1)))), -⟩ := hf
      obtain ⟨s_8, -⟩ := hsl
      refine sg_f rfl rfl rfl f_31 (fun hg => ?_)
      exact or_move (s_8.trans e37_8)
    refine steps_cons (fun own a wx hf hsl hE => ?_) ?_
    · obtain ⟨(f_31 : a.eval (.tmp 31) = .bool (decide ((ml (sb b3.1 x2.1) m1.2.2) = (ml (sb b3.2 x2.2) m1.2.1)))), -⟩ := hf
      obtain ⟨s_3, -⟩ := hsl
      refine sg_f rfl rfl rfl f_31 (fun hg => ?_)
      exact or_field fo64_0 (s_3.trans e37_3) (by rfl)
    refine steps_cons (fun own a wx hf hsl hE => ?_) ?_
    · obtain ⟨(f_31 : a.eval (.tmp 31) = .bool (decide ((ml (sb b3.1 x2.1) m1.2.2) = (ml (sb b3.2 x2.2) m1.2.1)))), c_42, -⟩ := hf
      refine sg_f rfl rfl rfl f_31 (fun hg => ?_)
      have f_42 : a.eval (.tmp 42) = .pointer (some ⟨g30, 0, none⟩) := c_42.1 hg
      exact or_field fo32_0 f_42 (by rfl)
    refine steps_cons (fun own a wx hf hsl hE => ?_) ?_
    · obtain ⟨(f_31 : a.eval (.tmp 31) = .bool (decide ((ml (sb b3.1 x2.1) m1.2.2) = (ml (sb b3.2 x2.2) m1.2.1)))), c_43, -⟩ := hf
      refine sg_f rfl rfl rfl f_31 (fun hg => ?_)
      have f_43 : a.eval (.tmp 43) = .pointer (some ⟨g30, 0, none⟩) := c_43.1 hg
      exact or_load1 to3 f_43 (Blk.at_ (BlkO.evo (by decide) hE b37_g30).2 0 rfl)
    refine steps_cons (fun own a wx hf hsl hE => ?_) ?_
    · obtain ⟨(f_31 : a.eval (.tmp 31) = .bool (decide ((ml (sb b3.1 x2.1) m1.2.2) = (ml (sb b3.2 x2.2) m1.2.1)))), -⟩ := hf
      obtain ⟨s_4, -⟩ := hsl
      refine sg_f rfl rfl rfl f_31 (fun hg => ?_)
      exact or_field fo32_0 (s_4.trans e37_4) (by rfl)
    refine steps_cons (fun own a wx hf hsl hE => ?_) ?_
    · obtain ⟨(f_31 : a.eval (.tmp 31) = .bool (decide ((ml (sb b3.1 x2.1) m1.2.2) = (ml (sb b3.2 x2.2) m1.2.1)))), c_45, -⟩ := hf
      refine sg_f rfl rfl rfl f_31 (fun hg => ?_)
      have f_45 : a.eval (.tmp 45) = .pointer (some ⟨g32, 0, none⟩) := c_45.1 hg
      exact or_load1 to3 f_45 (Blk.at_ (BlkO.evo (by decide) hE b37_g32).2 0 rfl)
    refine steps_cons (fun own a wx hf hsl hE => ?_) ?_
    · obtain ⟨(f_31 : a.eval (.tmp 31) = .bool (decide ((ml (sb b3.1 x2.1) m1.2.2) = (ml (sb b3.2 x2.2) m1.2.1)))), c_46, -⟩ := hf
      refine sg_f rfl rfl rfl f_31 (fun hg => ?_)
      have f_46 : a.eval (.tmp 46) = .int .i64 x2.1 := c_46.1 hg
      exact or_mul rfl f_46 rfl
    refine steps_cons (fun own a wx hf hsl hE => ?_) ?_
    · obtain ⟨(f_31 : a.eval (.tmp 31) = .bool (decide ((ml (sb b3.1 x2.1) m1.2.2) = (ml (sb b3.2 x2.2) m1.2.1)))), c_44, c_47, -⟩ := hf
      refine sg_f rfl rfl rfl f_31 (fun hg => ?_)
      have f_44 : a.eval (.tmp 44) = .int .i64 m1.1.1 := c_44.1 hg
      have f_47 : a.eval (.tmp 47) = .int .i64 (ml 2 x2.1) := c_47.1 hg
      exact or_sub f_44 f_47 rfl
    refine steps_cons (fun own a wx hf hsl hE => ?_) ?_
    · obtain ⟨(f_31 : a.eval (.tmp 31) = .bool (decide ((ml (sb b3.1 x2.1) m1.2.2) = (ml (sb b3.2 x2.2) m1.2.1)))), c_41, c_48, -⟩ := hf
      refine sg_f rfl rfl rfl f_31 (fun hg => ?_)
      have f_41 : a.eval (.tmp 41) = .int .i64 (sb b3.2 x2.2) := c_41.1 hg
      have f_48 : a.eval (.tmp 48) = .int .i64 (sb m1.1.1 (ml 2 x2.1)) := c_48.1 hg
      exact or_mul f_41 f_48 (osome hx40).symm
    refine steps_cons (fun own a wx hf hsl hE => ?_) ?_
    · obtain ⟨(f_31 : a.eval (.tmp 31) = .bool (decide ((ml (sb b3.1 x2.1) m1.2.2) = (ml (sb b3.2 x2.2) m1.2.1)))), c_40, c_49, -⟩ := hf
      refine sg_f rfl rfl rfl f_31 (fun hg => ?_)
      have f_40 : a.eval (.tmp 40) = .int .i64 x39 := c_40.1 hg
      have f_49 : a.eval (.tmp 49) = .int .i64 x40 := c_49.1 hg
      exact or_neq f_40 f_49 rfl
    refine steps_cons (fun own a wx hf hsl hE => ?_) ?_
    · obtain ⟨(f_31 : a.eval (.tmp 31) = .bool (decide ((ml (sb b3.1 x2.1) m1.2.2) = (ml (sb b3.2 x2.2) m1.2.1)))), c_50, -⟩ := hf
      exact sg_plain rfl rfl (or_or f_31 rfl (fun hx => c_50.1 hx) (osome hx41).symm)
    exact steps_nil
  intro own42 a42 w42 hd42 hz42 hk42 hf42 hE42
  have e42_3 : a42.eval (.tmp 3) = .pointer (some ⟨g30, 0, none⟩) := (hk42 3 rfl).trans e37_3
  have e42_4 : a42.eval (.tmp 4) = .pointer (some ⟨g32, 0, none⟩) := (hk42 4 rfl).trans e37_4
  have e42_5 : a42.eval (.tmp 5) = .pointer (some ⟨g34, 0, none⟩) := (hk42 5 rfl).trans e37_5
  obtain ⟨(f_51 : a42.eval (.tmp 51) = .bool x41), -⟩ := hf42 [31] rfl
  have e42_51 := f_51
  have hX42 := Evo.step hX37 (fun _ => Nat.le_refl 0) hE42 rfl
  have b42_g30 := BlkO.evo (by decide) hE42 b37_g30
  have b42_g32 := BlkO.evo (by decide) hE42 b37_g32
  have b42_g34 := BlkO.evo (by decide) hE42 b37_g34
  refine fl_cond e42_51 hs (fun c43 hs => ?_) (fun c43 hs => ?_)
  · refine rg_plain_seq (n := 72) (rs := []) (own0 := own42) (K := [])
        (bs := [0])
        (ds := [⟨[], [], [], Fct.val 6 (.bool false)⟩]) (by kernel_rfl) hz42 hd42 (fun _ h => nomatch h) ?_ ?_
    · refine steps_cons (fun own a wx hf hsl hE => ?_) ?_
      · exact sg_plain rfl rfl (or_assign rfl)
      exact steps_nil
    intro own44 a44 w44 hd44 hz44 hk44 hf44 hE44
    obtain ⟨(f_6 : a44.eval (.tmp 6) = .bool false), -⟩ := hf44 [0] rfl
    have e44_6 := f_6
    have hX44 := Evo.step hX42 (fun _ => Nat.le_refl 0) hE44 rfl
    refine fl_ret ?_
    refine hp38 _ _ _ rfl ?_
    obtain rfl := osome hs
    exact hret _ _ _ _ (.inl rfl) hd44 (results1_ rfl (RVal.tmp_ e44_6)) ⟨own44, rfl, hX44⟩
  refine fl_skip ?_
  refine hn38 _ _ ?_
  refine rg_plain_seq (n := 72) (rs := []) (own0 := own42) (K := [])
      (bs := [0])
      (ds := [⟨[], [], [], Fct.val 9 (.func (.func 61) #[] #[])⟩]) (by kernel_rfl) hz42 hd42 (fun _ h => nomatch h) ?_ ?_
  · refine steps_cons (fun own a wx hf hsl hE => ?_) ?_
    · exact sg_plain rfl rfl (or_assign rfl)
    exact steps_nil
  intro own45 a45 w45 hd45 hz45 hk45 hf45 hE45
  have e45_3 : a45.eval (.tmp 3) = .pointer (some ⟨g30, 0, none⟩) := (hk45 3 rfl).trans e42_3
  have e45_4 : a45.eval (.tmp 4) = .pointer (some ⟨g32, 0, none⟩) := (hk45 4 rfl).trans e42_4
  have e45_5 : a45.eval (.tmp 5) = .pointer (some ⟨g34, 0, none⟩) := (hk45 5 rfl).trans e42_5
  obtain ⟨(f_9 : a45.eval (.tmp 9) = .func (.func 61) #[] #[]), -⟩ := hf45 [0] rfl
  have e45_9 := f_9
  have hX45 := Evo.step hX42 (fun _ => Nat.le_refl 0) hE45 rfl
  have b45_g30 := BlkO.evo (by decide) hE45 b42_g30
  have b45_g32 := BlkO.evo (by decide) hE45 b42_g32
  have b45_g34 := BlkO.evo (by decide) hE45 b42_g34
  obtain ⟨r46, hr46, hs⟩ := obind hs
  obtain ⟨r47, hr47, hs⟩ := obind hs
  refine rg_plain_seq (n := 72) (rs := []) (own0 := own45) (K := [])
      (bs := [0, 0, 2, 6, 0, 16, 0, 64, 255, 511, 1023, 1023, 3071, 7167, 1023, 17407, 1023, 66559, 262143, 524287, 1048575])
      (ds := [⟨[], [9], [], Fct.val 52 (.func (.func 61) #[] #[])⟩,
      ⟨[], [3], [], Fct.val 53 (.pointer (some ⟨g30, 0, none⟩))⟩,
      ⟨[1], [], [], Fct.val 54 (.pointer (some ⟨g30, 0, none⟩))⟩,
      ⟨[2], [], [], Fct.val 55 (.int .i64 m1.1.1)⟩,
      ⟨[], [4], [], Fct.val 56 (.pointer (some ⟨g32, 0, none⟩))⟩,
      ⟨[4], [], [], Fct.val 57 (.int .i64 x2.1)⟩,
      ⟨[], [5], [], Fct.val 58 (.pointer (some ⟨g34, 0, none⟩))⟩,
      ⟨[6], [], [], Fct.val 59 (.int .i64 b3.1)⟩,
      ⟨[0, 3, 5, 7], [], [], Fct.val 60 (.bool r46)⟩,
      ⟨[8], [], [], Fct.val 61 (.bool r46)⟩,
      ⟨[9], [9], [], Fct.cond r46 (some 62) (Fct.val 62 (.func (.func 61) #[] #[]))⟩,
      ⟨[9], [3], [], Fct.cond r46 (some 63) (Fct.val 63 (.pointer (some ⟨g30, 0, none⟩)))⟩,
      ⟨[9, 11], [], [], Fct.cond r46 (some 64) (Fct.val 64 (.pointer (some ⟨g30, 1, none⟩)))⟩,
      ⟨[9, 12], [], [], Fct.cond r46 (some 65) (Fct.val 65 (.int .i64 m1.1.2))⟩,
      ⟨[9], [4], [], Fct.cond r46 (some 66) (Fct.val 66 (.pointer (some ⟨g32, 1, none⟩)))⟩,
      ⟨[9, 14], [], [], Fct.cond r46 (some 67) (Fct.val 67 (.int .i64 x2.2))⟩,
      ⟨[9], [5], [], Fct.cond r46 (some 68) (Fct.val 68 (.pointer (some ⟨g34, 1, none⟩)))⟩,
      ⟨[9, 16], [], [], Fct.cond r46 (some 69) (Fct.val 69 (.int .i64 b3.2))⟩,
      ⟨[9, 10, 13, 15, 17], [], [], Fct.cond r46 (some 70) (Fct.val 70 (.bool r47))⟩,
      ⟨[9, 18], [], [], Fct.val 71 (.bool (r46 && r47))⟩,
      ⟨[19], [], [], Fct.val 6 (.bool (r46 && r47))⟩]) (by kernel_rfl) hz45 hd45 (fun _ h => nomatch h) ?_ ?_
  · refine steps_cons (fun own a wx hf hsl hE => ?_) ?_
    · obtain ⟨s_9, -⟩ := hsl
      exact sg_plain rfl rfl (or_move (s_9.trans e45_9))
    refine steps_cons (fun own a wx hf hsl hE => ?_) ?_
    · obtain ⟨s_3, -⟩ := hsl
      exact sg_plain rfl rfl (or_field fo64_0 (s_3.trans e45_3) (by rfl))
    refine steps_cons (fun own a wx hf hsl hE => ?_) ?_
    · obtain ⟨(f_53 : a.eval (.tmp 53) = .pointer (some ⟨g30, 0, none⟩)), -⟩ := hf
      exact sg_plain rfl rfl (or_field fo32_0 f_53 (by rfl))
    refine steps_cons (fun own a wx hf hsl hE => ?_) ?_
    · obtain ⟨(f_54 : a.eval (.tmp 54) = .pointer (some ⟨g30, 0, none⟩)), -⟩ := hf
      exact sg_plain rfl rfl (or_load1 to3 f_54 (Blk.at_ (BlkO.evo (by decide) hE b45_g30).2 0 rfl))
    refine steps_cons (fun own a wx hf hsl hE => ?_) ?_
    · obtain ⟨s_4, -⟩ := hsl
      exact sg_plain rfl rfl (or_field fo32_0 (s_4.trans e45_4) (by rfl))
    refine steps_cons (fun own a wx hf hsl hE => ?_) ?_
    · obtain ⟨(f_56 : a.eval (.tmp 56) = .pointer (some ⟨g32, 0, none⟩)), -⟩ := hf
      exact sg_plain rfl rfl (or_load1 to3 f_56 (Blk.at_ (BlkO.evo (by decide) hE b45_g32).2 0 rfl))
    refine steps_cons (fun own a wx hf hsl hE => ?_) ?_
    · obtain ⟨s_5, -⟩ := hsl
      exact sg_plain rfl rfl (or_field fo32_0 (s_5.trans e45_5) (by rfl))
    refine steps_cons (fun own a wx hf hsl hE => ?_) ?_
    · obtain ⟨(f_58 : a.eval (.tmp 58) = .pointer (some ⟨g34, 0, none⟩)), -⟩ := hf
      exact sg_plain rfl rfl (or_load1 to3 f_58 (Blk.at_ (BlkO.evo (by decide) hE b45_g34).2 0 rfl))
    refine steps_cons (fun own a wx hf hsl hE => ?_) ?_
    · obtain ⟨(f_52 : a.eval (.tmp 52) = .func (.func 61) #[] #[]), (f_55 : a.eval (.tmp 55) = .int .i64 m1.1.1), (f_57 : a.eval (.tmp 57) = .int .i64 x2.1), (f_59 : a.eval (.tmp 59) = .int .i64 b3.1), -⟩ := hf
      exact sg_plain rfl rfl (or_callf cf61 f_52 (args3 f_55 f_57 f_59) rfl (ring_beside_has_1_w _ m1.1.1 x2.1 b3.1  r46 hr46) post_val)
    refine steps_cons (fun own a wx hf hsl hE => ?_) ?_
    · obtain ⟨(f_60 : a.eval (.tmp 60) = .bool r46), -⟩ := hf
      exact sg_plain rfl rfl (or_move f_60)
    refine steps_cons (fun own a wx hf hsl hE => ?_) ?_
    · obtain ⟨(f_61 : a.eval (.tmp 61) = .bool r46), -⟩ := hf
      obtain ⟨s_9, -⟩ := hsl
      refine sg_t rfl rfl rfl f_61 (fun hg => ?_)
      exact or_move (s_9.trans e45_9)
    refine steps_cons (fun own a wx hf hsl hE => ?_) ?_
    · obtain ⟨(f_61 : a.eval (.tmp 61) = .bool r46), -⟩ := hf
      obtain ⟨s_3, -⟩ := hsl
      refine sg_t rfl rfl rfl f_61 (fun hg => ?_)
      exact or_field fo64_0 (s_3.trans e45_3) (by rfl)
    refine steps_cons (fun own a wx hf hsl hE => ?_) ?_
    · obtain ⟨(f_61 : a.eval (.tmp 61) = .bool r46), c_63, -⟩ := hf
      refine sg_t rfl rfl rfl f_61 (fun hg => ?_)
      have f_63 : a.eval (.tmp 63) = .pointer (some ⟨g30, 0, none⟩) := c_63.1 hg
      exact or_field fo32_1 f_63 (by rfl)
    refine steps_cons (fun own a wx hf hsl hE => ?_) ?_
    · obtain ⟨(f_61 : a.eval (.tmp 61) = .bool r46), c_64, -⟩ := hf
      refine sg_t rfl rfl rfl f_61 (fun hg => ?_)
      have f_64 : a.eval (.tmp 64) = .pointer (some ⟨g30, 1, none⟩) := c_64.1 hg
      exact or_load1 to3 f_64 (Blk.at_ (BlkO.evo (by decide) hE b45_g30).2 1 rfl)
    refine steps_cons (fun own a wx hf hsl hE => ?_) ?_
    · obtain ⟨(f_61 : a.eval (.tmp 61) = .bool r46), -⟩ := hf
      obtain ⟨s_4, -⟩ := hsl
      refine sg_t rfl rfl rfl f_61 (fun hg => ?_)
      exact or_field fo32_1 (s_4.trans e45_4) (by rfl)
    refine steps_cons (fun own a wx hf hsl hE => ?_) ?_
    · obtain ⟨(f_61 : a.eval (.tmp 61) = .bool r46), c_66, -⟩ := hf
      refine sg_t rfl rfl rfl f_61 (fun hg => ?_)
      have f_66 : a.eval (.tmp 66) = .pointer (some ⟨g32, 1, none⟩) := c_66.1 hg
      exact or_load1 to3 f_66 (Blk.at_ (BlkO.evo (by decide) hE b45_g32).2 1 rfl)
    refine steps_cons (fun own a wx hf hsl hE => ?_) ?_
    · obtain ⟨(f_61 : a.eval (.tmp 61) = .bool r46), -⟩ := hf
      obtain ⟨s_5, -⟩ := hsl
      refine sg_t rfl rfl rfl f_61 (fun hg => ?_)
      exact or_field fo32_1 (s_5.trans e45_5) (by rfl)
    refine steps_cons (fun own a wx hf hsl hE => ?_) ?_
    · obtain ⟨(f_61 : a.eval (.tmp 61) = .bool r46), c_68, -⟩ := hf
      refine sg_t rfl rfl rfl f_61 (fun hg => ?_)
      have f_68 : a.eval (.tmp 68) = .pointer (some ⟨g34, 1, none⟩) := c_68.1 hg
      exact or_load1 to3 f_68 (Blk.at_ (BlkO.evo (by decide) hE b45_g34).2 1 rfl)
    refine steps_cons (fun own a wx hf hsl hE => ?_) ?_
    · obtain ⟨(f_61 : a.eval (.tmp 61) = .bool r46), c_62, c_65, c_67, c_69, -⟩ := hf
      refine sg_t rfl rfl rfl f_61 (fun hg => ?_)
      have f_62 : a.eval (.tmp 62) = .func (.func 61) #[] #[] := c_62.1 hg
      have f_65 : a.eval (.tmp 65) = .int .i64 m1.1.2 := c_65.1 hg
      have f_67 : a.eval (.tmp 67) = .int .i64 x2.2 := c_67.1 hg
      have f_69 : a.eval (.tmp 69) = .int .i64 b3.2 := c_69.1 hg
      exact or_callf cf61 f_62 (args3 f_65 f_67 f_69) rfl (ring_beside_has_1_w _ m1.1.2 x2.2 b3.2  r47 (gd_t hr47 hg)) post_val
    refine steps_cons (fun own a wx hf hsl hE => ?_) ?_
    · obtain ⟨(f_61 : a.eval (.tmp 61) = .bool r46), c_70, -⟩ := hf
      exact sg_plain rfl rfl (or_and f_61 (fun hx => c_70.1 hx) rfl rfl)
    refine steps_cons (fun own a wx hf hsl hE => ?_) ?_
    · obtain ⟨(f_71 : a.eval (.tmp 71) = .bool (r46 && r47)), -⟩ := hf
      exact sg_plain rfl rfl (or_assign f_71)
    exact steps_nil
  intro own48 a48 w48 hd48 hz48 hk48 hf48 hE48
  obtain ⟨(f_6 : a48.eval (.tmp 6) = .bool (r46 && r47)), -⟩ := hf48 [20] rfl
  have e48_6 := f_6
  have hX48 := Evo.step hX45 (fun _ => Nat.le_refl 0) hE48 rfl
  refine fl_ret ?_
  obtain rfl := osome hs
  exact hret _ _ _ _ (.inl rfl) hd48 (results1_ rfl (RVal.tmp_ e48_6)) ⟨own48, rfl, hX48⟩

end Go.Proofs.Ythkmkmkcnljmaaa
