/-
  Chapter 03. The walks.
-/
import Derived.Test.YthkmkmkcnljmaaaWp3
import Derived.Test.YthkmkmkcnljmaaaSp4
namespace Go.Proofs.Ythkmkmkcnljmaaa
open Go.RowKit
set_option linter.unusedVariables false
theorem ring_beside_over_w (w : World) (m1 : (Int × Int) × (Int × Int)) (y2 : Int) (r : Bool) (hs : ring_beside_over m1 y2 = some r) :
    Calls Try.prog 41 #[.agg #[.int .i64 m1.1.1, .int .i64 m1.1.2, .int .i64 m1.2.1, .int .i64 m1.2.2], .int .i64 y2] w fun e w' => ∃ own' : Own, e = .returned (.bool r) ∧ Evo [] (fun _ => 0) own' w w' := by
  refine fl_enter (n := 21) rfl rfl rfl (Nat.le_of_ble_eq_true rfl) ?_
  intro a0 Q hd0 hz0 harg hret
  have ha0 := harg 0 _ rfl
  have ha1 := harg 1 _ rfl
  clear harg
  have hE0 : Evo [] (fun _ => 0) (fun _ => 0) w w := Evo.refl _ _ _
  refine rg_plain_seq (n := 21) (rs := []) (own0 := (fun _ => 0)) (K := [])
      (bs := [0, 0])
      (ds := [⟨[], [0], [], Fct.blk 20 2 (fun g => .pointer (some ⟨g, 0, none⟩)) 64 #[.int .i64 m1.1.1, .int .i64 m1.1.2, .int .i64 m1.2.1, .int .i64 m1.2.2]⟩,
      ⟨[], [], [], Fct.val 4 (.bool false)⟩]) (by kernel_rfl) hz0 hd0 (fun _ h => nomatch h) ?_ ?_
  · refine steps_cons (fun own a wx hf hsl hE => ?_) ?_
    · obtain ⟨s_0, -⟩ := hsl
      exact sg_plain rfl rfl (or_new [(0, .agg #[.int .i64 m1.1.1, .int .i64 m1.1.2, .int .i64 m1.2.1, .int .i64 m1.2.2])] rfl rfl ⟨(s_0.trans ha0), trivial⟩ (by kernel_rfl))
    refine steps_cons (fun own a wx hf hsl hE => ?_) ?_
    · exact sg_plain rfl rfl (or_assign rfl)
    exact steps_nil
  intro own21 a21 w21 hd21 hz21 hk21 hf21 hE21
  have e21_1 : a21.eval (.tmp 1) = .int .i64 y2 := (hk21 1 rfl).trans ha1
  obtain ⟨⟨g19, (f_2 : a21.eval (.tmp 2) = .pointer (some ⟨g19, 0, none⟩)), (b_g19 : BlkO own21 20 w21 g19 64 #[.int .i64 m1.1.1, .int .i64 m1.1.2, .int .i64 m1.2.1, .int .i64 m1.2.2])⟩, -⟩ := hf21 [0] rfl
  have e21_2 := f_2
  have hX21 := Evo.step hE0 (fun _ => Nat.le_refl 0) hE21 rfl
  have b21_g19 := b_g19
  refine fl_seq (fun Q22 hn22 hp22 => ?_)
  refine rg_plain_seq (n := 21) (rs := []) (own0 := own21) (K := [])
      (bs := [0, 1, 3, 7])
      (ds := [⟨[], [2], [], Fct.val 5 (.pointer (some ⟨g19, 2, none⟩))⟩,
      ⟨[0], [], [], Fct.val 6 (.pointer (some ⟨g19, 2, none⟩))⟩,
      ⟨[1], [], [], Fct.val 7 (.int .i64 m1.2.1)⟩,
      ⟨[2], [], [], Fct.val 8 (.bool (decide (m1.2.1 < 0)))⟩]) (by kernel_rfl) hz21 hd21 (fun _ h => nomatch h) ?_ ?_
  · refine steps_cons (fun own a wx hf hsl hE => ?_) ?_
    · obtain ⟨s_2, -⟩ := hsl
      exact sg_plain rfl rfl (or_field fo64_1 (s_2.trans e21_2) (by rfl))
    refine steps_cons (fun own a wx hf hsl hE => ?_) ?_
    · obtain ⟨(f_5 : a.eval (.tmp 5) = .pointer (some ⟨g19, 2, none⟩)), -⟩ := hf
      exact sg_plain rfl rfl (or_field fo32_0 f_5 (by rfl))
    refine steps_cons (fun own a wx hf hsl hE => ?_) ?_
    · obtain ⟨(f_6 : a.eval (.tmp 6) = .pointer (some ⟨g19, 2, none⟩)), -⟩ := hf
      exact sg_plain rfl rfl (or_load1 to3 f_6 (Blk.at_ (BlkO.evo (by decide) hE b21_g19).2 2 rfl))
    refine steps_cons (fun own a wx hf hsl hE => ?_) ?_
    · obtain ⟨(f_7 : a.eval (.tmp 7) = .int .i64 m1.2.1), -⟩ := hf
      exact sg_plain rfl rfl (or_lss f_7 rfl rfl)
    exact steps_nil
  intro own23 a23 w23 hd23 hz23 hk23 hf23 hE23
  have e23_1 : a23.eval (.tmp 1) = .int .i64 y2 := (hk23 1 rfl).trans e21_1
  have e23_2 : a23.eval (.tmp 2) = .pointer (some ⟨g19, 0, none⟩) := (hk23 2 rfl).trans e21_2
  obtain ⟨(f_8 : a23.eval (.tmp 8) = .bool (decide (m1.2.1 < 0))), -⟩ := hf23 [3] rfl
  have e23_8 := f_8
  have hX23 := Evo.step hX21 (fun _ => Nat.le_refl 0) hE23 rfl
  have b23_g19 := BlkO.evo (by decide) hE23 b21_g19
  refine fl_cond e23_8 hs (fun c24 hs => ?_) (fun c24 hs => ?_)
  · refine rg_plain_seq (n := 21) (rs := []) (own0 := own23) (K := [])
        (bs := [0, 1, 0, 4, 12, 31, 63])
        (ds := [⟨[], [1], [], Fct.val 9 (.int .i64 y2)⟩,
        ⟨[0], [], [], Fct.val 10 (.int .i64 (ml 2 y2))⟩,
        ⟨[], [2], [], Fct.val 11 (.pointer (some ⟨g19, 0, none⟩))⟩,
        ⟨[2], [], [], Fct.val 12 (.pointer (some ⟨g19, 1, none⟩))⟩,
        ⟨[3], [], [], Fct.val 13 (.int .i64 m1.1.2)⟩,
        ⟨[1, 4], [], [], Fct.val 14 (.bool (decide (m1.1.2 ≤ (ml 2 y2))))⟩,
        ⟨[5], [], [], Fct.val 4 (.bool (decide (m1.1.2 ≤ (ml 2 y2))))⟩]) (by kernel_rfl) hz23 hd23 (fun _ h => nomatch h) ?_ ?_
    · refine steps_cons (fun own a wx hf hsl hE => ?_) ?_
      · obtain ⟨s_1, -⟩ := hsl
        exact sg_plain rfl rfl (or_move (s_1.trans e23_1))
      refine steps_cons (fun own a wx hf hsl hE => ?_) ?_
      · obtain ⟨(f_9 : a.eval (.tmp 9) = .int .i64 y2), -⟩ := hf
        exact sg_plain rfl rfl (or_mul rfl f_9 rfl)
      refine steps_cons (fun own a wx hf hsl hE => ?_) ?_
      · obtain ⟨s_2, -⟩ := hsl
        exact sg_plain rfl rfl (or_field fo64_0 (s_2.trans e23_2) (by rfl))
      refine steps_cons (fun own a wx hf hsl hE => ?_) ?_
      · obtain ⟨(f_11 : a.eval (.tmp 11) = .pointer (some ⟨g19, 0, none⟩)), -⟩ := hf
        exact sg_plain rfl rfl (or_field fo32_1 f_11 (by rfl))
      refine steps_cons (fun own a wx hf hsl hE => ?_) ?_
      · obtain ⟨(f_12 : a.eval (.tmp 12) = .pointer (some ⟨g19, 1, none⟩)), -⟩ := hf
        exact sg_plain rfl rfl (or_load1 to3 f_12 (Blk.at_ (BlkO.evo (by decide) hE b23_g19).2 1 rfl))
      refine steps_cons (fun own a wx hf hsl hE => ?_) ?_
      · obtain ⟨(f_10 : a.eval (.tmp 10) = .int .i64 (ml 2 y2)), (f_13 : a.eval (.tmp 13) = .int .i64 m1.1.2), -⟩ := hf
        exact sg_plain rfl rfl (or_geq f_10 f_13 rfl)
      refine steps_cons (fun own a wx hf hsl hE => ?_) ?_
      · obtain ⟨(f_14 : a.eval (.tmp 14) = .bool (decide (m1.1.2 ≤ (ml 2 y2)))), -⟩ := hf
        exact sg_plain rfl rfl (or_assign f_14)
      exact steps_nil
    intro own25 a25 w25 hd25 hz25 hk25 hf25 hE25
    obtain ⟨(f_4 : a25.eval (.tmp 4) = .bool (decide (m1.1.2 ≤ (ml 2 y2)))), -⟩ := hf25 [6] rfl
    have e25_4 := f_4
    have hX25 := Evo.step hX23 (fun _ => Nat.le_refl 0) hE25 rfl
    refine fl_ret ?_
    refine hp22 _ _ _ rfl ?_
    obtain rfl := osome hs
    exact hret _ _ _ _ (.inl rfl) hd25 (results1_ rfl (RVal.tmp_ e25_4)) ⟨own25, rfl, hX25⟩
  refine fl_skip ?_
  refine hn22 _ _ ?_
  refine rg_plain_seq (n := 21) (rs := []) (own0 := own23) (K := [])
      (bs := [0, 1, 0, 4, 12, 31, 63])
      (ds := [⟨[], [1], [], Fct.val 15 (.int .i64 y2)⟩,
      ⟨[0], [], [], Fct.val 16 (.int .i64 (ml 2 y2))⟩,
      ⟨[], [2], [], Fct.val 17 (.pointer (some ⟨g19, 0, none⟩))⟩,
      ⟨[2], [], [], Fct.val 18 (.pointer (some ⟨g19, 1, none⟩))⟩,
      ⟨[3], [], [], Fct.val 19 (.int .i64 m1.1.2)⟩,
      ⟨[1, 4], [], [], Fct.val 20 (.bool (decide (m1.1.2 < (ml 2 y2))))⟩,
      ⟨[5], [], [], Fct.val 4 (.bool (decide (m1.1.2 < (ml 2 y2))))⟩]) (by kernel_rfl) hz23 hd23 (fun _ h => nomatch h) ?_ ?_
  · refine steps_cons (fun own a wx hf hsl hE => ?_) ?_
    · obtain ⟨s_1, -⟩ := hsl
      exact sg_plain rfl rfl (or_move (s_1.trans e23_1))
    refine steps_cons (fun own a wx hf hsl hE => ?_) ?_
    · obtain ⟨(f_15 : a.eval (.tmp 15) = .int .i64 y2), -⟩ := hf
      exact sg_plain rfl rfl (or_mul rfl f_15 rfl)
    refine steps_cons (fun own a wx hf hsl hE => ?_) ?_
    · obtain ⟨s_2, -⟩ := hsl
      exact sg_plain rfl rfl (or_field fo64_0 (s_2.trans e23_2) (by rfl))
    refine steps_cons (fun own a wx hf hsl hE => ?_) ?_
    · obtain ⟨(f_17 : a.eval (.tmp 17) = .pointer (some ⟨g19, 0, none⟩)), -⟩ := hf
      exact sg_plain rfl rfl (or_field fo32_1 f_17 (by rfl))
    refine steps_cons (fun own a wx hf hsl hE => ?_) ?_
    · obtain ⟨(f_18 : a.eval (.tmp 18) = .pointer (some ⟨g19, 1, none⟩)), -⟩ := hf
      exact sg_plain rfl rfl (or_load1 to3 f_18 (Blk.at_ (BlkO.evo (by decide) hE b23_g19).2 1 rfl))
    refine steps_cons (fun own a wx hf hsl hE => ?_) ?_
    · obtain ⟨(f_16 : a.eval (.tmp 16) = .int .i64 (ml 2 y2)), (f_19 : a.eval (.tmp 19) = .int .i64 m1.1.2), -⟩ := hf
      exact sg_plain rfl rfl (or_gtr f_16 f_19 rfl)
    refine steps_cons (fun own a wx hf hsl hE => ?_) ?_
    · obtain ⟨(f_20 : a.eval (.tmp 20) = .bool (decide (m1.1.2 < (ml 2 y2)))), -⟩ := hf
      exact sg_plain rfl rfl (or_assign f_20)
    exact steps_nil
  intro own26 a26 w26 hd26 hz26 hk26 hf26 hE26
  obtain ⟨(f_4 : a26.eval (.tmp 4) = .bool (decide (m1.1.2 < (ml 2 y2)))), -⟩ := hf26 [6] rfl
  have e26_4 := f_4
  have hX26 := Evo.step hX23 (fun _ => Nat.le_refl 0) hE26 rfl
  refine fl_ret ?_
  obtain rfl := osome hs
  exact hret _ _ _ _ (.inl rfl) hd26 (results1_ rfl (RVal.tmp_ e26_4)) ⟨own26, rfl, hX26⟩

theorem ring_beside_side_w (w : World) (m1 : (Int × Int) × (Int × Int)) (x2 : Int × Int) (b3 : Int × Int) (r : Int) (hs : ring_beside_side m1 x2 b3 = some r) :
    Calls Try.prog 42 #[.agg #[.int .i64 m1.1.1, .int .i64 m1.1.2, .int .i64 m1.2.1, .int .i64 m1.2.2], .agg #[.int .i64 x2.1, .int .i64 x2.2], .agg #[.int .i64 b3.1, .int .i64 b3.2]] w fun e w' => ∃ own' : Own, e = .returned (.int .i64 r) ∧ Evo [] (fun _ => 0) own' w w' := by
  refine fl_enter (n := 53) rfl rfl rfl (Nat.le_of_ble_eq_true rfl) ?_
  intro a0 Q hd0 hz0 harg hret
  have ha0 := harg 0 _ rfl
  have ha1 := harg 1 _ rfl
  have ha2 := harg 2 _ rfl
  clear harg
  have hE0 : Evo [] (fun _ => 0) (fun _ => 0) w w := Evo.refl _ _ _
  refine rg_plain_seq (n := 53) (rs := []) (own0 := (fun _ => 0)) (K := [])
      (bs := [0, 0, 0, 0])
      (ds := [⟨[], [0], [], Fct.blk 36 3 (fun g => .pointer (some ⟨g, 0, none⟩)) 64 #[.int .i64 m1.1.1, .int .i64 m1.1.2, .int .i64 m1.2.1, .int .i64 m1.2.2]⟩,
      ⟨[], [1], [], Fct.blk 38 4 (fun g => .pointer (some ⟨g, 0, none⟩)) 32 #[.int .i64 x2.1, .int .i64 x2.2]⟩,
      ⟨[], [2], [], Fct.blk 40 5 (fun g => .pointer (some ⟨g, 0, none⟩)) 32 #[.int .i64 b3.1, .int .i64 b3.2]⟩,
      ⟨[], [], [], Fct.val 6 (.int .i64 0)⟩]) (by kernel_rfl) hz0 hd0 (fun _ h => nomatch h) ?_ ?_
  · refine steps_cons (fun own a wx hf hsl hE => ?_) ?_
    · obtain ⟨s_0, -⟩ := hsl
      exact sg_plain rfl rfl (or_new [(0, .agg #[.int .i64 m1.1.1, .int .i64 m1.1.2, .int .i64 m1.2.1, .int .i64 m1.2.2])] rfl rfl ⟨(s_0.trans ha0), trivial⟩ (by kernel_rfl))
    refine steps_cons (fun own a wx hf hsl hE => ?_) ?_
    · obtain ⟨s_1, -⟩ := hsl
      exact sg_plain rfl rfl (or_new [(1, .agg #[.int .i64 x2.1, .int .i64 x2.2])] rfl rfl ⟨(s_1.trans ha1), trivial⟩ (by kernel_rfl))
    refine steps_cons (fun own a wx hf hsl hE => ?_) ?_
    · obtain ⟨s_2, -⟩ := hsl
      exact sg_plain rfl rfl (or_new [(2, .agg #[.int .i64 b3.1, .int .i64 b3.2])] rfl rfl ⟨(s_2.trans ha2), trivial⟩ (by kernel_rfl))
    refine steps_cons (fun own a wx hf hsl hE => ?_) ?_
    · exact sg_plain rfl rfl (or_assign rfl)
    exact steps_nil
  intro own41 a41 w41 hd41 hz41 hk41 hf41 hE41
  obtain ⟨⟨g35, (f_3 : a41.eval (.tmp 3) = .pointer (some ⟨g35, 0, none⟩)), (b_g35 : BlkO own41 36 w41 g35 64 #[.int .i64 m1.1.1, .int .i64 m1.1.2, .int .i64 m1.2.1, .int .i64 m1.2.2])⟩, ⟨g37, (f_4 : a41.eval (.tmp 4) = .pointer (some ⟨g37, 0, none⟩)), (b_g37 : BlkO own41 38 w41 g37 32 #[.int .i64 x2.1, .int .i64 x2.2])⟩, ⟨g39, (f_5 : a41.eval (.tmp 5) = .pointer (some ⟨g39, 0, none⟩)), (b_g39 : BlkO own41 40 w41 g39 32 #[.int .i64 b3.1, .int .i64 b3.2])⟩, -⟩ := hf41 [0, 1, 2] rfl
  have e41_3 := f_3
  have e41_4 := f_4
  have e41_5 := f_5
  have hX41 := Evo.step hE0 (fun _ => Nat.le_refl 0) hE41 rfl
  have b41_g35 := b_g35
  have b41_g37 := b_g37
  have b41_g39 := b_g39
  refine rg_draw_seq g_mixed (n := 53) (rs := []) (own0 := own41) (K := [])
      (bs := [0, 1, 0, 4, 15, 0, 32, 0, 128, 480, 31, 2047])
      (ds := [⟨[], [5], [], Fct.val 10 (.pointer (some ⟨g39, 0, none⟩))⟩,
      ⟨[0], [], [], Fct.val 11 (.int .i64 b3.1)⟩,
      ⟨[], [4], [], Fct.val 12 (.pointer (some ⟨g37, 0, none⟩))⟩,
      ⟨[2], [], [], Fct.val 13 (.int .i64 x2.1)⟩,
      ⟨[1, 3], [], [], Fct.val 14 (.int .i64 (sb b3.1 x2.1))⟩,
      ⟨[], [5], [], Fct.val 15 (.pointer (some ⟨g39, 1, none⟩))⟩,
      ⟨[5], [], [], Fct.val 16 (.int .i64 b3.2)⟩,
      ⟨[], [4], [], Fct.val 17 (.pointer (some ⟨g37, 1, none⟩))⟩,
      ⟨[7], [], [], Fct.val 18 (.int .i64 x2.2)⟩,
      ⟨[6, 8], [], [], Fct.val 19 (.int .i64 (sb b3.2 x2.2))⟩,
      ⟨[4], [], [], Fct.val 7 (.int .i64 (sb b3.1 x2.1))⟩,
      ⟨[9], [], [], Fct.val 8 (.int .i64 (sb b3.2 x2.2))⟩]) (by kernel_rfl) hz41 hd41 (fun _ h => nomatch h) ?_ ?_
  · refine steps_cons (fun own a wx hf hsl hE => ?_) ?_
    · obtain ⟨s_5, -⟩ := hsl
      exact sg_plain rfl rfl (or_field fo32_0 (s_5.trans e41_5) (by rfl))
    refine steps_cons (fun own a wx hf hsl hE => ?_) ?_
    · obtain ⟨(f_10 : a.eval (.tmp 10) = .pointer (some ⟨g39, 0, none⟩)), -⟩ := hf
      exact sg_plain rfl rfl (or_load1 to3 f_10 (Blk.at_ (BlkO.evo (by decide) hE b41_g39).2 0 rfl))
    refine steps_cons (fun own a wx hf hsl hE => ?_) ?_
    · obtain ⟨s_4, -⟩ := hsl
      exact sg_plain rfl rfl (or_field fo32_0 (s_4.trans e41_4) (by rfl))
    refine steps_cons (fun own a wx hf hsl hE => ?_) ?_
    · obtain ⟨(f_12 : a.eval (.tmp 12) = .pointer (some ⟨g37, 0, none⟩)), -⟩ := hf
      exact sg_plain rfl rfl (or_load1 to3 f_12 (Blk.at_ (BlkO.evo (by decide) hE b41_g37).2 0 rfl))
    refine steps_cons (fun own a wx hf hsl hE => ?_) ?_
    · obtain ⟨(f_11 : a.eval (.tmp 11) = .int .i64 b3.1), (f_13 : a.eval (.tmp 13) = .int .i64 x2.1), -⟩ := hf
      exact sg_plain rfl rfl (or_sub f_11 f_13 rfl)
    refine steps_cons (fun own a wx hf hsl hE => ?_) ?_
    · obtain ⟨s_5, -⟩ := hsl
      exact sg_plain rfl rfl (or_field fo32_1 (s_5.trans e41_5) (by rfl))
    refine steps_cons (fun own a wx hf hsl hE => ?_) ?_
    · obtain ⟨(f_15 : a.eval (.tmp 15) = .pointer (some ⟨g39, 1, none⟩)), -⟩ := hf
      exact sg_plain rfl rfl (or_load1 to3 f_15 (Blk.at_ (BlkO.evo (by decide) hE b41_g39).2 1 rfl))
    refine steps_cons (fun own a wx hf hsl hE => ?_) ?_
    · obtain ⟨s_4, -⟩ := hsl
      exact sg_plain rfl rfl (or_field fo32_1 (s_4.trans e41_4) (by rfl))
    refine steps_cons (fun own a wx hf hsl hE => ?_) ?_
    · obtain ⟨(f_17 : a.eval (.tmp 17) = .pointer (some ⟨g37, 1, none⟩)), -⟩ := hf
      exact sg_plain rfl rfl (or_load1 to3 f_17 (Blk.at_ (BlkO.evo (by decide) hE b41_g37).2 1 rfl))
    refine steps_cons (fun own a wx hf hsl hE => ?_) ?_
    · obtain ⟨(f_16 : a.eval (.tmp 16) = .int .i64 b3.2), (f_18 : a.eval (.tmp 18) = .int .i64 x2.2), -⟩ := hf
      exact sg_plain rfl rfl (or_sub f_16 f_18 rfl)
    refine steps_cons (fun own a wx hf hsl hE => ?_) ?_
    · obtain ⟨(f_14 : a.eval (.tmp 14) = .int .i64 (sb b3.1 x2.1)), -⟩ := hf
      exact sg_plain rfl rfl (or_assign f_14)
    refine steps_cons (fun own a wx hf hsl hE => ?_) ?_
    · obtain ⟨(f_19 : a.eval (.tmp 19) = .int .i64 (sb b3.2 x2.2)), -⟩ := hf
      exact sg_plain rfl rfl (or_assign f_19)
    exact steps_nil
  intro own42 a42 w42 hd42 hz42 hk42 hf42 hE42
  have e42_3 : a42.eval (.tmp 3) = .pointer (some ⟨g35, 0, none⟩) := (hk42 3 rfl).trans e41_3
  have e42_4 : a42.eval (.tmp 4) = .pointer (some ⟨g37, 0, none⟩) := (hk42 4 rfl).trans e41_4
  obtain ⟨(f_7 : a42.eval (.tmp 7) = .int .i64 (sb b3.1 x2.1)), (f_8 : a42.eval (.tmp 8) = .int .i64 (sb b3.2 x2.2)), -⟩ := hf42 [10, 11] rfl
  have e42_7 := f_7
  have e42_8 := f_8
  have hX42 := Evo.step hX41 (fun _ => Nat.le_refl 0) hE42 rfl
  have b42_g35 := BlkO.evo (by decide) hE42 b41_g35
  have b42_g37 := BlkO.evo (by decide) hE42 b41_g37
  obtain ⟨x43, hx43, hs⟩ := obind hs
  obtain ⟨x44, hx44, hs⟩ := obind hs
  refine rg_plain_seq (n := 53) (rs := []) (own0 := own42) (K := [])
      (bs := [0, 0, 2, 6, 0, 16, 48, 126, 255, 0, 0, 1024, 3072, 0, 8192, 24576, 64512, 130560, 262143, 524287])
      (ds := [⟨[], [7], [], Fct.val 20 (.int .i64 (sb b3.1 x2.1))⟩,
      ⟨[], [3], [], Fct.val 21 (.pointer (some ⟨g35, 0, none⟩))⟩,
      ⟨[1], [], [], Fct.val 22 (.pointer (some ⟨g35, 1, none⟩))⟩,
      ⟨[2], [], [], Fct.val 23 (.int .i64 m1.1.2)⟩,
      ⟨[], [4], [], Fct.val 24 (.pointer (some ⟨g37, 1, none⟩))⟩,
      ⟨[4], [], [], Fct.val 25 (.int .i64 x2.2)⟩,
      ⟨[5], [], [], Fct.val 26 (.int .i64 (ml 2 x2.2))⟩,
      ⟨[3, 6], [], [], Fct.val 27 (.int .i64 (sb m1.1.2 (ml 2 x2.2)))⟩,
      ⟨[0, 7], [], [], Fct.val 28 (.int .i64 x43)⟩,
      ⟨[], [8], [], Fct.val 29 (.int .i64 (sb b3.2 x2.2))⟩,
      ⟨[], [3], [], Fct.val 30 (.pointer (some ⟨g35, 0, none⟩))⟩,
      ⟨[10], [], [], Fct.val 31 (.pointer (some ⟨g35, 0, none⟩))⟩,
      ⟨[11], [], [], Fct.val 32 (.int .i64 m1.1.1)⟩,
      ⟨[], [4], [], Fct.val 33 (.pointer (some ⟨g37, 0, none⟩))⟩,
      ⟨[13], [], [], Fct.val 34 (.int .i64 x2.1)⟩,
      ⟨[14], [], [], Fct.val 35 (.int .i64 (ml 2 x2.1))⟩,
      ⟨[12, 15], [], [], Fct.val 36 (.int .i64 (sb m1.1.1 (ml 2 x2.1)))⟩,
      ⟨[9, 16], [], [], Fct.val 37 (.int .i64 x44)⟩,
      ⟨[8, 17], [], [], Fct.val 38 (.int .i64 (sb x43 x44))⟩,
      ⟨[18], [], [], Fct.val 9 (.int .i64 (sb x43 x44))⟩]) (by kernel_rfl) hz42 hd42 (fun _ h => nomatch h) ?_ ?_
  · refine steps_cons (fun own a wx hf hsl hE => ?_) ?_
    · obtain ⟨s_7, -⟩ := hsl
      exact sg_plain rfl rfl (or_move (s_7.trans e42_7))
    refine steps_cons (fun own a wx hf hsl hE => ?_) ?_
    · obtain ⟨s_3, -⟩ := hsl
      exact sg_plain rfl rfl (or_field fo64_0 (s_3.trans e42_3) (by rfl))
    refine steps_cons (fun own a wx hf hsl hE => ?_) ?_
    · obtain ⟨(f_21 : a.eval (.tmp 21) = .pointer (some ⟨g35, 0, none⟩)), -⟩ := hf
      exact sg_plain rfl rfl (or_field fo32_1 f_21 (by rfl))
    refine steps_cons (fun own a wx hf hsl hE => ?_) ?_
    · obtain ⟨(f_22 : a.eval (.tmp 22) = .pointer (some ⟨g35, 1, none⟩)), -⟩ := hf
      exact sg_plain rfl rfl (or_load1 to3 f_22 (Blk.at_ (BlkO.evo (by decide) hE b42_g35).2 1 rfl))
    refine steps_cons (fun own a wx hf hsl hE => ?_) ?_
    · obtain ⟨s_4, -⟩ := hsl
      exact sg_plain rfl rfl (or_field fo32_1 (s_4.trans e42_4) (by rfl))
    refine steps_cons (fun own a wx hf hsl hE => ?_) ?_
    · obtain ⟨(f_24 : a.eval (.tmp 24) = .pointer (some ⟨g37, 1, none⟩)), -⟩ := hf
      exact sg_plain rfl rfl (or_load1 to3 f_24 (Blk.at_ (BlkO.evo (by decide) hE b42_g37).2 1 rfl))
    refine steps_cons (fun own a wx hf hsl hE => ?_) ?_
    · obtain ⟨(f_25 : a.eval (.tmp 25) = .int .i64 x2.2), -⟩ := hf
      exact sg_plain rfl rfl (or_mul rfl f_25 rfl)
    refine steps_cons (fun own a wx hf hsl hE => ?_) ?_
    · obtain ⟨(f_23 : a.eval (.tmp 23) = .int .i64 m1.1.2), (f_26 : a.eval (.tmp 26) = .int .i64 (ml 2 x2.2)), -⟩ := hf
      exact sg_plain rfl rfl (or_sub f_23 f_26 rfl)
    refine steps_cons (fun own a wx hf hsl hE => ?_) ?_
    · obtain ⟨(f_20 : a.eval (.tmp 20) = .int .i64 (sb b3.1 x2.1)), (f_27 : a.eval (.tmp 27) = .int .i64 (sb m1.1.2 (ml 2 x2.2))), -⟩ := hf
      exact sg_plain rfl rfl (or_mul f_20 f_27 (osome hx43).symm)
    refine steps_cons (fun own a wx hf hsl hE => ?_) ?_
    · obtain ⟨s_8, -⟩ := hsl
      exact sg_plain rfl rfl (or_move (s_8.trans e42_8))
    refine steps_cons (fun own a wx hf hsl hE => ?_) ?_
    · obtain ⟨s_3, -⟩ := hsl
      exact sg_plain rfl rfl (or_field fo64_0 (s_3.trans e42_3) (by rfl))
    refine steps_cons (fun own a wx hf hsl hE => ?_) ?_
    · obtain ⟨(f_30 : a.eval (.tmp 30) = .pointer (some ⟨g35, 0, none⟩)), -⟩ := hf
      exact sg_plain rfl rfl (or_field fo32_0 f_30 (by rfl))
    refine steps_cons (fun own a wx hf hsl hE => ?_) ?_
    · obtain ⟨(f_31 : a.eval (.tmp 31) = .pointer (some ⟨g35, 0, none⟩)), -⟩ := hf
      exact sg_plain rfl rfl (or_load1 to3 f_31 (Blk.at_ (BlkO.evo (by decide) hE b42_g35).2 0 rfl))
    refine steps_cons (fun own a wx hf hsl hE => ?_) ?_
    · obtain ⟨s_4, -⟩ := hsl
      exact sg_plain rfl rfl (or_field fo32_0 (s_4.trans e42_4) (by rfl))
    refine steps_cons (fun own a wx hf hsl hE => ?_) ?_
    · obtain ⟨(f_33 : a.eval (.tmp 33) = .pointer (some ⟨g37, 0, none⟩)), -⟩ := hf
      exact sg_plain rfl rfl (or_load1 to3 f_33 (Blk.at_ (BlkO.evo (by decide) hE b42_g37).2 0 rfl))
    refine steps_cons (fun own a wx hf hsl hE => ?_) ?_
    · obtain ⟨(f_34 : a.eval (.tmp 34) = .int .i64 x2.1), -⟩ := hf
      exact sg_plain rfl rfl (or_mul rfl f_34 rfl)
    refine steps_cons (fun own a wx hf hsl hE => ?_) ?_
    · obtain ⟨(f_32 : a.eval (.tmp 32) = .int .i64 m1.1.1), (f_35 : a.eval (.tmp 35) = .int .i64 (ml 2 x2.1)), -⟩ := hf
      exact sg_plain rfl rfl (or_sub f_32 f_35 rfl)
    refine steps_cons (fun own a wx hf hsl hE => ?_) ?_
    · obtain ⟨(f_29 : a.eval (.tmp 29) = .int .i64 (sb b3.2 x2.2)), (f_36 : a.eval (.tmp 36) = .int .i64 (sb m1.1.1 (ml 2 x2.1))), -⟩ := hf
      exact sg_plain rfl rfl (or_mul f_29 f_36 (osome hx44).symm)
    refine steps_cons (fun own a wx hf hsl hE => ?_) ?_
    · obtain ⟨(f_28 : a.eval (.tmp 28) = .int .i64 x43), (f_37 : a.eval (.tmp 37) = .int .i64 x44), -⟩ := hf
      exact sg_plain rfl rfl (or_sub f_28 f_37 rfl)
    refine steps_cons (fun own a wx hf hsl hE => ?_) ?_
    · obtain ⟨(f_38 : a.eval (.tmp 38) = .int .i64 (sb x43 x44)), -⟩ := hf
      exact sg_plain rfl rfl (or_assign f_38)
    exact steps_nil
  intro own45 a45 w45 hd45 hz45 hk45 hf45 hE45
  have e45_3 : a45.eval (.tmp 3) = .pointer (some ⟨g35, 0, none⟩) := (hk45 3 rfl).trans e42_3
  have e45_7 : a45.eval (.tmp 7) = .int .i64 (sb b3.1 x2.1) := (hk45 7 rfl).trans e42_7
  have e45_8 : a45.eval (.tmp 8) = .int .i64 (sb b3.2 x2.2) := (hk45 8 rfl).trans e42_8
  obtain ⟨(f_9 : a45.eval (.tmp 9) = .int .i64 (sb x43 x44)), -⟩ := hf45 [19] rfl
  have e45_9 := f_9
  have hX45 := Evo.step hX42 (fun _ => Nat.le_refl 0) hE45 rfl
  have b45_g35 := BlkO.evo (by decide) hE45 b42_g35
  refine fl_seq (fun Q46 hn46 hp46 => ?_)
  have K52 : ∀ (a52 : Act) (w52 : World) (own52 : Own) (n51 : Int), a52.defers = [] → a52.tmps.size = 53 → a52.eval (.tmp 9) = .int .i64 n51 → Evo [] (fun _ => 0) own52 w w52 → ring_beside_side_k1 n51 = some r → Q46 .normal a52 w52 := by
    intro a52 w52 own52 n51 hd53 hz53 e53_9 hE53 hs
    refine hn46 _ _ ?_
    refine rg_plain_seq (n := 53) (rs := []) (own0 := own52) (K := [])
        (bs := [0, 1])
        (ds := [⟨[], [9], [], Fct.val 52 (.int .i64 n51)⟩,
        ⟨[0], [], [], Fct.val 6 (.int .i64 n51)⟩]) (by kernel_rfl) hz53 hd53 (fun _ h => nomatch h) ?_ ?_
    · refine steps_cons (fun own a wx hf hsl hE => ?_) ?_
      · obtain ⟨s_9, -⟩ := hsl
        exact sg_plain rfl rfl (or_move (s_9.trans e53_9))
      refine steps_cons (fun own a wx hf hsl hE => ?_) ?_
      · obtain ⟨(f_52 : a.eval (.tmp 52) = .int .i64 n51), -⟩ := hf
        exact sg_plain rfl rfl (or_assign f_52)
      exact steps_nil
    intro own54 a54 w54 hd54 hz54 hk54 hf54 hE54
    obtain ⟨(f_6 : a54.eval (.tmp 6) = .int .i64 n51), -⟩ := hf54 [1] rfl
    have e54_6 := f_6
    have hX54 := Evo.step hE53 (fun _ => Nat.le_refl 0) hE54 rfl
    refine fl_ret ?_
    obtain rfl := (osome hs).symm
    exact hret _ _ _ _ (.inl rfl) hd54 (results1_ rfl (RVal.tmp_ e54_6)) ⟨own54, rfl, hX54⟩
  refine rg_plain_seq (n := 53) (rs := []) (own0 := own45) (K := [])
      (bs := [0, 1])
      (ds := [⟨[], [9], [], Fct.val 39 (.int .i64 (sb x43 x44))⟩,
      ⟨[0], [], [], Fct.val 40 (.bool (decide ((sb x43 x44) = 0)))⟩]) (by kernel_rfl) hz45 hd45 (fun _ h => nomatch h) ?_ ?_
  · refine steps_cons (fun own a wx hf hsl hE => ?_) ?_
    · obtain ⟨s_9, -⟩ := hsl
      exact sg_plain rfl rfl (or_move (s_9.trans e45_9))
    refine steps_cons (fun own a wx hf hsl hE => ?_) ?_
    · obtain ⟨(f_39 : a.eval (.tmp 39) = .int .i64 (sb x43 x44)), -⟩ := hf
      exact sg_plain rfl rfl (or_eql f_39 rfl rfl)
    exact steps_nil
  intro own55 a55 w55 hd55 hz55 hk55 hf55 hE55
  have e55_3 : a55.eval (.tmp 3) = .pointer (some ⟨g35, 0, none⟩) := (hk55 3 rfl).trans e45_3
  have e55_7 : a55.eval (.tmp 7) = .int .i64 (sb b3.1 x2.1) := (hk55 7 rfl).trans e45_7
  have e55_8 : a55.eval (.tmp 8) = .int .i64 (sb b3.2 x2.2) := (hk55 8 rfl).trans e45_8
  have e55_9 : a55.eval (.tmp 9) = .int .i64 (sb x43 x44) := (hk55 9 rfl).trans e45_9
  obtain ⟨(f_40 : a55.eval (.tmp 40) = .bool (decide ((sb x43 x44) = 0))), -⟩ := hf55 [1] rfl
  have e55_40 := f_40
  have hX55 := Evo.step hX45 (fun _ => Nat.le_refl 0) hE55 rfl
  have b55_g35 := BlkO.evo (by decide) hE55 b45_g35
  refine fl_cond e55_40 hs (fun c56 hs => ?_) (fun c56 hs => ?_)
  · obtain ⟨x57, hx57, hs⟩ := obind hs
    refine rg_plain (n := 53) (rs := []) (own0 := own55) (K := [])
        (bs := [0, 0, 2, 6, 15, 0, 0, 64, 192, 480, 1023, 2047])
        (ds := [⟨[], [7], [], Fct.val 41 (.int .i64 (sb b3.1 x2.1))⟩,
        ⟨[], [3], [], Fct.val 42 (.pointer (some ⟨g35, 2, none⟩))⟩,
        ⟨[1], [], [], Fct.val 43 (.pointer (some ⟨g35, 2, none⟩))⟩,
        ⟨[2], [], [], Fct.val 44 (.int .i64 m1.2.1)⟩,
        ⟨[0, 3], [], [], Fct.val 45 (.int .i64 (ml (sb b3.1 x2.1) m1.2.1))⟩,
        ⟨[], [8], [], Fct.val 46 (.int .i64 (sb b3.2 x2.2))⟩,
        ⟨[], [3], [], Fct.val 47 (.pointer (some ⟨g35, 2, none⟩))⟩,
        ⟨[6], [], [], Fct.val 48 (.pointer (some ⟨g35, 3, none⟩))⟩,
        ⟨[7], [], [], Fct.val 49 (.int .i64 m1.2.2)⟩,
        ⟨[5, 8], [], [], Fct.val 50 (.int .i64 (ml (sb b3.2 x2.2) m1.2.2))⟩,
        ⟨[4, 9], [], [], Fct.val 51 (.int .i64 x57)⟩,
        ⟨[10], [], [], Fct.val 9 (.int .i64 x57)⟩]) (by kernel_rfl) hz55 hd55 (fun _ h => nomatch h) ?_ ?_
    · refine steps_cons (fun own a wx hf hsl hE => ?_) ?_
      · obtain ⟨s_7, -⟩ := hsl
        exact sg_plain rfl rfl (or_move (s_7.trans e55_7))
      refine steps_cons (fun own a wx hf hsl hE => ?_) ?_
      · obtain ⟨s_3, -⟩ := hsl
        exact sg_plain rfl rfl (or_field fo64_1 (s_3.trans e55_3) (by rfl))
      refine steps_cons (fun own a wx hf hsl hE => ?_) ?_
      · obtain ⟨(f_42 : a.eval (.tmp 42) = .pointer (some ⟨g35, 2, none⟩)), -⟩ := hf
        exact sg_plain rfl rfl (or_field fo32_0 f_42 (by rfl))
      refine steps_cons (fun own a wx hf hsl hE => ?_) ?_
      · obtain ⟨(f_43 : a.eval (.tmp 43) = .pointer (some ⟨g35, 2, none⟩)), -⟩ := hf
        exact sg_plain rfl rfl (or_load1 to3 f_43 (Blk.at_ (BlkO.evo (by decide) hE b55_g35).2 2 rfl))
      refine steps_cons (fun own a wx hf hsl hE => ?_) ?_
      · obtain ⟨(f_41 : a.eval (.tmp 41) = .int .i64 (sb b3.1 x2.1)), (f_44 : a.eval (.tmp 44) = .int .i64 m1.2.1), -⟩ := hf
        exact sg_plain rfl rfl (or_mul f_41 f_44 rfl)
      refine steps_cons (fun own a wx hf hsl hE => ?_) ?_
      · obtain ⟨s_8, -⟩ := hsl
        exact sg_plain rfl rfl (or_move (s_8.trans e55_8))
      refine steps_cons (fun own a wx hf hsl hE => ?_) ?_
      · obtain ⟨s_3, -⟩ := hsl
        exact sg_plain rfl rfl (or_field fo64_1 (s_3.trans e55_3) (by rfl))
      refine steps_cons (fun own a wx hf hsl hE => ?_) ?_
      · obtain ⟨(f_47 : a.eval (.tmp 47) = .pointer (some ⟨g35, 2, none⟩)), -⟩ := hf
        exact sg_plain rfl rfl (or_field fo32_1 f_47 (by rfl))
      refine steps_cons (fun own a wx hf hsl hE => ?_) ?_
      · obtain ⟨(f_48 : a.eval (.tmp 48) = .pointer (some ⟨g35, 3, none⟩)), -⟩ := hf
        exact sg_plain rfl rfl (or_load1 to3 f_48 (Blk.at_ (BlkO.evo (by decide) hE b55_g35).2 3 rfl))
      refine steps_cons (fun own a wx hf hsl hE => ?_) ?_
      · obtain ⟨(f_46 : a.eval (.tmp 46) = .int .i64 (sb b3.2 x2.2)), (f_49 : a.eval (.tmp 49) = .int .i64 m1.2.2), -⟩ := hf
        exact sg_plain rfl rfl (or_mul f_46 f_49 rfl)
      refine steps_cons (fun own a wx hf hsl hE => ?_) ?_
      · obtain ⟨(f_45 : a.eval (.tmp 45) = .int .i64 (ml (sb b3.1 x2.1) m1.2.1)), (f_50 : a.eval (.tmp 50) = .int .i64 (ml (sb b3.2 x2.2) m1.2.2)), -⟩ := hf
        exact sg_plain rfl rfl (or_add f_45 f_50 (osome hx57).symm)
      refine steps_cons (fun own a wx hf hsl hE => ?_) ?_
      · obtain ⟨(f_51 : a.eval (.tmp 51) = .int .i64 x57), -⟩ := hf
        exact sg_plain rfl rfl (or_assign f_51)
      exact steps_nil
    intro own58 a58 w58 hd58 hz58 hk58 hf58 hE58
    obtain ⟨(f_9 : a58.eval (.tmp 9) = .int .i64 x57), -⟩ := hf58 [11] rfl
    have e58_9 := f_9
    have hX58 := Evo.step hX55 (fun _ => Nat.le_refl 0) hE58 rfl
    exact (K52 _ _ own58 _ hd58 hz58 e58_9 hX58 hs)
  refine fl_skip ?_
  exact (K52 _ _ own55 _ hd55 hz55 e55_9 hX55 hs)

set_option maxHeartbeats 2000000 in
theorem ring_Beside_w (w : World) (l1 : List (Int × Int)) (Al1 : Option Addr) (cl1 : Nat) (x2 : Int × Int) (b3 : Int × Int) (hl1 : RdO (fun _ => 0) [0] w R32 Al1 cl1 l1) (r : Int × Bool) (hs : ring_Beside l1 x2 b3 = some r) :
    Calls Try.prog 17 #[.slice Al1 l1.length cl1, .agg #[.int .i64 x2.1, .int .i64 x2.2], .agg #[.int .i64 b3.1, .int .i64 b3.2]] w fun e w' => ∃ own' : Own, e = .returned (.tuple #[.int .i64 r.1, .bool r.2]) ∧ Evo [] (fun _ => 0) own' w w' := by
  refine fl_enterM (n := 101) (kD := 11) (by decide) rfl rfl rfl (Nat.le_of_ble_eq_true rfl) ?_
  intro a0 Q hd0 hz0 harg hret
  have ha0 := harg 0 _ rfl
  have ha1 := harg 1 _ rfl
  have ha2 := harg 2 _ rfl
  clear harg
  have hE0 : Evo [] (fun _ => 0) (fun _ => 0) w w := Evo.refl _ _ _
  have hmk0 : MkO (fun _ => 0) 11 w [] := MkO.nil_
  refine rg_plain_seq (n := 101) (rs := []) (own0 := (fun _ => 0)) (K := [])
      (bs := [0, 0, 0, 0])
      (ds := [⟨[], [1], [], Fct.blk 365 4 (fun g => .pointer (some ⟨g, 0, none⟩)) 32 #[.int .i64 x2.1, .int .i64 x2.2]⟩,
      ⟨[], [2], [], Fct.blk 367 5 (fun g => .pointer (some ⟨g, 0, none⟩)) 32 #[.int .i64 b3.1, .int .i64 b3.2]⟩,
      ⟨[], [], [], Fct.blk 369 6 (fun g => .pointer (some ⟨g, 0, none⟩)) 3 #[.int .i64 0]⟩,
      ⟨[], [], [], Fct.blk 371 7 (fun g => .pointer (some ⟨g, 0, none⟩)) 4 #[.bool false]⟩]) (by kernel_rfl) hz0 hd0 (fun _ h => nomatch h) ?_ ?_
  · refine steps_cons (fun own a wx hf hsl hE => ?_) ?_
    · obtain ⟨s_1, -⟩ := hsl
      exact sg_plain rfl rfl (or_new [(1, .agg #[.int .i64 x2.1, .int .i64 x2.2])] rfl rfl ⟨(s_1.trans ha1), trivial⟩ (by kernel_rfl))
    refine steps_cons (fun own a wx hf hsl hE => ?_) ?_
    · obtain ⟨s_2, -⟩ := hsl
      exact sg_plain rfl rfl (or_new [(2, .agg #[.int .i64 b3.1, .int .i64 b3.2])] rfl rfl ⟨(s_2.trans ha2), trivial⟩ (by kernel_rfl))
    refine steps_cons (fun own a wx hf hsl hE => ?_) ?_
    · exact sg_plain rfl rfl (or_new [] rfl rfl trivial (by kernel_rfl))
    refine steps_cons (fun own a wx hf hsl hE => ?_) ?_
    · exact sg_plain rfl rfl (or_new [] rfl rfl trivial (by kernel_rfl))
    exact steps_nil
  intro own372 a372 w372 hd372 hz372 hk372 hf372 hE372
  have e372_0 : a372.eval (.tmp 0) = .slice Al1 l1.length cl1 := (hk372 0 rfl).trans ha0
  obtain ⟨⟨g364, (f_4 : a372.eval (.tmp 4) = .pointer (some ⟨g364, 0, none⟩)), (b_g364 : BlkO own372 365 w372 g364 32 #[.int .i64 x2.1, .int .i64 x2.2])⟩, ⟨g366, (f_5 : a372.eval (.tmp 5) = .pointer (some ⟨g366, 0, none⟩)), (b_g366 : BlkO own372 367 w372 g366 32 #[.int .i64 b3.1, .int .i64 b3.2])⟩, ⟨g368, (f_6 : a372.eval (.tmp 6) = .pointer (some ⟨g368, 0, none⟩)), (b_g368 : BlkO own372 369 w372 g368 3 #[.int .i64 0])⟩, ⟨g370, (f_7 : a372.eval (.tmp 7) = .pointer (some ⟨g370, 0, none⟩)), (b_g370 : BlkO own372 371 w372 g370 4 #[.bool false])⟩, -⟩ := hf372 [0, 1, 2, 3] rfl
  have e372_4 := f_4
  have e372_5 := f_5
  have e372_6 := f_6
  have e372_7 := f_7
  have hX372 := Evo.step hE0 (fun _ => Nat.le_refl 0) hE372 rfl
  have b372_Al1 := RdO.evo rfl hE372 hl1
  have b372_mk := MkO.evo (by decide) hE372 hmk0
  have b372_g364 := b_g364
  have b372_g366 := b_g366
  have b372_g368 := b_g368
  have b372_g370 := b_g370
  refine fl_seq (fun Q373 hn373 hp373 => ?_)
  obtain ⟨r376, hr376, hs⟩ := obind hs
  obtain ⟨r377, hr377, hs⟩ := obind hs
  obtain ⟨x378, hx378, hs⟩ := obind hs
  refine rg_plain_seq (n := 101) (rs := []) (own0 := own372) (K := [])
      (bs := [0, 0, 3, 7, 15, 15, 63, 127, 255, 511, 1023, 2047, 4095, 8191, 16383])
      (ds := [⟨[], [4], [], Fct.val 12 (.agg #[.int .i64 x2.1, .int .i64 x2.2])⟩,
      ⟨[], [5], [], Fct.val 13 (.agg #[.int .i64 b3.1, .int .i64 b3.2])⟩,
      ⟨[0, 1], [], [], Fct.val 14 (.bool (decide (x2 = b3)))⟩,
      ⟨[2], [], [], Fct.val 15 (.bool (decide (x2 = b3)))⟩,
      ⟨[3], [4], [], Fct.cond (!(decide (x2 = b3))) (some 16) (Fct.val 16 (.agg #[.int .i64 x2.1, .int .i64 x2.2]))⟩,
      ⟨[3], [5], [], Fct.cond (!(decide (x2 = b3))) (some 17) (Fct.val 17 (.agg #[.int .i64 b3.1, .int .i64 b3.2]))⟩,
      ⟨[3, 4, 5], [], [], Fct.cond (!(decide (x2 = b3))) (some 18) (Fct.row 375 [] 18 32 R32 [x2, b3])⟩,
      ⟨[3, 6], [], [], Fct.cond (!(decide (x2 = b3))) (some 19) (Fct.val 19 (.bool r376))⟩,
      ⟨[3, 7], [], [], Fct.cond (!(decide (x2 = b3))) (some 20) (Fct.val 20 (.bool (!r376)))⟩,
      ⟨[3, 8], [], [], Fct.val 21 (.bool ((decide (x2 = b3)) || (!r376)))⟩,
      ⟨[9], [], [], Fct.val 22 (.bool ((decide (x2 = b3)) || (!r376)))⟩,
      ⟨[10], [0], [], Fct.cond (!((decide (x2 = b3)) || (!r376))) (some 23) (Fct.val 23 (.slice Al1 l1.length cl1))⟩,
      ⟨[10, 11], [], [], Fct.cond (!((decide (x2 = b3)) || (!r376))) (some 24) (Fct.val 24 (.bool r377))⟩,
      ⟨[10, 12], [], [], Fct.cond (!((decide (x2 = b3)) || (!r376))) (some 25) (Fct.val 25 (.bool (!r377)))⟩,
      ⟨[10, 13], [], [], Fct.val 26 (.bool x378)⟩]) (by kernel_rfl) hz372 hd372 (fun _ h => nomatch h) ?_ ?_
  · refine steps_cons (fun own a wx hf hsl hE => ?_) ?_
    · obtain ⟨s_4, -⟩ := hsl
      exact sg_plain rfl rfl (or_load (l := [.int .i64 x2.1, .int .i64 x2.2]) ta32 (s_4.trans e372_4) (Blk.cellsFrom (BlkO.evo (by decide) hE b372_g364).2 0 rfl) rfl)
    refine steps_cons (fun own a wx hf hsl hE => ?_) ?_
    · obtain ⟨s_5, -⟩ := hsl
      exact sg_plain rfl rfl (or_load (l := [.int .i64 b3.1, .int .i64 b3.2]) ta32 (s_5.trans e372_5) (Blk.cellsFrom (BlkO.evo (by decide) hE b372_g366).2 0 rfl) rfl)
    refine steps_cons (fun own a wx hf hsl hE => ?_) ?_
    · obtain ⟨(f_12 : a.eval (.tmp 12) = .agg #[.int .i64 x2.1, .int .i64 x2.2]), (f_13 : a.eval (.tmp 13) = .agg #[.int .i64 b3.1, .int .i64 b3.2]), -⟩ := hf
      exact sg_plain rfl rfl (or_eqlA sg32 f_12 f_13 (se32 x2.1 x2.2 b3.1 b3.2 _) rfl)
    refine steps_cons (fun own a wx hf hsl hE => ?_) ?_
    · obtain ⟨(f_14 : a.eval (.tmp 14) = .bool (decide (x2 = b3))), -⟩ := hf
      exact sg_plain rfl rfl (or_move f_14)
    refine steps_cons (fun own a wx hf hsl hE => ?_) ?_
    · obtain ⟨(f_15 : a.eval (.tmp 15) = .bool (decide (x2 = b3))), -⟩ := hf
      obtain ⟨s_4, -⟩ := hsl
      refine sg_f rfl rfl rfl f_15 (fun hg => ?_)
      exact or_load (l := [.int .i64 x2.1, .int .i64 x2.2]) ta32 (s_4.trans e372_4) (Blk.cellsFrom (BlkO.evo (by decide) hE b372_g364).2 0 rfl) rfl
    refine steps_cons (fun own a wx hf hsl hE => ?_) ?_
    · obtain ⟨(f_15 : a.eval (.tmp 15) = .bool (decide (x2 = b3))), -⟩ := hf
      obtain ⟨s_5, -⟩ := hsl
      refine sg_f rfl rfl rfl f_15 (fun hg => ?_)
      exact or_load (l := [.int .i64 b3.1, .int .i64 b3.2]) ta32 (s_5.trans e372_5) (Blk.cellsFrom (BlkO.evo (by decide) hE b372_g366).2 0 rfl) rfl
    refine steps_cons (fun own a wx hf hsl hE => ?_) ?_
    · obtain ⟨(f_15 : a.eval (.tmp 15) = .bool (decide (x2 = b3))), c_16, c_17, -⟩ := hf
      refine sg_f rfl rfl rfl f_15 (fun hg => ?_)
      have f_16 : a.eval (.tmp 16) = .agg #[.int .i64 x2.1, .int .i64 x2.2] := c_16.1 hg
      have f_17 : a.eval (.tmp 17) = .agg #[.int .i64 b3.1, .int .i64 b3.2] := c_17.1 hg
      exact or_lit (lab := 375) (e := 32) (cs := #[.int .i64 x2.1, .int .i64 x2.2, .int .i64 b3.1, .int .i64 b3.2]) (F := E32) (or_new [(16, .agg #[.int .i64 x2.1, .int .i64 x2.2]), (17, .agg #[.int .i64 b3.1, .int .i64 b3.2])] rfl rfl ⟨f_16, f_17, trivial⟩ (by kernel_rfl)) rfl rfl (show 2 ≤ maxLen by decide)
    refine steps_cons (fun own a wx hf hsl hE => ?_) ?_
    · obtain ⟨(f_15 : a.eval (.tmp 15) = .bool (decide (x2 = b3))), c_18, -⟩ := hf
      refine sg_f rfl rfl rfl f_15 (fun hg => ?_)
      obtain ⟨⟨A374, cA374⟩, (f_18 : a.eval (.tmp 18) = .slice A374 [x2, b3].length cA374), (b_A374 : RwO own 375 [] wx 32 R32 A374 cA374 [x2, b3])⟩ := c_18.1 hg
      exact or_call cf33 (args1 f_18) (exact_Right_w _ [x2, b3] A374 cA374 (RdO.zero (RwO.rd b_A374)) r376 (gd_t hr376 hg)) post_val
    refine steps_cons (fun own a wx hf hsl hE => ?_) ?_
    · obtain ⟨(f_15 : a.eval (.tmp 15) = .bool (decide (x2 = b3))), c_19, -⟩ := hf
      refine sg_f rfl rfl rfl f_15 (fun hg => ?_)
      have f_19 : a.eval (.tmp 19) = .bool r376 := c_19.1 hg
      exact or_not f_19 rfl
    refine steps_cons (fun own a wx hf hsl hE => ?_) ?_
    · obtain ⟨(f_15 : a.eval (.tmp 15) = .bool (decide (x2 = b3))), c_20, -⟩ := hf
      exact sg_plain rfl rfl (or_or f_15 rfl (fun hx => c_20.1 hx) rfl)
    refine steps_cons (fun own a wx hf hsl hE => ?_) ?_
    · obtain ⟨(f_21 : a.eval (.tmp 21) = .bool ((decide (x2 = b3)) || (!r376))), -⟩ := hf
      exact sg_plain rfl rfl (or_move f_21)
    refine steps_cons (fun own a wx hf hsl hE => ?_) ?_
    · obtain ⟨(f_22 : a.eval (.tmp 22) = .bool ((decide (x2 = b3)) || (!r376))), -⟩ := hf
      obtain ⟨s_0, -⟩ := hsl
      refine sg_f rfl rfl rfl f_22 (fun hg => ?_)
      exact or_move (s_0.trans e372_0)
    refine steps_cons (fun own a wx hf hsl hE => ?_) ?_
    · obtain ⟨(f_22 : a.eval (.tmp 22) = .bool ((decide (x2 = b3)) || (!r376))), c_23, -⟩ := hf
      refine sg_f rfl rfl rfl f_22 (fun hg => ?_)
      have f_23 : a.eval (.tmp 23) = .slice Al1 l1.length cl1 := c_23.1 hg
      exact or_call cf33 (args1 f_23) (exact_Right_w _ l1 Al1 cl1 (RdO.zero (RdO.evo rfl hE b372_Al1)) r377 (gd_t hr377 hg)) post_val
    refine steps_cons (fun own a wx hf hsl hE => ?_) ?_
    · obtain ⟨(f_22 : a.eval (.tmp 22) = .bool ((decide (x2 = b3)) || (!r376))), c_24, -⟩ := hf
      refine sg_f rfl rfl rfl f_22 (fun hg => ?_)
      have f_24 : a.eval (.tmp 24) = .bool r377 := c_24.1 hg
      exact or_not f_24 rfl
    refine steps_cons (fun own a wx hf hsl hE => ?_) ?_
    · obtain ⟨(f_22 : a.eval (.tmp 22) = .bool ((decide (x2 = b3)) || (!r376))), c_25, -⟩ := hf
      exact sg_plain rfl rfl (or_or f_22 rfl (fun hx => c_25.1 hx) (osome hx378).symm)
    exact steps_nil
  intro own379 a379 w379 hd379 hz379 hk379 hf379 hE379
  have e379_0 : a379.eval (.tmp 0) = .slice Al1 l1.length cl1 := (hk379 0 rfl).trans e372_0
  have e379_4 : a379.eval (.tmp 4) = .pointer (some ⟨g364, 0, none⟩) := (hk379 4 rfl).trans e372_4
  have e379_5 : a379.eval (.tmp 5) = .pointer (some ⟨g366, 0, none⟩) := (hk379 5 rfl).trans e372_5
  have e379_6 : a379.eval (.tmp 6) = .pointer (some ⟨g368, 0, none⟩) := (hk379 6 rfl).trans e372_6
  have e379_7 : a379.eval (.tmp 7) = .pointer (some ⟨g370, 0, none⟩) := (hk379 7 rfl).trans e372_7
  obtain ⟨(f_26 : a379.eval (.tmp 26) = .bool x378), -⟩ := hf379 [14] rfl
  have e379_26 := f_26
  have hX379 := Evo.step hX372 (fun _ => Nat.le_refl 0) hE379 rfl
  have b379_Al1 := RdO.evo rfl hE379 b372_Al1
  have b379_mk := MkO.evo (by decide) hE379 b372_mk
  have b379_g364 := BlkO.evo (by decide) hE379 b372_g364
  have b379_g366 := BlkO.evo (by decide) hE379 b372_g366
  have b379_g368 := BlkO.evo (by decide) hE379 b372_g368
  have b379_g370 := BlkO.evo (by decide) hE379 b372_g370
  refine fl_cond e379_26 hs (fun c380 hs => ?_) (fun c380 hs => ?_)
  · refine rg_plain_seq (n := 101) (rs := [Fct.at_ 369 g368 3 #[.int .i64 0], Fct.at_ 371 g370 4 #[.bool false]]) (own0 := own379) (K := [369, 371])
        (bs := [0, 1])
        (ds := [⟨[2], [6], [369], Fct.at_ 382 g368 3 #[.int .i64 0]⟩,
        ⟨[3], [7], [371], Fct.at_ 383 g370 4 #[.bool false]⟩]) (by kernel_rfl) hz379 hd379 (by simp only [List.forall_mem_cons]; exact ⟨b379_g368, b379_g370, fun _ h => nomatch h⟩) ?_ ?_
    · refine steps_cons (fun own a wx hf hsl hE => ?_) ?_
      · obtain ⟨(b_g368 : BlkO own 369 wx g368 3 #[.int .i64 0]), -⟩ := hf
        obtain ⟨s_6, -⟩ := hsl
        exact sg_plain rfl rfl (or_store1 (lab := 369) (lab2 := 382) ts3 (s_6.trans e379_6) rfl b_g368 (by simp) rfl (mem_of rfl) (by decide) rfl (fun own' a' w' ha hb => hb))
      refine steps_cons (fun own a wx hf hsl hE => ?_) ?_
      · obtain ⟨(b_g370 : BlkO own 371 wx g370 4 #[.bool false]), -⟩ := hf
        obtain ⟨s_7, -⟩ := hsl
        exact sg_plain rfl rfl (or_store1 (lab := 371) (lab2 := 383) ts4 (s_7.trans e379_7) rfl b_g370 (by simp) rfl (mem_of rfl) (by decide) rfl (fun own' a' w' ha hb => hb))
      exact steps_nil
    intro own384 a384 w384 hd384 hz384 hk384 hf384 hE384
    have e384_6 : a384.eval (.tmp 6) = .pointer (some ⟨g368, 0, none⟩) := (hk384 6 rfl).trans e379_6
    have e384_7 : a384.eval (.tmp 7) = .pointer (some ⟨g370, 0, none⟩) := (hk384 7 rfl).trans e379_7
    obtain ⟨(b_g368 : BlkO own384 382 w384 g368 3 #[.int .i64 0]), (b_g370 : BlkO own384 383 w384 g370 4 #[.bool false]), -⟩ := hf384 [0, 1] rfl
    have hX384 := Evo.step hX379 (fun _ => Nat.le_refl 0) hE384 rfl
    have b384_mk := MkO.evo (by decide) hE384 b379_mk
    have b384_g368 := b_g368
    have b384_g370 := b_g370
    refine fl_ret ?_
    refine hp373 _ _ _ rfl ?_
    refine hret _ _ _ _ _ (.inl rfl) hd384 b384_mk (fun own385 w385 hE385 => ?_)
    have hX386 := Evo.step hX384 (fun _ => Nat.le_refl 0) hE385 rfl
    have b386_g368 := BlkO.evo (by decide) hE385 b384_g368
    have b386_g370 := BlkO.evo (by decide) hE385 b384_g370
    obtain rfl := osome hs
    exact ⟨_, results2_ rfl (RVal.cell_ e384_6 (run_loadVarOne to3 (Blk.at_ b386_g368.2 0 rfl))) (RVal.cell_ e384_7 (run_loadVarOne to4 (Blk.at_ b386_g370.2 0 rfl))), ⟨own385, rfl, hX386⟩⟩
  refine fl_skip ?_
  refine hn373 _ _ ?_
  refine rg_plain_seq (n := 101) (rs := []) (own0 := own379) (K := [388])
      (bs := [0, 1, 0, 4, 15, 0, 32, 0, 128, 480, 1023, 0, 2048, 0, 8192, 30720, 0, 65536, 0, 262144, 983040, 2095104, 4194303, 0, 16777215])
      (ds := [⟨[], [4], [], Fct.val 27 (.pointer (some ⟨g364, 0, none⟩))⟩,
      ⟨[0], [], [], Fct.val 28 (.int .i64 x2.1)⟩,
      ⟨[], [5], [], Fct.val 29 (.pointer (some ⟨g366, 0, none⟩))⟩,
      ⟨[2], [], [], Fct.val 30 (.int .i64 b3.1)⟩,
      ⟨[1, 3], [], [], Fct.val 31 (.int .i64 (ad x2.1 b3.1))⟩,
      ⟨[], [4], [], Fct.val 32 (.pointer (some ⟨g364, 1, none⟩))⟩,
      ⟨[5], [], [], Fct.val 33 (.int .i64 x2.2)⟩,
      ⟨[], [5], [], Fct.val 34 (.pointer (some ⟨g366, 1, none⟩))⟩,
      ⟨[7], [], [], Fct.val 35 (.int .i64 b3.2)⟩,
      ⟨[6, 8], [], [], Fct.val 36 (.int .i64 (ad x2.2 b3.2))⟩,
      ⟨[4, 9], [], [], Fct.val 37 (.agg #[.int .i64 (ad x2.1 b3.1), .int .i64 (ad x2.2 b3.2)])⟩,
      ⟨[], [5], [], Fct.val 38 (.pointer (some ⟨g366, 0, none⟩))⟩,
      ⟨[11], [], [], Fct.val 39 (.int .i64 b3.1)⟩,
      ⟨[], [4], [], Fct.val 40 (.pointer (some ⟨g364, 0, none⟩))⟩,
      ⟨[13], [], [], Fct.val 41 (.int .i64 x2.1)⟩,
      ⟨[12, 14], [], [], Fct.val 42 (.int .i64 (sb b3.1 x2.1))⟩,
      ⟨[], [5], [], Fct.val 43 (.pointer (some ⟨g366, 1, none⟩))⟩,
      ⟨[16], [], [], Fct.val 44 (.int .i64 b3.2)⟩,
      ⟨[], [4], [], Fct.val 45 (.pointer (some ⟨g364, 1, none⟩))⟩,
      ⟨[18], [], [], Fct.val 46 (.int .i64 x2.2)⟩,
      ⟨[17, 19], [], [], Fct.val 47 (.int .i64 (sb b3.2 x2.2))⟩,
      ⟨[15, 20], [], [], Fct.val 48 (.agg #[.int .i64 (sb b3.1 x2.1), .int .i64 (sb b3.2 x2.2)])⟩,
      ⟨[10, 21], [], [], Fct.val 49 (.agg #[.int .i64 (ad x2.1 b3.1), .int .i64 (ad x2.2 b3.2), .int .i64 (sb b3.1 x2.1), .int .i64 (sb b3.2 x2.2)])⟩,
      ⟨[], [], [], Fct.blk 388 8 (fun g => .pointer (some ⟨g, 0, none⟩)) 64 #[.int .i64 0, .int .i64 0, .int .i64 0, .int .i64 0]⟩,
      ⟨[23, 22], [], [388], Fct.blk 389 8 (fun g => .pointer (some ⟨g, 0, none⟩)) 64 #[.int .i64 (ad x2.1 b3.1), .int .i64 (ad x2.2 b3.2), .int .i64 (sb b3.1 x2.1), .int .i64 (sb b3.2 x2.2)]⟩]) (by kernel_rfl) hz379 hd379 (fun _ h => nomatch h) ?_ ?_
  · refine steps_cons (fun own a wx hf hsl hE => ?_) ?_
    · obtain ⟨s_4, -⟩ := hsl
      exact sg_plain rfl rfl (or_field fo32_0 (s_4.trans e379_4) (by rfl))
    refine steps_cons (fun own a wx hf hsl hE => ?_) ?_
    · obtain ⟨(f_27 : a.eval (.tmp 27) = .pointer (some ⟨g364, 0, none⟩)), -⟩ := hf
      exact sg_plain rfl rfl (or_load1 to3 f_27 (Blk.at_ (BlkO.evo (by decide) hE b379_g364).2 0 rfl))
    refine steps_cons (fun own a wx hf hsl hE => ?_) ?_
    · obtain ⟨s_5, -⟩ := hsl
      exact sg_plain rfl rfl (or_field fo32_0 (s_5.trans e379_5) (by rfl))
    refine steps_cons (fun own a wx hf hsl hE => ?_) ?_
    · obtain ⟨(f_29 : a.eval (.tmp 29) = .pointer (some ⟨g366, 0, none⟩)), -⟩ := hf
      exact sg_plain rfl rfl (or_load1 to3 f_29 (Blk.at_ (BlkO.evo (by decide) hE b379_g366).2 0 rfl))
    refine steps_cons (fun own a wx hf hsl hE => ?_) ?_
    · obtain ⟨(f_28 : a.eval (.tmp 28) = .int .i64 x2.1), (f_30 : a.eval (.tmp 30) = .int .i64 b3.1), -⟩ := hf
      exact sg_plain rfl rfl (or_add f_28 f_30 rfl)
    refine steps_cons (fun own a wx hf hsl hE => ?_) ?_
    · obtain ⟨s_4, -⟩ := hsl
      exact sg_plain rfl rfl (or_field fo32_1 (s_4.trans e379_4) (by rfl))
    refine steps_cons (fun own a wx hf hsl hE => ?_) ?_
    · obtain ⟨(f_32 : a.eval (.tmp 32) = .pointer (some ⟨g364, 1, none⟩)), -⟩ := hf
      exact sg_plain rfl rfl (or_load1 to3 f_32 (Blk.at_ (BlkO.evo (by decide) hE b379_g364).2 1 rfl))
    refine steps_cons (fun own a wx hf hsl hE => ?_) ?_
    · obtain ⟨s_5, -⟩ := hsl
      exact sg_plain rfl rfl (or_field fo32_1 (s_5.trans e379_5) (by rfl))
    refine steps_cons (fun own a wx hf hsl hE => ?_) ?_
    · obtain ⟨(f_34 : a.eval (.tmp 34) = .pointer (some ⟨g366, 1, none⟩)), -⟩ := hf
      exact sg_plain rfl rfl (or_load1 to3 f_34 (Blk.at_ (BlkO.evo (by decide) hE b379_g366).2 1 rfl))
    refine steps_cons (fun own a wx hf hsl hE => ?_) ?_
    · obtain ⟨(f_33 : a.eval (.tmp 33) = .int .i64 x2.2), (f_35 : a.eval (.tmp 35) = .int .i64 b3.2), -⟩ := hf
      exact sg_plain rfl rfl (or_add f_33 f_35 rfl)
    refine steps_cons (fun own a wx hf hsl hE => ?_) ?_
    · obtain ⟨(f_31 : a.eval (.tmp 31) = .int .i64 (ad x2.1 b3.1)), (f_36 : a.eval (.tmp 36) = .int .i64 (ad x2.2 b3.2)), -⟩ := hf
      exact sg_plain rfl rfl (or_k [(31, .int .i64 (ad x2.1 b3.1)), (36, .int .i64 (ad x2.2 b3.2))] rfl rfl ⟨f_31, f_36, trivial⟩ (by kernel_rfl))
    refine steps_cons (fun own a wx hf hsl hE => ?_) ?_
    · obtain ⟨s_5, -⟩ := hsl
      exact sg_plain rfl rfl (or_field fo32_0 (s_5.trans e379_5) (by rfl))
    refine steps_cons (fun own a wx hf hsl hE => ?_) ?_
    · obtain ⟨(f_38 : a.eval (.tmp 38) = .pointer (some ⟨g366, 0, none⟩)), -⟩ := hf
      exact sg_plain rfl rfl (or_load1 to3 f_38 (Blk.at_ (BlkO.evo (by decide) hE b379_g366).2 0 rfl))
    refine steps_cons (fun own a wx hf hsl hE => ?_) ?_
    · obtain ⟨s_4, -⟩ := hsl
      exact sg_plain rfl rfl (or_field fo32_0 (s_4.trans e379_4) (by rfl))
    refine steps_cons (fun own a wx hf hsl hE => ?_) ?_
    · obtain ⟨(f_40 : a.eval (.tmp 40) = .pointer (some ⟨g364, 0, none⟩)), -⟩ := hf
      exact sg_plain rfl rfl (or_load1 to3 f_40 (Blk.at_ (BlkO.evo (by decide) hE b379_g364).2 0 rfl))
    refine steps_cons (fun own a wx hf hsl hE => ?_) ?_
    · obtain ⟨(f_39 : a.eval (.tmp 39) = .int .i64 b3.1), (f_41 : a.eval (.tmp 41) = .int .i64 x2.1), -⟩ := hf
      exact sg_plain rfl rfl (or_sub f_39 f_41 rfl)
    refine steps_cons (fun own a wx hf hsl hE => ?_) ?_
    · obtain ⟨s_5, -⟩ := hsl
      exact sg_plain rfl rfl (or_field fo32_1 (s_5.trans e379_5) (by rfl))
    refine steps_cons (fun own a wx hf hsl hE => ?_) ?_
    · obtain ⟨(f_43 : a.eval (.tmp 43) = .pointer (some ⟨g366, 1, none⟩)), -⟩ := hf
      exact sg_plain rfl rfl (or_load1 to3 f_43 (Blk.at_ (BlkO.evo (by decide) hE b379_g366).2 1 rfl))
    refine steps_cons (fun own a wx hf hsl hE => ?_) ?_
    · obtain ⟨s_4, -⟩ := hsl
      exact sg_plain rfl rfl (or_field fo32_1 (s_4.trans e379_4) (by rfl))
    refine steps_cons (fun own a wx hf hsl hE => ?_) ?_
    · obtain ⟨(f_45 : a.eval (.tmp 45) = .pointer (some ⟨g364, 1, none⟩)), -⟩ := hf
      exact sg_plain rfl rfl (or_load1 to3 f_45 (Blk.at_ (BlkO.evo (by decide) hE b379_g364).2 1 rfl))
    refine steps_cons (fun own a wx hf hsl hE => ?_) ?_
    · obtain ⟨(f_44 : a.eval (.tmp 44) = .int .i64 b3.2), (f_46 : a.eval (.tmp 46) = .int .i64 x2.2), -⟩ := hf
      exact sg_plain rfl rfl (or_sub f_44 f_46 rfl)
    refine steps_cons (fun own a wx hf hsl hE => ?_) ?_
    · obtain ⟨(f_42 : a.eval (.tmp 42) = .int .i64 (sb b3.1 x2.1)), (f_47 : a.eval (.tmp 47) = .int .i64 (sb b3.2 x2.2)), -⟩ := hf
      exact sg_plain rfl rfl (or_k [(42, .int .i64 (sb b3.1 x2.1)), (47, .int .i64 (sb b3.2 x2.2))] rfl rfl ⟨f_42, f_47, trivial⟩ (by kernel_rfl))
    refine steps_cons (fun own a wx hf hsl hE => ?_) ?_
    · obtain ⟨(f_37 : a.eval (.tmp 37) = .agg #[.int .i64 (ad x2.1 b3.1), .int .i64 (ad x2.2 b3.2)]), (f_48 : a.eval (.tmp 48) = .agg #[.int .i64 (sb b3.1 x2.1), .int .i64 (sb b3.2 x2.2)]), -⟩ := hf
      exact sg_plain rfl rfl (or_k [(37, .agg #[.int .i64 (ad x2.1 b3.1), .int .i64 (ad x2.2 b3.2)]), (48, .agg #[.int .i64 (sb b3.1 x2.1), .int .i64 (sb b3.2 x2.2)])] rfl rfl ⟨f_37, f_48, trivial⟩ (by kernel_rfl))
    refine steps_cons (fun own a wx hf hsl hE => ?_) ?_
    · exact sg_plain rfl rfl (or_new [] rfl rfl trivial (by kernel_rfl))
    refine steps_cons (fun own a wx hf hsl hE => ?_) ?_
    · obtain ⟨⟨g387, (f_8 : a.eval (.tmp 8) = .pointer (some ⟨g387, 0, none⟩)), (b_g387 : BlkO own 388 wx g387 64 #[.int .i64 0, .int .i64 0, .int .i64 0, .int .i64 0])⟩, (f_49 : a.eval (.tmp 49) = .agg #[.int .i64 (ad x2.1 b3.1), .int .i64 (ad x2.2 b3.2), .int .i64 (sb b3.1 x2.1), .int .i64 (sb b3.2 x2.2)]), -⟩ := hf
      exact sg_plain rfl rfl (or_store (l := #[.int .i64 (ad x2.1 b3.1), .int .i64 (ad x2.2 b3.2), .int .i64 (sb b3.1 x2.1), .int .i64 (sb b3.2 x2.2)]) (lab := 388) (lab2 := 389) ts64 f_8 f_49 b_g387 (by simp) (by kernel_rfl) (mem_of rfl) (by decide) (by kernel_rfl) (fun own' a' w' ha hb => ⟨_, (ha 8).trans f_8, hb⟩))
    exact steps_nil
  intro own390 a390 w390 hd390 hz390 hk390 hf390 hE390
  have e390_0 : a390.eval (.tmp 0) = .slice Al1 l1.length cl1 := (hk390 0 rfl).trans e379_0
  have e390_6 : a390.eval (.tmp 6) = .pointer (some ⟨g368, 0, none⟩) := (hk390 6 rfl).trans e379_6
  have e390_7 : a390.eval (.tmp 7) = .pointer (some ⟨g370, 0, none⟩) := (hk390 7 rfl).trans e379_7
  obtain ⟨⟨g387, (f_8 : a390.eval (.tmp 8) = .pointer (some ⟨g387, 0, none⟩)), (b_g387 : BlkO own390 389 w390 g387 64 #[.int .i64 (ad x2.1 b3.1), .int .i64 (ad x2.2 b3.2), .int .i64 (sb b3.1 x2.1), .int .i64 (sb b3.2 x2.2)])⟩, -⟩ := hf390 [24] rfl
  have e390_8 := f_8
  have hX390 := Evo.step hX379 (fun _ => Nat.le_refl 0) hE390 rfl
  have b390_Al1 := RdO.evo rfl hE390 b379_Al1
  have b390_mk := MkO.evo (by decide) hE390 b379_mk
  have b390_g368 := BlkO.evo (by decide) hE390 b379_g368
  have b390_g370 := BlkO.evo (by decide) hE390 b379_g370
  have b390_g387 := b_g387
  refine rg_plain_seq (n := 101) (rs := []) (own0 := own390) (K := [392])
      (bs := [0, 1])
      (ds := [⟨[], [], [], Fct.blk 392 9 (fun g => .pointer (some ⟨g, 0, none⟩)) 3 #[.int .i64 0]⟩,
      ⟨[0], [], [392], Fct.blk 393 9 (fun g => .pointer (some ⟨g, 0, none⟩)) 3 #[.int .i64 0]⟩]) (by kernel_rfl) hz390 hd390 (fun _ h => nomatch h) ?_ ?_
  · refine steps_cons (fun own a wx hf hsl hE => ?_) ?_
    · exact sg_plain rfl rfl (or_new [] rfl rfl trivial (by kernel_rfl))
    refine steps_cons (fun own a wx hf hsl hE => ?_) ?_
    · obtain ⟨⟨g391, (f_9 : a.eval (.tmp 9) = .pointer (some ⟨g391, 0, none⟩)), (b_g391 : BlkO own 392 wx g391 3 #[.int .i64 0])⟩, -⟩ := hf
      exact sg_plain rfl rfl (or_store1 (lab := 392) (lab2 := 393) ts3 f_9 rfl b_g391 (by simp) rfl (mem_of rfl) (by decide) rfl (fun own' a' w' ha hb => ⟨_, (ha 9).trans f_9, hb⟩))
    exact steps_nil
  intro own394 a394 w394 hd394 hz394 hk394 hf394 hE394
  have e394_0 : a394.eval (.tmp 0) = .slice Al1 l1.length cl1 := (hk394 0 rfl).trans e390_0
  have e394_6 : a394.eval (.tmp 6) = .pointer (some ⟨g368, 0, none⟩) := (hk394 6 rfl).trans e390_6
  have e394_7 : a394.eval (.tmp 7) = .pointer (some ⟨g370, 0, none⟩) := (hk394 7 rfl).trans e390_7
  have e394_8 : a394.eval (.tmp 8) = .pointer (some ⟨g387, 0, none⟩) := (hk394 8 rfl).trans e390_8
  obtain ⟨⟨g391, (f_9 : a394.eval (.tmp 9) = .pointer (some ⟨g391, 0, none⟩)), (b_g391 : BlkO own394 393 w394 g391 3 #[.int .i64 0])⟩, -⟩ := hf394 [1] rfl
  have e394_9 := f_9
  have hX394 := Evo.step hX390 (fun _ => Nat.le_refl 0) hE394 rfl
  have b394_Al1 := RdO.evo rfl hE394 b390_Al1
  have b394_mk := MkO.evo (by decide) hE394 b390_mk
  have b394_g368 := BlkO.evo (by decide) hE394 b390_g368
  have b394_g370 := BlkO.evo (by decide) hE394 b390_g370
  have b394_g387 := BlkO.evo (by decide) hE394 b390_g387
  have b394_g391 := b_g391
  refine fl_seq (fun Q395 hn395 hp395 => ?_)
  refine rg_plain_seq (n := 101) (rs := []) (own0 := own394) (K := [])
      (bs := [0, 1])
      (ds := [⟨[], [0], [], Fct.val 50 (.slice Al1 l1.length cl1)⟩,
      ⟨[0], [], [], Fct.mems [397] 51 (fun (x : Option Addr × Nat) => .func (.func 55) #[] #[.pointer (some ⟨x.2, 0, none⟩)]) (fun (x : Option Addr × Nat) own w => BlkO own 397 w x.2 22 #[.slice Al1 l1.length cl1]) (fun hk he h => BlkO.evo (not_hit hk (by decide)) he h)⟩]) (by kernel_rfl) hz394 hd394 (fun _ h => nomatch h) ?_ ?_
  · refine steps_cons (fun own a wx hf hsl hE => ?_) ?_
    · obtain ⟨s_0, -⟩ := hsl
      exact sg_plain rfl rfl (or_move (s_0.trans e394_0))
    refine steps_cons (fun own a wx hf hsl hE => ?_) ?_
    · obtain ⟨(f_50 : a.eval (.tmp 50) = .slice Al1 l1.length cl1), -⟩ := hf
      exact sg_plain rfl rfl (or_call cf34 (args1 f_50) (ring_edges_w _ l1 Al1 cl1 (RdO.zero (RdO.evo rfl hE b394_Al1)) () rfl) (post_mems (m := (fun _ => 0)) (m' := (look0 [(1, 397)])) (fun _ _ => .inl rfl) (fun own' w' a' x h1 h => ⟨x, h1, BlkO.back_ h (by decide)⟩)))
    exact steps_nil
  intro own398 a398 w398 hd398 hz398 hk398 hf398 hE398
  have e398_6 : a398.eval (.tmp 6) = .pointer (some ⟨g368, 0, none⟩) := (hk398 6 rfl).trans e394_6
  have e398_7 : a398.eval (.tmp 7) = .pointer (some ⟨g370, 0, none⟩) := (hk398 7 rfl).trans e394_7
  have e398_8 : a398.eval (.tmp 8) = .pointer (some ⟨g387, 0, none⟩) := (hk398 8 rfl).trans e394_8
  have e398_9 : a398.eval (.tmp 9) = .pointer (some ⟨g391, 0, none⟩) := (hk398 9 rfl).trans e394_9
  obtain ⟨⟨⟨A396, cA396⟩, (f_51 : a398.eval (.tmp 51) = .func (.func 55) #[] #[.pointer (some ⟨cA396, 0, none⟩)]), (b_cA396 : BlkO own398 397 w398 cA396 22 #[.slice Al1 l1.length cl1])⟩, -⟩ := hf398 [1] rfl
  have e398_51 := f_51
  have hX398 := Evo.step hX394 (fun _ => Nat.le_refl 0) hE398 rfl
  have b398_Al1 := RdO.evo rfl hE398 b394_Al1
  have b398_mk := MkO.evo (by decide) hE398 b394_mk
  have b398_g368 := BlkO.evo (by decide) hE398 b394_g368
  have b398_g370 := BlkO.evo (by decide) hE398 b394_g370
  have b398_g387 := BlkO.evo (by decide) hE398 b394_g387
  have b398_g391 := BlkO.evo (by decide) hE398 b394_g391
  have b398_cA396 := b_cA396
  refine fl_block (fun Q399 hn399 hx399 hp399 => ?_)
  obtain ⟨zz606, hzz606, hs⟩ := rngO_some hs
  refine fl_range (S := Int) (D := Unit) (X := (Int × Int) × (Int × Int)) (encs := (fun (x : (Int × Int) × (Int × Int)) => #[.agg #[.int .i64 x.1.1, .int .i64 x.1.2], .agg #[.int .i64 x.2.1, .int .i64 x.2.2]])) (n := 101) [369, 371, 393, 613, 617, 672, 673, 692, 702, 710] 607 11 rfl
      (fun (n503 : Int) (ox : Own) (wx : World) => Evo [] (fun _ => 0) ox w wx ∧ BlkO ox 369 wx g368 3 #[.int .i64 0] ∧ BlkO ox 371 wx g370 4 #[.bool false] ∧ BlkO ox 389 wx g387 64 #[.int .i64 (ad x2.1 b3.1), .int .i64 (ad x2.2 b3.2), .int .i64 (sb b3.1 x2.1), .int .i64 (sb b3.2 x2.2)] ∧ BlkO ox 393 wx g391 3 #[.int .i64 n503] ∧ BlkO ox 397 wx cA396 22 #[.slice Al1 l1.length cl1] ∧ RdO ox [0] wx R32 Al1 cl1 l1)
      (fun (_ : Unit) (ox : Own) (wx : World) => Evo [] (fun _ => 0) ox w wx ∧ BlkO ox 566 wx g368 3 #[.int .i64 0] ∧ BlkO ox 567 wx g370 4 #[.bool false])
      (fun _ => Code.ret) (fun (sr : Int) (xr : (Int × Int) × (Int × Int)) => ring_Beside_b2 x2 b3 sr xr) hz398 rfl e398_51 cf55 (cargs := fun l => #[.func (.yield l) #[] #[], .pointer (some ⟨cA396, 0, none⟩)]) (fun _ => by simp) (fun _ => rfl) hd398 b398_mk ?_ ?_ 0 zz606 ⟨hX398, b398_g368, b398_g370, b398_g387, b398_g391, b398_cA396, b398_Al1⟩ ?_ ?_ ?_ ?_
  · rintro n503 ox ox1 wx wx1 hEs ⟨h606_0, h606_1, h606_2, h606_3, h606_4, h606_5, h606_6⟩
    exact ⟨(Evo.step h606_0 (fun _ => Nat.le_refl 0) hEs rfl), (BlkO.evo (by decide) hEs h606_1), (BlkO.evo (by decide) hEs h606_2), (BlkO.evo (by decide) hEs h606_3), (BlkO.evo (by decide) hEs h606_4), (BlkO.evo (by decide) hEs h606_5), (RdO.evo rfl hEs h606_6)⟩
  · rintro _ ox ox1 wx wx1 hEs ⟨h606_0, h606_1, h606_2⟩
    exact ⟨(Evo.step h606_0 (fun _ => Nat.le_refl 0) hEs rfl), (BlkO.evo (by decide) hEs h606_1), (BlkO.evo (by decide) hEs h606_2)⟩
  · intro l606 own1 w1 J606 hE1 hJ1 hR1
    exact (ring_edges_1_w w1 (forth own1 (look0 (kj 607 [369, 371, 393, 613, 617, 672, 673, 692, 702, 710]))) (Int ⊕ Unit) (yb (fun (sr : Int) (xr : (Int × Int) × (Int × Int)) => ring_Beside_b2 x2 b3 sr xr)) J606 l606 (Sum.inl 0) l1 cA396 22 Al1 cl1 (look0_le rfl) hR1 hJ1 (BlkO.forth_ (BlkO.evo (by decide) hE1 b398_cA396)) (RdO.forth0_ (RdO.evo rfl hE1 b398_Al1) rfl) zz606 hzz606).mono fun e wz ⟨oz, he, _, hJz⟩ => ⟨_, oz, he, hJz⟩
  · rintro l610 n503 x609 zz2 own610 a610 w610 Ds610 ⟨hE611, b611_g368, b611_g370, b611_g387, b611_g391, b611_cA396, b611_Al1⟩ - hrc610 hs ⟨hd610, hz610, hkp610, hpar610⟩ Q610 hn610
    have hs : ring_Beside_b2 x2 b3 n503 x609 = some zz2 := hs
    replace hz610 := hz610.trans hz398
    have e610_6 : a610.eval (.tmp 6) = .pointer (some ⟨g368, 0, none⟩) := (hkp610 6 rfl).trans e398_6
    have e610_7 : a610.eval (.tmp 7) = .pointer (some ⟨g370, 0, none⟩) := (hkp610 7 rfl).trans e398_7
    have e610_8 : a610.eval (.tmp 8) = .pointer (some ⟨g387, 0, none⟩) := (hkp610 8 rfl).trans e398_8
    have e610_9 : a610.eval (.tmp 9) = .pointer (some ⟨g391, 0, none⟩) := (hkp610 9 rfl).trans e398_9
    have e610_51 : a610.eval (.tmp 51) = .func (.func 55) #[] #[.pointer (some ⟨cA396, 0, none⟩)] := (hkp610 51 rfl).trans e398_51
    have e610_52 : a610.eval (.tmp 52) = .agg #[.int .i64 x609.1.1, .int .i64 x609.1.2] := hpar610 0 52 _ rfl rfl
    have e610_53 : a610.eval (.tmp 53) = .agg #[.int .i64 x609.2.1, .int .i64 x609.2.2] := hpar610 1 53 _ rfl rfl
    have hE610 := Evo.refl [369, 371, 393, 613, 617, 672, 673, 692, 702, 710] own610 w610
    have hrc0_610 := hrc610
    refine rg_plain_seq (n := 101) (rs := []) (own0 := own610) (K := [613])
        (bs := [0, 1])
        (ds := [⟨[], [], [], Fct.blk 613 10 (fun g => .pointer (some ⟨g, 0, none⟩)) 32 #[.int .i64 0, .int .i64 0]⟩,
        ⟨[0], [52], [613], Fct.blk 614 10 (fun g => .pointer (some ⟨g, 0, none⟩)) 32 #[.int .i64 x609.1.1, .int .i64 x609.1.2]⟩]) (by kernel_rfl) hz610 hd610 (fun _ h => nomatch h) ?_ ?_
    · refine steps_cons (fun own a wx hf hsl hE => ?_) ?_
      · exact sg_plain rfl rfl (or_new [] rfl rfl trivial (by kernel_rfl))
      refine steps_cons (fun own a wx hf hsl hE => ?_) ?_
      · obtain ⟨⟨g612, (f_10 : a.eval (.tmp 10) = .pointer (some ⟨g612, 0, none⟩)), (b_g612 : BlkO own 613 wx g612 32 #[.int .i64 0, .int .i64 0])⟩, -⟩ := hf
        obtain ⟨s_52, -⟩ := hsl
        exact sg_plain rfl rfl (or_store (l := #[.int .i64 x609.1.1, .int .i64 x609.1.2]) (lab := 613) (lab2 := 614) ts32 f_10 (s_52.trans e610_52) b_g612 (by simp) (by kernel_rfl) (mem_of rfl) (by decide) (by kernel_rfl) (fun own' a' w' ha hb => ⟨_, (ha 10).trans f_10, hb⟩))
      exact steps_nil
    intro own615 a615 w615 hd615 hz615 hk615 hf615 hE615
    have e615_6 : a615.eval (.tmp 6) = .pointer (some ⟨g368, 0, none⟩) := (hk615 6 rfl).trans e610_6
    have e615_7 : a615.eval (.tmp 7) = .pointer (some ⟨g370, 0, none⟩) := (hk615 7 rfl).trans e610_7
    have e615_8 : a615.eval (.tmp 8) = .pointer (some ⟨g387, 0, none⟩) := (hk615 8 rfl).trans e610_8
    have e615_9 : a615.eval (.tmp 9) = .pointer (some ⟨g391, 0, none⟩) := (hk615 9 rfl).trans e610_9
    have e615_51 : a615.eval (.tmp 51) = .func (.func 55) #[] #[.pointer (some ⟨cA396, 0, none⟩)] := (hk615 51 rfl).trans e610_51
    have e615_53 : a615.eval (.tmp 53) = .agg #[.int .i64 x609.2.1, .int .i64 x609.2.2] := (hk615 53 rfl).trans e610_53
    obtain ⟨⟨g612, (f_10 : a615.eval (.tmp 10) = .pointer (some ⟨g612, 0, none⟩)), (b_g612 : BlkO own615 614 w615 g612 32 #[.int .i64 x609.1.1, .int .i64 x609.1.2])⟩, -⟩ := hf615 [1] rfl
    have e615_10 := f_10
    have hX615 := Evo.stepK hE610 hE615 rfl
    have b615_g368 := BlkO.evo (by decide) hE615 b611_g368
    have b615_g370 := BlkO.evo (by decide) hE615 b611_g370
    have b615_g387 := BlkO.evo (by decide) hE615 b611_g387
    have b615_g391 := BlkO.evo (by decide) hE615 b611_g391
    have b615_cA396 := BlkO.evo (by decide) hE615 b611_cA396
    have b615_Al1 := RdO.evo rfl hE615 b611_Al1
    have b615_g612 := b_g612
    refine rg_plain (n := 101) (rs := []) (own0 := own615) (K := [617])
        (bs := [0, 1])
        (ds := [⟨[], [], [], Fct.blk 617 11 (fun g => .pointer (some ⟨g, 0, none⟩)) 32 #[.int .i64 0, .int .i64 0]⟩,
        ⟨[0], [53], [617], Fct.blk 618 11 (fun g => .pointer (some ⟨g, 0, none⟩)) 32 #[.int .i64 x609.2.1, .int .i64 x609.2.2]⟩]) (by kernel_rfl) hz615 hd615 (fun _ h => nomatch h) ?_ ?_
    · refine steps_cons (fun own a wx hf hsl hE => ?_) ?_
      · exact sg_plain rfl rfl (or_new [] rfl rfl trivial (by kernel_rfl))
      refine steps_cons (fun own a wx hf hsl hE => ?_) ?_
      · obtain ⟨⟨g616, (f_11 : a.eval (.tmp 11) = .pointer (some ⟨g616, 0, none⟩)), (b_g616 : BlkO own 617 wx g616 32 #[.int .i64 0, .int .i64 0])⟩, -⟩ := hf
        obtain ⟨s_53, -⟩ := hsl
        exact sg_plain rfl rfl (or_store (l := #[.int .i64 x609.2.1, .int .i64 x609.2.2]) (lab := 617) (lab2 := 618) ts32 f_11 (s_53.trans e615_53) b_g616 (by simp) (by kernel_rfl) (mem_of rfl) (by decide) (by kernel_rfl) (fun own' a' w' ha hb => ⟨_, (ha 11).trans f_11, hb⟩))
      exact steps_nil
    intro own619 a619 w619 hd619 hz619 hk619 hf619 hE619
    have e619_6 : a619.eval (.tmp 6) = .pointer (some ⟨g368, 0, none⟩) := (hk619 6 rfl).trans e615_6
    have e619_7 : a619.eval (.tmp 7) = .pointer (some ⟨g370, 0, none⟩) := (hk619 7 rfl).trans e615_7
    have e619_8 : a619.eval (.tmp 8) = .pointer (some ⟨g387, 0, none⟩) := (hk619 8 rfl).trans e615_8
    have e619_9 : a619.eval (.tmp 9) = .pointer (some ⟨g391, 0, none⟩) := (hk619 9 rfl).trans e615_9
    have e619_10 : a619.eval (.tmp 10) = .pointer (some ⟨g612, 0, none⟩) := (hk619 10 rfl).trans e615_10
    have e619_51 : a619.eval (.tmp 51) = .func (.func 55) #[] #[.pointer (some ⟨cA396, 0, none⟩)] := (hk619 51 rfl).trans e615_51
    obtain ⟨⟨g616, (f_11 : a619.eval (.tmp 11) = .pointer (some ⟨g616, 0, none⟩)), (b_g616 : BlkO own619 618 w619 g616 32 #[.int .i64 x609.2.1, .int .i64 x609.2.2])⟩, -⟩ := hf619 [1] rfl
    have e619_11 := f_11
    have hX619 := Evo.stepK hX615 hE619 rfl
    have b619_g368 := BlkO.evo (by decide) hE619 b615_g368
    have b619_g370 := BlkO.evo (by decide) hE619 b615_g370
    have b619_g387 := BlkO.evo (by decide) hE619 b615_g387
    have b619_g391 := BlkO.evo (by decide) hE619 b615_g391
    have b619_cA396 := BlkO.evo (by decide) hE619 b615_cA396
    have b619_Al1 := RdO.evo rfl hE619 b615_Al1
    have b619_g612 := BlkO.evo (by decide) hE619 b615_g612
    have b619_g616 := b_g616
    refine hn610 _ _ _ hX619 (fun w620 own620 hE620 hrc620 => ?_)
    have b620_g368 := BlkO.evo (by decide) hE620 b619_g368
    have b620_g370 := BlkO.evo (by decide) hE620 b619_g370
    have b620_g387 := BlkO.evo (by decide) hE620 b619_g387
    have b620_g391 := BlkO.evo (by decide) hE620 b619_g391
    have b620_cA396 := BlkO.evo (by decide) hE620 b619_cA396
    have b620_Al1 := RdO.evo rfl hE620 b619_Al1
    have b620_g612 := BlkO.evo (by decide) hE620 b619_g612
    have b620_g616 := BlkO.evo (by decide) hE620 b619_g616
    have hU620 := Evo.step (Evo.step hE611 (fun _ => Nat.le_refl 0) hX619 rfl) (fun _ => Nat.le_refl 0) hE620 rfl
    have hX620 := Evo.refl [369, 371, 393, 613, 617, 672, 673, 692, 702, 710] own620 w620
    have hmk620 : MkO own620 11 w620 [] := MkO.nil_
    refine fl_block (fun Q621 hn621 hx621 hp621 => ?_)
    refine fl_seq (fun Q667 hn667 hp667 => ?_)
    obtain ⟨r668, hr668, hs⟩ := obind hs
    refine rg_plain_seq (n := 101) (rs := []) (own0 := own620) (K := [])
        (bs := [0, 0, 0, 7])
        (ds := [⟨[], [8], [], Fct.val 54 (.agg #[.int .i64 (ad x2.1 b3.1), .int .i64 (ad x2.2 b3.2), .int .i64 (sb b3.1 x2.1), .int .i64 (sb b3.2 x2.2)])⟩,
        ⟨[], [10], [], Fct.val 55 (.agg #[.int .i64 x609.1.1, .int .i64 x609.1.2])⟩,
        ⟨[], [11], [], Fct.val 56 (.agg #[.int .i64 x609.2.1, .int .i64 x609.2.2])⟩,
        ⟨[0, 1, 2], [], [], Fct.val 57 (.bool r668)⟩]) (by kernel_rfl) hz619 hd619 (fun _ h => nomatch h) ?_ ?_
    · refine steps_cons (fun own a wx hf hsl hE => ?_) ?_
      · obtain ⟨s_8, -⟩ := hsl
        exact sg_plain rfl rfl (or_load (l := [.int .i64 (ad x2.1 b3.1), .int .i64 (ad x2.2 b3.2), .int .i64 (sb b3.1 x2.1), .int .i64 (sb b3.2 x2.2)]) ta64 (s_8.trans e619_8) (Blk.cellsFrom (BlkO.evo (by decide) hE b620_g387).2 0 rfl) rfl)
      refine steps_cons (fun own a wx hf hsl hE => ?_) ?_
      · obtain ⟨s_10, -⟩ := hsl
        exact sg_plain rfl rfl (or_load (l := [.int .i64 x609.1.1, .int .i64 x609.1.2]) ta32 (s_10.trans e619_10) (Blk.cellsFrom (BlkO.evo (by decide) hE b620_g612).2 0 rfl) rfl)
      refine steps_cons (fun own a wx hf hsl hE => ?_) ?_
      · obtain ⟨s_11, -⟩ := hsl
        exact sg_plain rfl rfl (or_load (l := [.int .i64 x609.2.1, .int .i64 x609.2.2]) ta32 (s_11.trans e619_11) (Blk.cellsFrom (BlkO.evo (by decide) hE b620_g616).2 0 rfl) rfl)
      refine steps_cons (fun own a wx hf hsl hE => ?_) ?_
      · obtain ⟨(f_54 : a.eval (.tmp 54) = .agg #[.int .i64 (ad x2.1 b3.1), .int .i64 (ad x2.2 b3.2), .int .i64 (sb b3.1 x2.1), .int .i64 (sb b3.2 x2.2)]), (f_55 : a.eval (.tmp 55) = .agg #[.int .i64 x609.1.1, .int .i64 x609.1.2]), (f_56 : a.eval (.tmp 56) = .agg #[.int .i64 x609.2.1, .int .i64 x609.2.2]), -⟩ := hf
        exact sg_plain rfl rfl (or_call cf40 (args3 f_54 f_55 f_56) (ring_beside_has_w _ ((ad x2.1 b3.1, ad x2.2 b3.2), (sb b3.1 x2.1, sb b3.2 x2.2)) x609.1 x609.2  r668 hr668) post_val)
      exact steps_nil
    intro own669 a669 w669 hd669 hz669 hk669 hf669 hE669
    have e669_6 : a669.eval (.tmp 6) = .pointer (some ⟨g368, 0, none⟩) := (hk669 6 rfl).trans e619_6
    have e669_7 : a669.eval (.tmp 7) = .pointer (some ⟨g370, 0, none⟩) := (hk669 7 rfl).trans e619_7
    have e669_8 : a669.eval (.tmp 8) = .pointer (some ⟨g387, 0, none⟩) := (hk669 8 rfl).trans e619_8
    have e669_9 : a669.eval (.tmp 9) = .pointer (some ⟨g391, 0, none⟩) := (hk669 9 rfl).trans e619_9
    have e669_10 : a669.eval (.tmp 10) = .pointer (some ⟨g612, 0, none⟩) := (hk669 10 rfl).trans e619_10
    have e669_11 : a669.eval (.tmp 11) = .pointer (some ⟨g616, 0, none⟩) := (hk669 11 rfl).trans e619_11
    have e669_51 : a669.eval (.tmp 51) = .func (.func 55) #[] #[.pointer (some ⟨cA396, 0, none⟩)] := (hk669 51 rfl).trans e619_51
    obtain ⟨(f_57 : a669.eval (.tmp 57) = .bool r668), -⟩ := hf669 [3] rfl
    have e669_57 := f_57
    have hX669 := Evo.stepK hX620 hE669 rfl
    have b669_g368 := BlkO.evo (by decide) hE669 b620_g368
    have b669_g370 := BlkO.evo (by decide) hE669 b620_g370
    have b669_g387 := BlkO.evo (by decide) hE669 b620_g387
    have b669_g391 := BlkO.evo (by decide) hE669 b620_g391
    have b669_cA396 := BlkO.evo (by decide) hE669 b620_cA396
    have b669_Al1 := RdO.evo rfl hE669 b620_Al1
    have b669_g612 := BlkO.evo (by decide) hE669 b620_g612
    have b669_g616 := BlkO.evo (by decide) hE669 b620_g616
    have b669_rc := RcO.evo (by decide) hE669 hrc620
    have b669_mk := MkO.evo (by decide) hE669 hmk620
    refine fl_cond e669_57 hs (fun c670 hs => ?_) (fun c670 hs => ?_)
    · refine rg_plain_seq (n := 101) (rs := [Fct.at_ 369 g368 3 #[.int .i64 0], Fct.at_ 371 g370 4 #[.bool false]]) (own0 := own669) (K := [369, 371])
          (bs := [0, 1])
          (ds := [⟨[2], [6], [369], Fct.at_ 672 g368 3 #[.int .i64 0]⟩,
          ⟨[3], [7], [371], Fct.at_ 673 g370 4 #[.bool false]⟩]) (by kernel_rfl) hz669 hd669 (by simp only [List.forall_mem_cons]; exact ⟨b669_g368, b669_g370, fun _ h => nomatch h⟩) ?_ ?_
      · refine steps_cons (fun own a wx hf hsl hE => ?_) ?_
        · obtain ⟨(b_g368 : BlkO own 369 wx g368 3 #[.int .i64 0]), -⟩ := hf
          obtain ⟨s_6, -⟩ := hsl
          exact sg_plain rfl rfl (or_store1 (lab := 369) (lab2 := 672) ts3 (s_6.trans e669_6) rfl b_g368 (by simp) rfl (mem_of rfl) (by decide) rfl (fun own' a' w' ha hb => hb))
        refine steps_cons (fun own a wx hf hsl hE => ?_) ?_
        · obtain ⟨(b_g370 : BlkO own 371 wx g370 4 #[.bool false]), -⟩ := hf
          obtain ⟨s_7, -⟩ := hsl
          exact sg_plain rfl rfl (or_store1 (lab := 371) (lab2 := 673) ts4 (s_7.trans e669_7) rfl b_g370 (by simp) rfl (mem_of rfl) (by decide) rfl (fun own' a' w' ha hb => hb))
        exact steps_nil
      intro own674 a674 w674 hd674 hz674 hk674 hf674 hE674
      have e674_6 : a674.eval (.tmp 6) = .pointer (some ⟨g368, 0, none⟩) := (hk674 6 rfl).trans e669_6
      have e674_7 : a674.eval (.tmp 7) = .pointer (some ⟨g370, 0, none⟩) := (hk674 7 rfl).trans e669_7
      obtain ⟨(b_g368 : BlkO own674 672 w674 g368 3 #[.int .i64 0]), (b_g370 : BlkO own674 673 w674 g370 4 #[.bool false]), -⟩ := hf674 [0, 1] rfl
      have hX674 := Evo.stepK hX669 hE674 rfl
      have b674_rc := RcO.evo (by decide) hE674 b669_rc
      have b674_mk := MkO.evo (by decide) hE674 b669_mk
      have b674_g368 := b_g368
      have b674_g370 := b_g370
      refine fl_ret ?_
      refine hp667 _ _ _ rfl ?_
      refine hp621 _ _ _ rfl ?_
      exact ⟨_, (rl [(672, 566), (673, 567)] own674), osome hs, rfl, (Evo.rlK hX674 rfl), (Evo.step hU620 (fun _ => Nat.le_refl 0) (Evo.rlK hX674 rfl) rfl), (BlkO.rl_ (mm := [(672, 566), (673, 567)]) b674_g368), (BlkO.rl_ (mm := [(672, 566), (673, 567)]) b674_g370)⟩
    refine fl_skip ?_
    refine hn667 _ _ ?_
    refine fl_block (fun Q675 hn675 hx675 hp675 => ?_)
    have K694 : ∀ (a694 : Act) (w694 : World) (own694 : Own) (n693 : Int), a694.defers = mkD [] → a694.tmps.size = 101 → a694.eval (.tmp 6) = .pointer (some ⟨g368, 0, none⟩) → a694.eval (.tmp 7) = .pointer (some ⟨g370, 0, none⟩) → a694.eval (.tmp 8) = .pointer (some ⟨g387, 0, none⟩) → a694.eval (.tmp 9) = .pointer (some ⟨g391, 0, none⟩) → a694.eval (.tmp 51) = .func (.func 55) #[] #[.pointer (some ⟨cA396, 0, none⟩)] → Evo [369, 371, 393, 613, 617, 672, 673, 692, 702, 710] own620 own694 w620 w694 → BlkO own694 369 w694 g368 3 #[.int .i64 0] → BlkO own694 371 w694 g370 4 #[.bool false] → BlkO own694 389 w694 g387 64 #[.int .i64 (ad x2.1 b3.1), .int .i64 (ad x2.2 b3.2), .int .i64 (sb b3.1 x2.1), .int .i64 (sb b3.2 x2.2)] → BlkO own694 692 w694 g391 3 #[.int .i64 n693] → BlkO own694 397 w694 cA396 22 #[.slice Al1 l1.length cl1] → RdO own694 [0] w694 R32 Al1 cl1 l1 → MkO own694 11 w694 [] → RcO own694 607 w694 l610 → ring_Beside_k1 n693 = some zz2 → (Q675 .normal a694 w694 ∧ Q675 (.exit 2) a694 w694) := by
      intro a694 w694 own694 n693 hd695 hz695 e695_6 e695_7 e695_8 e695_9 e695_51 hE695 b695_g368 b695_g370 b695_g387 b695_g391 b695_cA396 b695_Al1 b695_mk b695_rc hs
      refine and_both (hn675 _ _) (hx675 _ _) ?_
      refine hn621 _ _ ?_
      exact ⟨_, (rl [(692, 393)] own694), osome hs, (Evo.rlK hE695 rfl), (Evo.step hU620 (fun _ => Nat.le_refl 0) (Evo.rlK hE695 rfl) rfl), (BlkO.rl_ (mm := [(692, 393)]) b695_g368), (BlkO.rl_ (mm := [(692, 393)]) b695_g370), (BlkO.rl_ (mm := [(692, 393)]) b695_g387), (BlkO.rl_ (mm := [(692, 393)]) b695_g391), (BlkO.rl_ (mm := [(692, 393)]) b695_cA396), (RdO.rl_ (mm := [(692, 393)]) b695_Al1)⟩
    obtain ⟨r696, hr696, hs⟩ := obind hs
    obtain ⟨r697, hr697, hs⟩ := obind hs
    obtain ⟨r698, hr698, hs⟩ := obind hs
    obtain ⟨x699, hx699, hs⟩ := obind hs
    refine rg_plain_seq (n := 101) (rs := []) (own0 := own669) (K := [])
        (bs := [0, 0, 2, 7, 15, 31, 63, 63, 191, 511, 1023, 2047, 4095, 4095, 4095, 32767, 65535, 131071, 262143])
        (ds := [⟨[], [8], [], Fct.val 59 (.agg #[.int .i64 (ad x2.1 b3.1), .int .i64 (ad x2.2 b3.2), .int .i64 (sb b3.1 x2.1), .int .i64 (sb b3.2 x2.2)])⟩,
        ⟨[], [10], [], Fct.val 60 (.pointer (some ⟨g612, 1, none⟩))⟩,
        ⟨[1], [], [], Fct.val 61 (.int .i64 x609.1.2)⟩,
        ⟨[0, 2], [], [], Fct.val 62 (.bool r696)⟩,
        ⟨[3], [], [], Fct.val 63 (.bool (!r696))⟩,
        ⟨[4], [], [], Fct.val 64 (.bool (!r696))⟩,
        ⟨[5], [8], [], Fct.cond (!r696) (some 65) (Fct.val 65 (.agg #[.int .i64 (ad x2.1 b3.1), .int .i64 (ad x2.2 b3.2), .int .i64 (sb b3.1 x2.1), .int .i64 (sb b3.2 x2.2)]))⟩,
        ⟨[5], [11], [], Fct.cond (!r696) (some 66) (Fct.val 66 (.pointer (some ⟨g616, 1, none⟩)))⟩,
        ⟨[5, 7], [], [], Fct.cond (!r696) (some 67) (Fct.val 67 (.int .i64 x609.2.2))⟩,
        ⟨[5, 6, 8], [], [], Fct.cond (!r696) (some 68) (Fct.val 68 (.bool r697))⟩,
        ⟨[5, 9], [], [], Fct.val 69 (.bool ((!r696) && r697))⟩,
        ⟨[10], [], [], Fct.val 70 (.bool ((!r696) && r697))⟩,
        ⟨[11], [8], [], Fct.cond ((!r696) && r697) (some 71) (Fct.val 71 (.agg #[.int .i64 (ad x2.1 b3.1), .int .i64 (ad x2.2 b3.2), .int .i64 (sb b3.1 x2.1), .int .i64 (sb b3.2 x2.2)]))⟩,
        ⟨[11], [10], [], Fct.cond ((!r696) && r697) (some 72) (Fct.val 72 (.agg #[.int .i64 x609.1.1, .int .i64 x609.1.2]))⟩,
        ⟨[11], [11], [], Fct.cond ((!r696) && r697) (some 73) (Fct.val 73 (.agg #[.int .i64 x609.2.1, .int .i64 x609.2.2]))⟩,
        ⟨[11, 12, 13, 14], [], [], Fct.cond ((!r696) && r697) (some 74) (Fct.val 74 (.int .i64 r698))⟩,
        ⟨[11, 15], [], [], Fct.cond ((!r696) && r697) (some 75) (Fct.val 75 (.bool (decide (0 < r698))))⟩,
        ⟨[11, 16], [], [], Fct.val 76 (.bool x699)⟩,
        ⟨[17], [], [], Fct.val 58 (.bool x699)⟩]) (by kernel_rfl) hz669 hd669 (fun _ h => nomatch h) ?_ ?_
    · refine steps_cons (fun own a wx hf hsl hE => ?_) ?_
      · obtain ⟨s_8, -⟩ := hsl
        exact sg_plain rfl rfl (or_load (l := [.int .i64 (ad x2.1 b3.1), .int .i64 (ad x2.2 b3.2), .int .i64 (sb b3.1 x2.1), .int .i64 (sb b3.2 x2.2)]) ta64 (s_8.trans e669_8) (Blk.cellsFrom (BlkO.evo (by decide) hE b669_g387).2 0 rfl) rfl)
      refine steps_cons (fun own a wx hf hsl hE => ?_) ?_
      · obtain ⟨s_10, -⟩ := hsl
        exact sg_plain rfl rfl (or_field fo32_1 (s_10.trans e669_10) (by rfl))
      refine steps_cons (fun own a wx hf hsl hE => ?_) ?_
      · obtain ⟨(f_60 : a.eval (.tmp 60) = .pointer (some ⟨g612, 1, none⟩)), -⟩ := hf
        exact sg_plain rfl rfl (or_load1 to3 f_60 (Blk.at_ (BlkO.evo (by decide) hE b669_g612).2 1 rfl))
      refine steps_cons (fun own a wx hf hsl hE => ?_) ?_
      · obtain ⟨(f_59 : a.eval (.tmp 59) = .agg #[.int .i64 (ad x2.1 b3.1), .int .i64 (ad x2.2 b3.2), .int .i64 (sb b3.1 x2.1), .int .i64 (sb b3.2 x2.2)]), (f_61 : a.eval (.tmp 61) = .int .i64 x609.1.2), -⟩ := hf
        exact sg_plain rfl rfl (or_call cf41 (args2 f_59 f_61) (ring_beside_over_w _ ((ad x2.1 b3.1, ad x2.2 b3.2), (sb b3.1 x2.1, sb b3.2 x2.2)) x609.1.2  r696 hr696) post_val)
      refine steps_cons (fun own a wx hf hsl hE => ?_) ?_
      · obtain ⟨(f_62 : a.eval (.tmp 62) = .bool r696), -⟩ := hf
        exact sg_plain rfl rfl (or_not f_62 rfl)
      refine steps_cons (fun own a wx hf hsl hE => ?_) ?_
      · obtain ⟨(f_63 : a.eval (.tmp 63) = .bool (!r696)), -⟩ := hf
        exact sg_plain rfl rfl (or_move f_63)
      refine steps_cons (fun own a wx hf hsl hE => ?_) ?_
      · obtain ⟨(f_64 : a.eval (.tmp 64) = .bool (!r696)), -⟩ := hf
        obtain ⟨s_8, -⟩ := hsl
        refine sg_t rfl rfl rfl f_64 (fun hg => ?_)
        exact or_load (l := [.int .i64 (ad x2.1 b3.1), .int .i64 (ad x2.2 b3.2), .int .i64 (sb b3.1 x2.1), .int .i64 (sb b3.2 x2.2)]) ta64 (s_8.trans e669_8) (Blk.cellsFrom (BlkO.evo (by decide) hE b669_g387).2 0 rfl) rfl
      refine steps_cons (fun own a wx hf hsl hE => ?_) ?_
      · obtain ⟨(f_64 : a.eval (.tmp 64) = .bool (!r696)), -⟩ := hf
        obtain ⟨s_11, -⟩ := hsl
        refine sg_t rfl rfl rfl f_64 (fun hg => ?_)
        exact or_field fo32_1 (s_11.trans e669_11) (by rfl)
      refine steps_cons (fun own a wx hf hsl hE => ?_) ?_
      · obtain ⟨(f_64 : a.eval (.tmp 64) = .bool (!r696)), c_66, -⟩ := hf
        refine sg_t rfl rfl rfl f_64 (fun hg => ?_)
        have f_66 : a.eval (.tmp 66) = .pointer (some ⟨g616, 1, none⟩) := c_66.1 hg
        exact or_load1 to3 f_66 (Blk.at_ (BlkO.evo (by decide) hE b669_g616).2 1 rfl)
      refine steps_cons (fun own a wx hf hsl hE => ?_) ?_
      · obtain ⟨(f_64 : a.eval (.tmp 64) = .bool (!r696)), c_65, c_67, -⟩ := hf
        refine sg_t rfl rfl rfl f_64 (fun hg => ?_)
        have f_65 : a.eval (.tmp 65) = .agg #[.int .i64 (ad x2.1 b3.1), .int .i64 (ad x2.2 b3.2), .int .i64 (sb b3.1 x2.1), .int .i64 (sb b3.2 x2.2)] := c_65.1 hg
        have f_67 : a.eval (.tmp 67) = .int .i64 x609.2.2 := c_67.1 hg
        exact or_call cf41 (args2 f_65 f_67) (ring_beside_over_w _ ((ad x2.1 b3.1, ad x2.2 b3.2), (sb b3.1 x2.1, sb b3.2 x2.2)) x609.2.2  r697 (gd_t hr697 hg)) post_val
      refine steps_cons (fun own a wx hf hsl hE => ?_) ?_
      · obtain ⟨(f_64 : a.eval (.tmp 64) = .bool (!r696)), c_68, -⟩ := hf
        exact sg_plain rfl rfl (or_and f_64 (fun hx => c_68.1 hx) rfl rfl)
      refine steps_cons (fun own a wx hf hsl hE => ?_) ?_
      · obtain ⟨(f_69 : a.eval (.tmp 69) = .bool ((!r696) && r697)), -⟩ := hf
        exact sg_plain rfl rfl (or_move f_69)
      refine steps_cons (fun own a wx hf hsl hE => ?_) ?_
      · obtain ⟨(f_70 : a.eval (.tmp 70) = .bool ((!r696) && r697)), -⟩ := hf
        obtain ⟨s_8, -⟩ := hsl
        refine sg_t rfl rfl rfl f_70 (fun hg => ?_)
        exact or_load (l := [.int .i64 (ad x2.1 b3.1), .int .i64 (ad x2.2 b3.2), .int .i64 (sb b3.1 x2.1), .int .i64 (sb b3.2 x2.2)]) ta64 (s_8.trans e669_8) (Blk.cellsFrom (BlkO.evo (by decide) hE b669_g387).2 0 rfl) rfl
      refine steps_cons (fun own a wx hf hsl hE => ?_) ?_
      · obtain ⟨(f_70 : a.eval (.tmp 70) = .bool ((!r696) && r697)), -⟩ := hf
        obtain ⟨s_10, -⟩ := hsl
        refine sg_t rfl rfl rfl f_70 (fun hg => ?_)
        exact or_load (l := [.int .i64 x609.1.1, .int .i64 x609.1.2]) ta32 (s_10.trans e669_10) (Blk.cellsFrom (BlkO.evo (by decide) hE b669_g612).2 0 rfl) rfl
      refine steps_cons (fun own a wx hf hsl hE => ?_) ?_
      · obtain ⟨(f_70 : a.eval (.tmp 70) = .bool ((!r696) && r697)), -⟩ := hf
        obtain ⟨s_11, -⟩ := hsl
        refine sg_t rfl rfl rfl f_70 (fun hg => ?_)
        exact or_load (l := [.int .i64 x609.2.1, .int .i64 x609.2.2]) ta32 (s_11.trans e669_11) (Blk.cellsFrom (BlkO.evo (by decide) hE b669_g616).2 0 rfl) rfl
      refine steps_cons (fun own a wx hf hsl hE => ?_) ?_
      · obtain ⟨(f_70 : a.eval (.tmp 70) = .bool ((!r696) && r697)), c_71, c_72, c_73, -⟩ := hf
        refine sg_t rfl rfl rfl f_70 (fun hg => ?_)
        have f_71 : a.eval (.tmp 71) = .agg #[.int .i64 (ad x2.1 b3.1), .int .i64 (ad x2.2 b3.2), .int .i64 (sb b3.1 x2.1), .int .i64 (sb b3.2 x2.2)] := c_71.1 hg
        have f_72 : a.eval (.tmp 72) = .agg #[.int .i64 x609.1.1, .int .i64 x609.1.2] := c_72.1 hg
        have f_73 : a.eval (.tmp 73) = .agg #[.int .i64 x609.2.1, .int .i64 x609.2.2] := c_73.1 hg
        exact or_call cf42 (args3 f_71 f_72 f_73) (ring_beside_side_w _ ((ad x2.1 b3.1, ad x2.2 b3.2), (sb b3.1 x2.1, sb b3.2 x2.2)) x609.1 x609.2  r698 (gd_t hr698 hg)) post_val
      refine steps_cons (fun own a wx hf hsl hE => ?_) ?_
      · obtain ⟨(f_70 : a.eval (.tmp 70) = .bool ((!r696) && r697)), c_74, -⟩ := hf
        refine sg_t rfl rfl rfl f_70 (fun hg => ?_)
        have f_74 : a.eval (.tmp 74) = .int .i64 r698 := c_74.1 hg
        exact or_gtr f_74 rfl rfl
      refine steps_cons (fun own a wx hf hsl hE => ?_) ?_
      · obtain ⟨(f_70 : a.eval (.tmp 70) = .bool ((!r696) && r697)), c_75, -⟩ := hf
        exact sg_plain rfl rfl (or_and f_70 (fun hx => c_75.1 hx) rfl (osome hx699).symm)
      refine steps_cons (fun own a wx hf hsl hE => ?_) ?_
      · obtain ⟨(f_76 : a.eval (.tmp 76) = .bool x699), -⟩ := hf
        exact sg_plain rfl rfl (or_assign f_76)
      exact steps_nil
    intro own700 a700 w700 hd700 hz700 hk700 hf700 hE700
    have e700_6 : a700.eval (.tmp 6) = .pointer (some ⟨g368, 0, none⟩) := (hk700 6 rfl).trans e669_6
    have e700_7 : a700.eval (.tmp 7) = .pointer (some ⟨g370, 0, none⟩) := (hk700 7 rfl).trans e669_7
    have e700_8 : a700.eval (.tmp 8) = .pointer (some ⟨g387, 0, none⟩) := (hk700 8 rfl).trans e669_8
    have e700_9 : a700.eval (.tmp 9) = .pointer (some ⟨g391, 0, none⟩) := (hk700 9 rfl).trans e669_9
    have e700_10 : a700.eval (.tmp 10) = .pointer (some ⟨g612, 0, none⟩) := (hk700 10 rfl).trans e669_10
    have e700_11 : a700.eval (.tmp 11) = .pointer (some ⟨g616, 0, none⟩) := (hk700 11 rfl).trans e669_11
    have e700_51 : a700.eval (.tmp 51) = .func (.func 55) #[] #[.pointer (some ⟨cA396, 0, none⟩)] := (hk700 51 rfl).trans e669_51
    obtain ⟨(f_58 : a700.eval (.tmp 58) = .bool x699), -⟩ := hf700 [18] rfl
    have e700_58 := f_58
    have hX700 := Evo.stepK hX669 hE700 rfl
    have b700_g368 := BlkO.evo (by decide) hE700 b669_g368
    have b700_g370 := BlkO.evo (by decide) hE700 b669_g370
    have b700_g387 := BlkO.evo (by decide) hE700 b669_g387
    have b700_g391 := BlkO.evo (by decide) hE700 b669_g391
    have b700_cA396 := BlkO.evo (by decide) hE700 b669_cA396
    have b700_Al1 := RdO.evo rfl hE700 b669_Al1
    have b700_g612 := BlkO.evo (by decide) hE700 b669_g612
    have b700_g616 := BlkO.evo (by decide) hE700 b669_g616
    have b700_rc := RcO.evo (by decide) hE700 b669_rc
    have b700_mk := MkO.evo (by decide) hE700 b669_mk
    refine fl_cond e700_58 hs (fun c701 hs => ?_) (fun c701 hs => ?_)
    · refine rg_plain (n := 101) (rs := [Fct.at_ 393 g391 3 #[.int .i64 n503]]) (own0 := own700) (K := [393])
          (bs := [0, 1, 3])
          (ds := [⟨[3], [9], [], Fct.val 77 (.int .i64 n503)⟩,
          ⟨[0], [], [], Fct.val 78 (.int .i64 (ad n503 1))⟩,
          ⟨[1, 3], [9], [393], Fct.at_ 702 g391 3 #[.int .i64 (ad n503 1)]⟩]) (by kernel_rfl) hz700 hd700 (by simp only [List.forall_mem_cons]; exact ⟨b700_g391, fun _ h => nomatch h⟩) ?_ ?_
      · refine steps_cons (fun own a wx hf hsl hE => ?_) ?_
        · obtain ⟨(b_g391 : BlkO own 393 wx g391 3 #[.int .i64 n503]), -⟩ := hf
          obtain ⟨s_9, -⟩ := hsl
          exact sg_plain rfl rfl (or_load1 to3 (s_9.trans e700_9) (Blk.at_ b_g391.2 0 rfl))
        refine steps_cons (fun own a wx hf hsl hE => ?_) ?_
        · obtain ⟨(f_77 : a.eval (.tmp 77) = .int .i64 n503), -⟩ := hf
          exact sg_plain rfl rfl (or_add f_77 rfl rfl)
        refine steps_cons (fun own a wx hf hsl hE => ?_) ?_
        · obtain ⟨(f_78 : a.eval (.tmp 78) = .int .i64 (ad n503 1)), (b_g391 : BlkO own 393 wx g391 3 #[.int .i64 n503]), -⟩ := hf
          obtain ⟨s_9, -⟩ := hsl
          exact sg_plain rfl rfl (or_store1 (lab := 393) (lab2 := 702) ts3 (s_9.trans e700_9) f_78 b_g391 (by simp) rfl (mem_of rfl) (by decide) rfl (fun own' a' w' ha hb => hb))
        exact steps_nil
      intro own703 a703 w703 hd703 hz703 hk703 hf703 hE703
      have e703_6 : a703.eval (.tmp 6) = .pointer (some ⟨g368, 0, none⟩) := (hk703 6 rfl).trans e700_6
      have e703_7 : a703.eval (.tmp 7) = .pointer (some ⟨g370, 0, none⟩) := (hk703 7 rfl).trans e700_7
      have e703_8 : a703.eval (.tmp 8) = .pointer (some ⟨g387, 0, none⟩) := (hk703 8 rfl).trans e700_8
      have e703_9 : a703.eval (.tmp 9) = .pointer (some ⟨g391, 0, none⟩) := (hk703 9 rfl).trans e700_9
      have e703_51 : a703.eval (.tmp 51) = .func (.func 55) #[] #[.pointer (some ⟨cA396, 0, none⟩)] := (hk703 51 rfl).trans e700_51
      obtain ⟨(b_g391 : BlkO own703 702 w703 g391 3 #[.int .i64 (ad n503 1)]), -⟩ := hf703 [2] rfl
      have hX703 := Evo.stepK hX700 hE703 rfl
      have b703_g368 := BlkO.evo (by decide) hE703 b700_g368
      have b703_g370 := BlkO.evo (by decide) hE703 b700_g370
      have b703_g387 := BlkO.evo (by decide) hE703 b700_g387
      have b703_cA396 := BlkO.evo (by decide) hE703 b700_cA396
      have b703_Al1 := RdO.evo rfl hE703 b700_Al1
      have b703_rc := RcO.evo (by decide) hE703 b700_rc
      have b703_mk := MkO.evo (by decide) hE703 b700_mk
      have b703_g391 := b_g391
      exact (K694 _ _ (rl [(702, 692)] own703) _ hd703 hz703 e703_6 e703_7 e703_8 e703_9 e703_51 (Evo.rlK hX703 rfl) (BlkO.rl_ (mm := [(702, 692)]) b703_g368) (BlkO.rl_ (mm := [(702, 692)]) b703_g370) (BlkO.rl_ (mm := [(702, 692)]) b703_g387) (BlkO.rl_ (mm := [(702, 692)]) b703_g391) (BlkO.rl_ (mm := [(702, 692)]) b703_cA396) (RdO.rl_ (mm := [(702, 692)]) b703_Al1) (MkO.rl_ (mm := [(702, 692)]) b703_mk) (RcO.rl_ (mm := [(702, 692)]) b703_rc) hs).1
    obtain ⟨r704, hr704, hs⟩ := obind hs
    obtain ⟨r705, hr705, hs⟩ := obind hs
    obtain ⟨r706, hr706, hs⟩ := obind hs
    obtain ⟨x707, hx707, hs⟩ := obind hs
    refine rg_plain_seq (n := 101) (rs := []) (own0 := own700) (K := [])
        (bs := [0, 0, 2, 7, 15, 31, 31, 95, 255, 511, 1023, 2047, 4095, 4095, 4095, 32767, 65535, 131071, 262143])
        (ds := [⟨[], [8], [], Fct.val 80 (.agg #[.int .i64 (ad x2.1 b3.1), .int .i64 (ad x2.2 b3.2), .int .i64 (sb b3.1 x2.1), .int .i64 (sb b3.2 x2.2)])⟩,
        ⟨[], [10], [], Fct.val 81 (.pointer (some ⟨g612, 1, none⟩))⟩,
        ⟨[1], [], [], Fct.val 82 (.int .i64 x609.1.2)⟩,
        ⟨[0, 2], [], [], Fct.val 83 (.bool r704)⟩,
        ⟨[3], [], [], Fct.val 84 (.bool r704)⟩,
        ⟨[4], [8], [], Fct.cond r704 (some 85) (Fct.val 85 (.agg #[.int .i64 (ad x2.1 b3.1), .int .i64 (ad x2.2 b3.2), .int .i64 (sb b3.1 x2.1), .int .i64 (sb b3.2 x2.2)]))⟩,
        ⟨[4], [11], [], Fct.cond r704 (some 86) (Fct.val 86 (.pointer (some ⟨g616, 1, none⟩)))⟩,
        ⟨[4, 6], [], [], Fct.cond r704 (some 87) (Fct.val 87 (.int .i64 x609.2.2))⟩,
        ⟨[4, 5, 7], [], [], Fct.cond r704 (some 88) (Fct.val 88 (.bool r705))⟩,
        ⟨[4, 8], [], [], Fct.cond r704 (some 89) (Fct.val 89 (.bool (!r705)))⟩,
        ⟨[4, 9], [], [], Fct.val 90 (.bool (r704 && (!r705)))⟩,
        ⟨[10], [], [], Fct.val 91 (.bool (r704 && (!r705)))⟩,
        ⟨[11], [8], [], Fct.cond (r704 && (!r705)) (some 92) (Fct.val 92 (.agg #[.int .i64 (ad x2.1 b3.1), .int .i64 (ad x2.2 b3.2), .int .i64 (sb b3.1 x2.1), .int .i64 (sb b3.2 x2.2)]))⟩,
        ⟨[11], [10], [], Fct.cond (r704 && (!r705)) (some 93) (Fct.val 93 (.agg #[.int .i64 x609.1.1, .int .i64 x609.1.2]))⟩,
        ⟨[11], [11], [], Fct.cond (r704 && (!r705)) (some 94) (Fct.val 94 (.agg #[.int .i64 x609.2.1, .int .i64 x609.2.2]))⟩,
        ⟨[11, 12, 13, 14], [], [], Fct.cond (r704 && (!r705)) (some 95) (Fct.val 95 (.int .i64 r706))⟩,
        ⟨[11, 15], [], [], Fct.cond (r704 && (!r705)) (some 96) (Fct.val 96 (.bool (decide (r706 < 0))))⟩,
        ⟨[11, 16], [], [], Fct.val 97 (.bool x707)⟩,
        ⟨[17], [], [], Fct.val 79 (.bool x707)⟩]) (by kernel_rfl) hz700 hd700 (fun _ h => nomatch h) ?_ ?_
    · refine steps_cons (fun own a wx hf hsl hE => ?_) ?_
      · obtain ⟨s_8, -⟩ := hsl
        exact sg_plain rfl rfl (or_load (l := [.int .i64 (ad x2.1 b3.1), .int .i64 (ad x2.2 b3.2), .int .i64 (sb b3.1 x2.1), .int .i64 (sb b3.2 x2.2)]) ta64 (s_8.trans e700_8) (Blk.cellsFrom (BlkO.evo (by decide) hE b700_g387).2 0 rfl) rfl)
      refine steps_cons (fun own a wx hf hsl hE => ?_) ?_
      · obtain ⟨s_10, -⟩ := hsl
        exact sg_plain rfl rfl (or_field fo32_1 (s_10.trans e700_10) (by rfl))
      refine steps_cons (fun own a wx hf hsl hE => ?_) ?_
      · obtain ⟨(f_81 : a.eval (.tmp 81) = .pointer (some ⟨g612, 1, none⟩)), -⟩ := hf
        exact sg_plain rfl rfl (or_load1 to3 f_81 (Blk.at_ (BlkO.evo (by decide) hE b700_g612).2 1 rfl))
      refine steps_cons (fun own a wx hf hsl hE => ?_) ?_
      · obtain ⟨(f_80 : a.eval (.tmp 80) = .agg #[.int .i64 (ad x2.1 b3.1), .int .i64 (ad x2.2 b3.2), .int .i64 (sb b3.1 x2.1), .int .i64 (sb b3.2 x2.2)]), (f_82 : a.eval (.tmp 82) = .int .i64 x609.1.2), -⟩ := hf
        exact sg_plain rfl rfl (or_call cf41 (args2 f_80 f_82) (ring_beside_over_w _ ((ad x2.1 b3.1, ad x2.2 b3.2), (sb b3.1 x2.1, sb b3.2 x2.2)) x609.1.2  r704 hr704) post_val)
      refine steps_cons (fun own a wx hf hsl hE => ?_) ?_
      · obtain ⟨(f_83 : a.eval (.tmp 83) = .bool r704), -⟩ := hf
        exact sg_plain rfl rfl (or_move f_83)
      refine steps_cons (fun own a wx hf hsl hE => ?_) ?_
      · obtain ⟨(f_84 : a.eval (.tmp 84) = .bool r704), -⟩ := hf
        obtain ⟨s_8, -⟩ := hsl
        refine sg_t rfl rfl rfl f_84 (fun hg => ?_)
        exact or_load (l := [.int .i64 (ad x2.1 b3.1), .int .i64 (ad x2.2 b3.2), .int .i64 (sb b3.1 x2.1), .int .i64 (sb b3.2 x2.2)]) ta64 (s_8.trans e700_8) (Blk.cellsFrom (BlkO.evo (by decide) hE b700_g387).2 0 rfl) rfl
      refine steps_cons (fun own a wx hf hsl hE => ?_) ?_
      · obtain ⟨(f_84 : a.eval (.tmp 84) = .bool r704), -⟩ := hf
        obtain ⟨s_11, -⟩ := hsl
        refine sg_t rfl rfl rfl f_84 (fun hg => ?_)
        exact or_field fo32_1 (s_11.trans e700_11) (by rfl)
      refine steps_cons (fun own a wx hf hsl hE => ?_) ?_
      · obtain ⟨(f_84 : a.eval (.tmp 84) = .bool r704), c_86, -⟩ := hf
        refine sg_t rfl rfl rfl f_84 (fun hg => ?_)
        have f_86 : a.eval (.tmp 86) = .pointer (some ⟨g616, 1, none⟩) := c_86.1 hg
        exact or_load1 to3 f_86 (Blk.at_ (BlkO.evo (by decide) hE b700_g616).2 1 rfl)
      refine steps_cons (fun own a wx hf hsl hE => ?_) ?_
      · obtain ⟨(f_84 : a.eval (.tmp 84) = .bool r704), c_85, c_87, -⟩ := hf
        refine sg_t rfl rfl rfl f_84 (fun hg => ?_)
        have f_85 : a.eval (.tmp 85) = .agg #[.int .i64 (ad x2.1 b3.1), .int .i64 (ad x2.2 b3.2), .int .i64 (sb b3.1 x2.1), .int .i64 (sb b3.2 x2.2)] := c_85.1 hg
        have f_87 : a.eval (.tmp 87) = .int .i64 x609.2.2 := c_87.1 hg
        exact or_call cf41 (args2 f_85 f_87) (ring_beside_over_w _ ((ad x2.1 b3.1, ad x2.2 b3.2), (sb b3.1 x2.1, sb b3.2 x2.2)) x609.2.2  r705 (gd_t hr705 hg)) post_val
      refine steps_cons (fun own a wx hf hsl hE => ?_) ?_
      · obtain ⟨(f_84 : a.eval (.tmp 84) = .bool r704), c_88, -⟩ := hf
        refine sg_t rfl rfl rfl f_84 (fun hg => ?_)
        have f_88 : a.eval (.tmp 88) = .bool r705 := c_88.1 hg
        exact or_not f_88 rfl
      refine steps_cons (fun own a wx hf hsl hE => ?_) ?_
      · obtain ⟨(f_84 : a.eval (.tmp 84) = .bool r704), c_89, -⟩ := hf
        exact sg_plain rfl rfl (or_and f_84 (fun hx => c_89.1 hx) rfl rfl)
      refine steps_cons (fun own a wx hf hsl hE => ?_) ?_
      · obtain ⟨(f_90 : a.eval (.tmp 90) = .bool (r704 && (!r705))), -⟩ := hf
        exact sg_plain rfl rfl (or_move f_90)
      refine steps_cons (fun own a wx hf hsl hE => ?_) ?_
      · obtain ⟨(f_91 : a.eval (.tmp 91) = .bool (r704 && (!r705))), -⟩ := hf
        obtain ⟨s_8, -⟩ := hsl
        refine sg_t rfl rfl rfl f_91 (fun hg => ?_)
        exact or_load (l := [.int .i64 (ad x2.1 b3.1), .int .i64 (ad x2.2 b3.2), .int .i64 (sb b3.1 x2.1), .int .i64 (sb b3.2 x2.2)]) ta64 (s_8.trans e700_8) (Blk.cellsFrom (BlkO.evo (by decide) hE b700_g387).2 0 rfl) rfl
      refine steps_cons (fun own a wx hf hsl hE => ?_) ?_
      · obtain ⟨(f_91 : a.eval (.tmp 91) = .bool (r704 && (!r705))), -⟩ := hf
        obtain ⟨s_10, -⟩ := hsl
        refine sg_t rfl rfl rfl f_91 (fun hg => ?_)
        exact or_load (l := [.int .i64 x609.1.1, .int .i64 x609.1.2]) ta32 (s_10.trans e700_10) (Blk.cellsFrom (BlkO.evo (by decide) hE b700_g612).2 0 rfl) rfl
      refine steps_cons (fun own a wx hf hsl hE => ?_) ?_
      · obtain ⟨(f_91 : a.eval (.tmp 91) = .bool (r704 && (!r705))), -⟩ := hf
        obtain ⟨s_11, -⟩ := hsl
        refine sg_t rfl rfl rfl f_91 (fun hg => ?_)
        exact or_load (l := [.int .i64 x609.2.1, .int .i64 x609.2.2]) ta32 (s_11.trans e700_11) (Blk.cellsFrom (BlkO.evo (by decide) hE b700_g616).2 0 rfl) rfl
      refine steps_cons (fun own a wx hf hsl hE => ?_) ?_
      · obtain ⟨(f_91 : a.eval (.tmp 91) = .bool (r704 && (!r705))), c_92, c_93, c_94, -⟩ := hf
        refine sg_t rfl rfl rfl f_91 (fun hg => ?_)
        have f_92 : a.eval (.tmp 92) = .agg #[.int .i64 (ad x2.1 b3.1), .int .i64 (ad x2.2 b3.2), .int .i64 (sb b3.1 x2.1), .int .i64 (sb b3.2 x2.2)] := c_92.1 hg
        have f_93 : a.eval (.tmp 93) = .agg #[.int .i64 x609.1.1, .int .i64 x609.1.2] := c_93.1 hg
        have f_94 : a.eval (.tmp 94) = .agg #[.int .i64 x609.2.1, .int .i64 x609.2.2] := c_94.1 hg
        exact or_call cf42 (args3 f_92 f_93 f_94) (ring_beside_side_w _ ((ad x2.1 b3.1, ad x2.2 b3.2), (sb b3.1 x2.1, sb b3.2 x2.2)) x609.1 x609.2  r706 (gd_t hr706 hg)) post_val
      refine steps_cons (fun own a wx hf hsl hE => ?_) ?_
      · obtain ⟨(f_91 : a.eval (.tmp 91) = .bool (r704 && (!r705))), c_95, -⟩ := hf
        refine sg_t rfl rfl rfl f_91 (fun hg => ?_)
        have f_95 : a.eval (.tmp 95) = .int .i64 r706 := c_95.1 hg
        exact or_lss f_95 rfl rfl
      refine steps_cons (fun own a wx hf hsl hE => ?_) ?_
      · obtain ⟨(f_91 : a.eval (.tmp 91) = .bool (r704 && (!r705))), c_96, -⟩ := hf
        exact sg_plain rfl rfl (or_and f_91 (fun hx => c_96.1 hx) rfl (osome hx707).symm)
      refine steps_cons (fun own a wx hf hsl hE => ?_) ?_
      · obtain ⟨(f_97 : a.eval (.tmp 97) = .bool x707), -⟩ := hf
        exact sg_plain rfl rfl (or_assign f_97)
      exact steps_nil
    intro own708 a708 w708 hd708 hz708 hk708 hf708 hE708
    have e708_6 : a708.eval (.tmp 6) = .pointer (some ⟨g368, 0, none⟩) := (hk708 6 rfl).trans e700_6
    have e708_7 : a708.eval (.tmp 7) = .pointer (some ⟨g370, 0, none⟩) := (hk708 7 rfl).trans e700_7
    have e708_8 : a708.eval (.tmp 8) = .pointer (some ⟨g387, 0, none⟩) := (hk708 8 rfl).trans e700_8
    have e708_9 : a708.eval (.tmp 9) = .pointer (some ⟨g391, 0, none⟩) := (hk708 9 rfl).trans e700_9
    have e708_51 : a708.eval (.tmp 51) = .func (.func 55) #[] #[.pointer (some ⟨cA396, 0, none⟩)] := (hk708 51 rfl).trans e700_51
    obtain ⟨(f_79 : a708.eval (.tmp 79) = .bool x707), -⟩ := hf708 [18] rfl
    have e708_79 := f_79
    have hX708 := Evo.stepK hX700 hE708 rfl
    have b708_g368 := BlkO.evo (by decide) hE708 b700_g368
    have b708_g370 := BlkO.evo (by decide) hE708 b700_g370
    have b708_g387 := BlkO.evo (by decide) hE708 b700_g387
    have b708_g391 := BlkO.evo (by decide) hE708 b700_g391
    have b708_cA396 := BlkO.evo (by decide) hE708 b700_cA396
    have b708_Al1 := RdO.evo rfl hE708 b700_Al1
    have b708_rc := RcO.evo (by decide) hE708 b700_rc
    have b708_mk := MkO.evo (by decide) hE708 b700_mk
    refine fl_cond e708_79 hs (fun c709 hs => ?_) (fun c709 hs => ?_)
    · refine rg_plain (n := 101) (rs := [Fct.at_ 393 g391 3 #[.int .i64 n503]]) (own0 := own708) (K := [393])
          (bs := [0, 1, 3])
          (ds := [⟨[3], [9], [], Fct.val 98 (.int .i64 n503)⟩,
          ⟨[0], [], [], Fct.val 99 (.int .i64 (sb n503 1))⟩,
          ⟨[1, 3], [9], [393], Fct.at_ 710 g391 3 #[.int .i64 (sb n503 1)]⟩]) (by kernel_rfl) hz708 hd708 (by simp only [List.forall_mem_cons]; exact ⟨b708_g391, fun _ h => nomatch h⟩) ?_ ?_
      · refine steps_cons (fun own a wx hf hsl hE => ?_) ?_
        · obtain ⟨(b_g391 : BlkO own 393 wx g391 3 #[.int .i64 n503]), -⟩ := hf
          obtain ⟨s_9, -⟩ := hsl
          exact sg_plain rfl rfl (or_load1 to3 (s_9.trans e708_9) (Blk.at_ b_g391.2 0 rfl))
        refine steps_cons (fun own a wx hf hsl hE => ?_) ?_
        · obtain ⟨(f_98 : a.eval (.tmp 98) = .int .i64 n503), -⟩ := hf
          exact sg_plain rfl rfl (or_sub f_98 rfl rfl)
        refine steps_cons (fun own a wx hf hsl hE => ?_) ?_
        · obtain ⟨(f_99 : a.eval (.tmp 99) = .int .i64 (sb n503 1)), (b_g391 : BlkO own 393 wx g391 3 #[.int .i64 n503]), -⟩ := hf
          obtain ⟨s_9, -⟩ := hsl
          exact sg_plain rfl rfl (or_store1 (lab := 393) (lab2 := 710) ts3 (s_9.trans e708_9) f_99 b_g391 (by simp) rfl (mem_of rfl) (by decide) rfl (fun own' a' w' ha hb => hb))
        exact steps_nil
      intro own711 a711 w711 hd711 hz711 hk711 hf711 hE711
      have e711_6 : a711.eval (.tmp 6) = .pointer (some ⟨g368, 0, none⟩) := (hk711 6 rfl).trans e708_6
      have e711_7 : a711.eval (.tmp 7) = .pointer (some ⟨g370, 0, none⟩) := (hk711 7 rfl).trans e708_7
      have e711_8 : a711.eval (.tmp 8) = .pointer (some ⟨g387, 0, none⟩) := (hk711 8 rfl).trans e708_8
      have e711_9 : a711.eval (.tmp 9) = .pointer (some ⟨g391, 0, none⟩) := (hk711 9 rfl).trans e708_9
      have e711_51 : a711.eval (.tmp 51) = .func (.func 55) #[] #[.pointer (some ⟨cA396, 0, none⟩)] := (hk711 51 rfl).trans e708_51
      obtain ⟨(b_g391 : BlkO own711 710 w711 g391 3 #[.int .i64 (sb n503 1)]), -⟩ := hf711 [2] rfl
      have hX711 := Evo.stepK hX708 hE711 rfl
      have b711_g368 := BlkO.evo (by decide) hE711 b708_g368
      have b711_g370 := BlkO.evo (by decide) hE711 b708_g370
      have b711_g387 := BlkO.evo (by decide) hE711 b708_g387
      have b711_cA396 := BlkO.evo (by decide) hE711 b708_cA396
      have b711_Al1 := RdO.evo rfl hE711 b708_Al1
      have b711_rc := RcO.evo (by decide) hE711 b708_rc
      have b711_mk := MkO.evo (by decide) hE711 b708_mk
      have b711_g391 := b_g391
      exact (K694 _ _ (rl [(710, 692)] own711) _ hd711 hz711 e711_6 e711_7 e711_8 e711_9 e711_51 (Evo.rlK hX711 rfl) (BlkO.rl_ (mm := [(710, 692)]) b711_g368) (BlkO.rl_ (mm := [(710, 692)]) b711_g370) (BlkO.rl_ (mm := [(710, 692)]) b711_g387) (BlkO.rl_ (mm := [(710, 692)]) b711_g391) (BlkO.rl_ (mm := [(710, 692)]) b711_cA396) (RdO.rl_ (mm := [(710, 692)]) b711_Al1) (MkO.rl_ (mm := [(710, 692)]) b711_mk) (RcO.rl_ (mm := [(710, 692)]) b711_rc) hs).1
    refine fl_skip ?_
    exact (K694 _ _ (rl [(393, 692)] own708) _ hd708 hz708 e708_6 e708_7 e708_8 e708_9 e708_51 (Evo.rlK hX708 rfl) (BlkO.rl_ (mm := [(393, 692)]) b708_g368) (BlkO.rl_ (mm := [(393, 692)]) b708_g370) (BlkO.rl_ (mm := [(393, 692)]) b708_g387) (BlkO.rl_ (mm := [(393, 692)]) b708_g391) (BlkO.rl_ (mm := [(393, 692)]) b708_cA396) (RdO.rl_ (mm := [(393, 692)]) b708_Al1) (MkO.rl_ (mm := [(393, 692)]) b708_mk) (RcO.rl_ (mm := [(393, 692)]) b708_rc) hs).1
  · rintro n503 a712 own712 w712 Ds712 hzz712 hd712 hz712 hkp712 hmk712 ⟨hE712, b712_g368, b712_g370, b712_g387, b712_g391, b712_cA396, b712_Al1⟩
    subst hzz712
    have hs : ring_Beside_b3 n503 = some r := hs
    have e712_6 : a712.eval (.tmp 6) = .pointer (some ⟨g368, 0, none⟩) := (hkp712 6).trans e398_6
    have e712_7 : a712.eval (.tmp 7) = .pointer (some ⟨g370, 0, none⟩) := (hkp712 7).trans e398_7
    have e712_8 : a712.eval (.tmp 8) = .pointer (some ⟨g387, 0, none⟩) := (hkp712 8).trans e398_8
    have e712_9 : a712.eval (.tmp 9) = .pointer (some ⟨g391, 0, none⟩) := (hkp712 9).trans e398_9
    have e712_51 : a712.eval (.tmp 51) = .func (.func 55) #[] #[.pointer (some ⟨cA396, 0, none⟩)] := (hkp712 51).trans e398_51
    refine hn399 _ _ ?_
    refine hn395 _ _ ?_
    refine rg_plain_seq (n := 101) (rs := [Fct.at_ 369 g368 3 #[.int .i64 0], Fct.at_ 371 g370 4 #[.bool false]]) (own0 := own712) (K := [369, 371])
        (bs := [0, 1, 3])
        (ds := [⟨[], [9], [], Fct.val 100 (.int .i64 n503)⟩,
        ⟨[0, 3], [6], [369], Fct.at_ 714 g368 3 #[.int .i64 n503]⟩,
        ⟨[4], [7], [371], Fct.at_ 715 g370 4 #[.bool true]⟩]) (by kernel_rfl) hz712 hd712 (by simp only [List.forall_mem_cons]; exact ⟨b712_g368, b712_g370, fun _ h => nomatch h⟩) ?_ ?_
    · refine steps_cons (fun own a wx hf hsl hE => ?_) ?_
      · obtain ⟨s_9, -⟩ := hsl
        exact sg_plain rfl rfl (or_load1 to3 (s_9.trans e712_9) (Blk.at_ (BlkO.evo (by decide) hE b712_g391).2 0 rfl))
      refine steps_cons (fun own a wx hf hsl hE => ?_) ?_
      · obtain ⟨(f_100 : a.eval (.tmp 100) = .int .i64 n503), (b_g368 : BlkO own 369 wx g368 3 #[.int .i64 0]), -⟩ := hf
        obtain ⟨s_6, -⟩ := hsl
        exact sg_plain rfl rfl (or_store1 (lab := 369) (lab2 := 714) ts3 (s_6.trans e712_6) f_100 b_g368 (by simp) rfl (mem_of rfl) (by decide) rfl (fun own' a' w' ha hb => hb))
      refine steps_cons (fun own a wx hf hsl hE => ?_) ?_
      · obtain ⟨(b_g370 : BlkO own 371 wx g370 4 #[.bool false]), -⟩ := hf
        obtain ⟨s_7, -⟩ := hsl
        exact sg_plain rfl rfl (or_store1 (lab := 371) (lab2 := 715) ts4 (s_7.trans e712_7) rfl b_g370 (by simp) rfl (mem_of rfl) (by decide) rfl (fun own' a' w' ha hb => hb))
      exact steps_nil
    intro own716 a716 w716 hd716 hz716 hk716 hf716 hE716
    have e716_6 : a716.eval (.tmp 6) = .pointer (some ⟨g368, 0, none⟩) := (hk716 6 rfl).trans e712_6
    have e716_7 : a716.eval (.tmp 7) = .pointer (some ⟨g370, 0, none⟩) := (hk716 7 rfl).trans e712_7
    obtain ⟨(b_g368 : BlkO own716 714 w716 g368 3 #[.int .i64 n503]), (b_g370 : BlkO own716 715 w716 g370 4 #[.bool true]), -⟩ := hf716 [1, 2] rfl
    have hX716 := Evo.step hE712 (fun _ => Nat.le_refl 0) hE716 rfl
    have b716_mk := MkO.evo (by decide) hE716 hmk712
    have b716_g368 := b_g368
    have b716_g370 := b_g370
    refine fl_ret ?_
    refine hret _ _ _ _ _ (.inl rfl) hd716 b716_mk (fun own717 w717 hE717 => ?_)
    have hX718 := Evo.step hX716 (fun _ => Nat.le_refl 0) hE717 rfl
    have b718_g368 := BlkO.evo (by decide) hE717 b716_g368
    have b718_g370 := BlkO.evo (by decide) hE717 b716_g370
    obtain rfl := osome hs
    exact ⟨_, results2_ rfl (RVal.cell_ e716_6 (run_loadVarOne to3 (Blk.at_ b718_g368.2 0 rfl))) (RVal.cell_ e716_7 (run_loadVarOne to4 (Blk.at_ b718_g370.2 0 rfl))), ⟨own717, rfl, hX718⟩⟩
  · rintro _ a719 own719 w719 Ds719 hzz719 hd719 hz719 hkp719 hmk719 ⟨hE719, b719_g368, b719_g370⟩
    subst hzz719
    have hs : ring_Beside_b4 = some r := hs
    have e719_6 : a719.eval (.tmp 6) = .pointer (some ⟨g368, 0, none⟩) := (hkp719 6).trans e398_6
    have e719_7 : a719.eval (.tmp 7) = .pointer (some ⟨g370, 0, none⟩) := (hkp719 7).trans e398_7
    refine fl_ret ?_
    refine hp399 _ _ _ rfl ?_
    refine hp395 _ _ _ rfl ?_
    refine hret _ _ _ _ _ (.inl rfl) hd719 hmk719 (fun own720 w720 hE720 => ?_)
    have hX721 := Evo.step hE719 (fun _ => Nat.le_refl 0) hE720 rfl
    have b721_g368 := BlkO.evo (by decide) hE720 b719_g368
    have b721_g370 := BlkO.evo (by decide) hE720 b719_g370
    obtain rfl := osome hs
    exact ⟨_, results2_ rfl (RVal.cell_ e719_6 (run_loadVarOne to3 (Blk.at_ b721_g368.2 0 rfl))) (RVal.cell_ e719_7 (run_loadVarOne to4 (Blk.at_ b721_g370.2 0 rfl))), ⟨own720, rfl, hX721⟩⟩

theorem law03_known_w (w : World) (r : Bool) (hs : law03_known = some r) :
    Calls Try.prog 12 #[] w fun e w' => ∃ own' : Own, e = .returned (.bool r) ∧ Evo [] (fun _ => 0) own' w w' := by
  refine fl_enter (n := 81) rfl rfl rfl (Nat.le_of_ble_eq_true rfl) ?_
  intro a0 Q hd0 hz0 harg hret
  clear harg
  have hE0 : Evo [] (fun _ => 0) (fun _ => 0) w w := Evo.refl _ _ _
  refine rg_plain_seq (n := 81) (rs := []) (own0 := (fun _ => 0)) (K := [])
      (bs := [0])
      (ds := [⟨[], [], [], Fct.val 0 (.bool false)⟩]) (by kernel_rfl) hz0 hd0 (fun _ h => nomatch h) ?_ ?_
  · refine steps_cons (fun own a wx hf hsl hE => ?_) ?_
    · exact sg_plain rfl rfl (or_assign rfl)
    exact steps_nil
  intro own33 a33 w33 hd33 hz33 hk33 hf33 hE33
  have hX33 := Evo.step hE0 (fun _ => Nat.le_refl 0) hE33 rfl
  refine rg_plain_seq (n := 81) (rs := []) (own0 := own33) (K := [])
      (bs := [0, 0, 0, 0, 15, 31])
      (ds := [⟨[], [], [], Fct.val 10 (.agg #[.int .i64 0, .int .i64 0])⟩,
      ⟨[], [], [], Fct.val 11 (.agg #[.int .i64 4, .int .i64 0])⟩,
      ⟨[], [], [], Fct.val 12 (.agg #[.int .i64 4, .int .i64 4])⟩,
      ⟨[], [], [], Fct.val 13 (.agg #[.int .i64 0, .int .i64 4])⟩,
      ⟨[0, 1, 2, 3], [], [], Fct.row 35 [] 14 32 R32 [(0, 0), (4, 0), (4, 4), (0, 4)]⟩,
      ⟨[4], [], [], Fct.rel [1, 14] (fun l => ∀ (A34 : Option Addr) (cA34 : Nat), l.getD 1 undef = .slice A34 [(0, 0), (4, 0), (4, 4), (0, 4)].length cA34 → l.getD 0 undef = .slice A34 [(0, 0), (4, 0), (4, 4), (0, 4)].length cA34)⟩]) (by kernel_rfl) hz33 hd33 (fun _ h => nomatch h) ?_ ?_
  · refine steps_cons (fun own a wx hf hsl hE => ?_) ?_
    · exact sg_plain rfl rfl (or_k [] rfl rfl trivial (by kernel_rfl))
    refine steps_cons (fun own a wx hf hsl hE => ?_) ?_
    · exact sg_plain rfl rfl (or_k [] rfl rfl trivial (by kernel_rfl))
    refine steps_cons (fun own a wx hf hsl hE => ?_) ?_
    · exact sg_plain rfl rfl (or_k [] rfl rfl trivial (by kernel_rfl))
    refine steps_cons (fun own a wx hf hsl hE => ?_) ?_
    · exact sg_plain rfl rfl (or_k [] rfl rfl trivial (by kernel_rfl))
    refine steps_cons (fun own a wx hf hsl hE => ?_) ?_
    · obtain ⟨(f_10 : a.eval (.tmp 10) = .agg #[.int .i64 0, .int .i64 0]), (f_11 : a.eval (.tmp 11) = .agg #[.int .i64 4, .int .i64 0]), (f_12 : a.eval (.tmp 12) = .agg #[.int .i64 4, .int .i64 4]), (f_13 : a.eval (.tmp 13) = .agg #[.int .i64 0, .int .i64 4]), -⟩ := hf
      exact sg_plain rfl rfl (or_lit (lab := 35) (e := 32) (cs := #[.int .i64 0, .int .i64 0, .int .i64 4, .int .i64 0, .int .i64 4, .int .i64 4, .int .i64 0, .int .i64 4]) (F := E32) (or_new [(10, .agg #[.int .i64 0, .int .i64 0]), (11, .agg #[.int .i64 4, .int .i64 0]), (12, .agg #[.int .i64 4, .int .i64 4]), (13, .agg #[.int .i64 0, .int .i64 4])] rfl rfl ⟨f_10, f_11, f_12, f_13, trivial⟩ (by kernel_rfl)) rfl rfl (show 4 ≤ maxLen by decide))
    refine steps_cons (fun own a wx hf hsl hE => ?_) ?_
    · obtain ⟨⟨⟨A34, cA34⟩, (f_14 : a.eval (.tmp 14) = .slice A34 [(0, 0), (4, 0), (4, 4), (0, 4)].length cA34), (b_A34 : RwO own 35 [] wx 32 R32 A34 cA34 [(0, 0), (4, 0), (4, 4), (0, 4)])⟩, -⟩ := hf
      exact sg_plain rfl rfl (or_mono (f := Fct.val 1 (.slice A34 [(0, 0), (4, 0), (4, 4), (0, 4)].length cA34)) (or_assign f_14) (fun own' a' w' v' hp h => fun _ _ h0' => by cases (f_14.symm.trans ((hp.2 14 (by decide)).symm.trans h0')); exact h))
    exact steps_nil
  intro own36 a36 w36 hd36 hz36 hk36 hf36 hE36
  obtain ⟨⟨⟨A34, cA34⟩, (f_14 : a36.eval (.tmp 14) = .slice A34 [(0, 0), (4, 0), (4, 4), (0, 4)].length cA34), (b_A34 : RwO own36 35 [] w36 32 R32 A34 cA34 [(0, 0), (4, 0), (4, 4), (0, 4)])⟩, (q_1 : ∀ (A34 : Option Addr) (cA34 : Nat), a36.eval (.tmp 14) = .slice A34 [(0, 0), (4, 0), (4, 4), (0, 4)].length cA34 → a36.eval (.tmp 1) = .slice A34 [(0, 0), (4, 0), (4, 4), (0, 4)].length cA34), -⟩ := hf36 [4, 5] rfl
  have f_1 := q_1 _ _ f_14
  have e36_1 := f_1
  have hX36 := Evo.step hX33 (fun _ => Nat.le_refl 0) hE36 rfl
  have b36_A34 := b_A34
  obtain ⟨r37, hr37, hs⟩ := obind hs
  refine rg_plain_seq (n := 81) (rs := []) (own0 := own36) (K := [])
      (bs := [0, 0, 3, 7, 15, 15, 31, 127])
      (ds := [⟨[], [1], [], Fct.val 16 (.slice A34 [(0, 0), (4, 0), (4, 4), (0, 4)].length cA34)⟩,
      ⟨[], [], [], Fct.val 17 (.agg #[.int .i64 2, .int .i64 2])⟩,
      ⟨[0, 1], [], [], Fct.val 18 (.tuple #[.int .i64 r37.1, .bool r37.2])⟩,
      ⟨[2], [], [], Fct.val 15 (.tuple #[.int .i64 r37.1, .bool r37.2])⟩,
      ⟨[3], [], [], Fct.val 19 (.int .i64 r37.1)⟩,
      ⟨[3], [], [], Fct.val 20 (.bool r37.2)⟩,
      ⟨[4], [], [], Fct.val 2 (.int .i64 r37.1)⟩,
      ⟨[5], [], [], Fct.val 3 (.bool r37.2)⟩]) (by kernel_rfl) hz36 hd36 (fun _ h => nomatch h) ?_ ?_
  · refine steps_cons (fun own a wx hf hsl hE => ?_) ?_
    · obtain ⟨s_1, -⟩ := hsl
      exact sg_plain rfl rfl (or_move (s_1.trans e36_1))
    refine steps_cons (fun own a wx hf hsl hE => ?_) ?_
    · exact sg_plain rfl rfl (or_k [] rfl rfl trivial (by kernel_rfl))
    refine steps_cons (fun own a wx hf hsl hE => ?_) ?_
    · obtain ⟨(f_16 : a.eval (.tmp 16) = .slice A34 [(0, 0), (4, 0), (4, 4), (0, 4)].length cA34), (f_17 : a.eval (.tmp 17) = .agg #[.int .i64 2, .int .i64 2]), -⟩ := hf
      exact sg_plain rfl rfl (or_call cf16 (args2 f_16 f_17) (ring_Winding_w _ [(0, 0), (4, 0), (4, 4), (0, 4)] A34 cA34 (2, 2) (RdO.zero (RwO.rd (RwO.evo rfl hE b36_A34))) r37 hr37) post_val)
    refine steps_cons (fun own a wx hf hsl hE => ?_) ?_
    · obtain ⟨(f_18 : a.eval (.tmp 18) = .tuple #[.int .i64 r37.1, .bool r37.2]), -⟩ := hf
      exact sg_plain rfl rfl (or_move f_18)
    refine steps_cons (fun own a wx hf hsl hE => ?_) ?_
    · obtain ⟨(f_15 : a.eval (.tmp 15) = .tuple #[.int .i64 r37.1, .bool r37.2]), -⟩ := hf
      exact sg_plain rfl rfl (or_k [(15, .tuple #[.int .i64 r37.1, .bool r37.2])] rfl rfl ⟨f_15, trivial⟩ (by kernel_rfl))
    refine steps_cons (fun own a wx hf hsl hE => ?_) ?_
    · obtain ⟨(f_15 : a.eval (.tmp 15) = .tuple #[.int .i64 r37.1, .bool r37.2]), -⟩ := hf
      exact sg_plain rfl rfl (or_k [(15, .tuple #[.int .i64 r37.1, .bool r37.2])] rfl rfl ⟨f_15, trivial⟩ (by kernel_rfl))
    refine steps_cons (fun own a wx hf hsl hE => ?_) ?_
    · obtain ⟨(f_19 : a.eval (.tmp 19) = .int .i64 r37.1), -⟩ := hf
      exact sg_plain rfl rfl (or_assign f_19)
    refine steps_cons (fun own a wx hf hsl hE => ?_) ?_
    · obtain ⟨(f_20 : a.eval (.tmp 20) = .bool r37.2), -⟩ := hf
      exact sg_plain rfl rfl (or_assign f_20)
    exact steps_nil
  intro own38 a38 w38 hd38 hz38 hk38 hf38 hE38
  have e38_1 : a38.eval (.tmp 1) = .slice A34 [(0, 0), (4, 0), (4, 4), (0, 4)].length cA34 := (hk38 1 rfl).trans e36_1
  obtain ⟨(f_2 : a38.eval (.tmp 2) = .int .i64 r37.1), (f_3 : a38.eval (.tmp 3) = .bool r37.2), -⟩ := hf38 [6, 7] rfl
  have e38_2 := f_2
  have e38_3 := f_3
  have hX38 := Evo.step hX36 (fun _ => Nat.le_refl 0) hE38 rfl
  have b38_A34 := RwO.evo rfl hE38 b36_A34
  obtain ⟨r39, hr39, hs⟩ := obind hs
  refine rg_plain_seq (n := 81) (rs := []) (own0 := own38) (K := [])
      (bs := [0, 0, 3, 7, 15, 15, 31, 127])
      (ds := [⟨[], [1], [], Fct.val 22 (.slice A34 [(0, 0), (4, 0), (4, 4), (0, 4)].length cA34)⟩,
      ⟨[], [], [], Fct.val 23 (.agg #[.int .i64 4, .int .i64 2])⟩,
      ⟨[0, 1], [], [], Fct.val 24 (.tuple #[.int .i64 r39.1, .bool r39.2])⟩,
      ⟨[2], [], [], Fct.val 21 (.tuple #[.int .i64 r39.1, .bool r39.2])⟩,
      ⟨[3], [], [], Fct.val 25 (.int .i64 r39.1)⟩,
      ⟨[3], [], [], Fct.val 26 (.bool r39.2)⟩,
      ⟨[4], [], [], Fct.val 4 (.int .i64 r39.1)⟩,
      ⟨[5], [], [], Fct.val 5 (.bool r39.2)⟩]) (by kernel_rfl) hz38 hd38 (fun _ h => nomatch h) ?_ ?_
  · refine steps_cons (fun own a wx hf hsl hE => ?_) ?_
    · obtain ⟨s_1, -⟩ := hsl
      exact sg_plain rfl rfl (or_move (s_1.trans e38_1))
    refine steps_cons (fun own a wx hf hsl hE => ?_) ?_
    · exact sg_plain rfl rfl (or_k [] rfl rfl trivial (by kernel_rfl))
    refine steps_cons (fun own a wx hf hsl hE => ?_) ?_
    · obtain ⟨(f_22 : a.eval (.tmp 22) = .slice A34 [(0, 0), (4, 0), (4, 4), (0, 4)].length cA34), (f_23 : a.eval (.tmp 23) = .agg #[.int .i64 4, .int .i64 2]), -⟩ := hf
      exact sg_plain rfl rfl (or_call cf16 (args2 f_22 f_23) (ring_Winding_w _ [(0, 0), (4, 0), (4, 4), (0, 4)] A34 cA34 (4, 2) (RdO.zero (RwO.rd (RwO.evo rfl hE b38_A34))) r39 hr39) post_val)
    refine steps_cons (fun own a wx hf hsl hE => ?_) ?_
    · obtain ⟨(f_24 : a.eval (.tmp 24) = .tuple #[.int .i64 r39.1, .bool r39.2]), -⟩ := hf
      exact sg_plain rfl rfl (or_move f_24)
    refine steps_cons (fun own a wx hf hsl hE => ?_) ?_
    · obtain ⟨(f_21 : a.eval (.tmp 21) = .tuple #[.int .i64 r39.1, .bool r39.2]), -⟩ := hf
      exact sg_plain rfl rfl (or_k [(21, .tuple #[.int .i64 r39.1, .bool r39.2])] rfl rfl ⟨f_21, trivial⟩ (by kernel_rfl))
    refine steps_cons (fun own a wx hf hsl hE => ?_) ?_
    · obtain ⟨(f_21 : a.eval (.tmp 21) = .tuple #[.int .i64 r39.1, .bool r39.2]), -⟩ := hf
      exact sg_plain rfl rfl (or_k [(21, .tuple #[.int .i64 r39.1, .bool r39.2])] rfl rfl ⟨f_21, trivial⟩ (by kernel_rfl))
    refine steps_cons (fun own a wx hf hsl hE => ?_) ?_
    · obtain ⟨(f_25 : a.eval (.tmp 25) = .int .i64 r39.1), -⟩ := hf
      exact sg_plain rfl rfl (or_assign f_25)
    refine steps_cons (fun own a wx hf hsl hE => ?_) ?_
    · obtain ⟨(f_26 : a.eval (.tmp 26) = .bool r39.2), -⟩ := hf
      exact sg_plain rfl rfl (or_assign f_26)
    exact steps_nil
  intro own40 a40 w40 hd40 hz40 hk40 hf40 hE40
  have e40_1 : a40.eval (.tmp 1) = .slice A34 [(0, 0), (4, 0), (4, 4), (0, 4)].length cA34 := (hk40 1 rfl).trans e38_1
  have e40_2 : a40.eval (.tmp 2) = .int .i64 r37.1 := (hk40 2 rfl).trans e38_2
  have e40_3 : a40.eval (.tmp 3) = .bool r37.2 := (hk40 3 rfl).trans e38_3
  obtain ⟨(f_5 : a40.eval (.tmp 5) = .bool r39.2), -⟩ := hf40 [7] rfl
  have e40_5 := f_5
  have hX40 := Evo.step hX38 (fun _ => Nat.le_refl 0) hE40 rfl
  have b40_A34 := RwO.evo rfl hE40 b38_A34
  obtain ⟨x41, hx41, hs⟩ := obind hs
  obtain ⟨x42, hx42, hs⟩ := obind hs
  obtain ⟨r43, hr43, hs⟩ := obind hs
  refine rg_draw_seq g_mixed (n := 81) (rs := []) (own0 := own40) (K := [])
      (bs := [0, 0, 2, 6, 0, 16, 48, 127, 255, 511, 511, 1023, 4095])
      (ds := [⟨[], [1], [], Fct.val 28 (.slice A34 [(0, 0), (4, 0), (4, 4), (0, 4)].length cA34)⟩,
      ⟨[], [1], [], Fct.val 29 (.slice A34 [(0, 0), (4, 0), (4, 4), (0, 4)].length cA34)⟩,
      ⟨[1], [], [], Fct.val 30 (.pointer (some ((adr A34).add ((0 : Int).toNat * R32.s))))⟩,
      ⟨[2], [], [], Fct.val 31 (.agg #[.int .i64 x41.1, .int .i64 x41.2])⟩,
      ⟨[], [1], [], Fct.val 32 (.slice A34 [(0, 0), (4, 0), (4, 4), (0, 4)].length cA34)⟩,
      ⟨[4], [], [], Fct.val 33 (.pointer (some ((adr A34).add ((1 : Int).toNat * R32.s))))⟩,
      ⟨[5], [], [], Fct.val 34 (.agg #[.int .i64 x42.1, .int .i64 x42.2])⟩,
      ⟨[0, 3, 6], [], [], Fct.val 35 (.tuple #[.int .i64 r43.1, .bool r43.2])⟩,
      ⟨[7], [], [], Fct.val 27 (.tuple #[.int .i64 r43.1, .bool r43.2])⟩,
      ⟨[8], [], [], Fct.val 36 (.int .i64 r43.1)⟩,
      ⟨[8], [], [], Fct.val 37 (.bool r43.2)⟩,
      ⟨[9], [], [], Fct.val 6 (.int .i64 r43.1)⟩,
      ⟨[10], [], [], Fct.val 7 (.bool r43.2)⟩]) (by kernel_rfl) hz40 hd40 (fun _ h => nomatch h) ?_ ?_
  · refine steps_cons (fun own a wx hf hsl hE => ?_) ?_
    · obtain ⟨s_1, -⟩ := hsl
      exact sg_plain rfl rfl (or_move (s_1.trans e40_1))
    refine steps_cons (fun own a wx hf hsl hE => ?_) ?_
    · obtain ⟨s_1, -⟩ := hsl
      exact sg_plain rfl rfl (or_move (s_1.trans e40_1))
    refine steps_cons (fun own a wx hf hsl hE => ?_) ?_
    · obtain ⟨(f_29 : a.eval (.tmp 29) = .slice A34 [(0, 0), (4, 0), (4, 4), (0, 4)].length cA34), -⟩ := hf
      exact sg_plain rfl rfl (or_index (R := R32) (l := [(0, 0), (4, 0), (4, 4), (0, 4)]) tl22 f_29 rfl (RdO.some_ (RwO.rd b40_A34) hx41) hx41)
    refine steps_cons (fun own a wx hf hsl hE => ?_) ?_
    · obtain ⟨(f_30 : a.eval (.tmp 30) = .pointer (some ((adr A34).add ((0 : Int).toNat * R32.s)))), -⟩ := hf
      exact sg_plain rfl rfl (or_load (l := E32.f x41) ta32 f_30 (RdO.cells (F := E32) (RwO.rd (RwO.evo rfl hE b40_A34)) hx41) rfl)
    refine steps_cons (fun own a wx hf hsl hE => ?_) ?_
    · obtain ⟨s_1, -⟩ := hsl
      exact sg_plain rfl rfl (or_move (s_1.trans e40_1))
    refine steps_cons (fun own a wx hf hsl hE => ?_) ?_
    · obtain ⟨(f_32 : a.eval (.tmp 32) = .slice A34 [(0, 0), (4, 0), (4, 4), (0, 4)].length cA34), -⟩ := hf
      exact sg_plain rfl rfl (or_index (R := R32) (l := [(0, 0), (4, 0), (4, 4), (0, 4)]) tl22 f_32 rfl (RdO.some_ (RwO.rd b40_A34) hx42) hx42)
    refine steps_cons (fun own a wx hf hsl hE => ?_) ?_
    · obtain ⟨(f_33 : a.eval (.tmp 33) = .pointer (some ((adr A34).add ((1 : Int).toNat * R32.s)))), -⟩ := hf
      exact sg_plain rfl rfl (or_load (l := E32.f x42) ta32 f_33 (RdO.cells (F := E32) (RwO.rd (RwO.evo rfl hE b40_A34)) hx42) rfl)
    refine steps_cons (fun own a wx hf hsl hE => ?_) ?_
    · obtain ⟨(f_28 : a.eval (.tmp 28) = .slice A34 [(0, 0), (4, 0), (4, 4), (0, 4)].length cA34), (f_31 : a.eval (.tmp 31) = .agg #[.int .i64 x41.1, .int .i64 x41.2]), (f_34 : a.eval (.tmp 34) = .agg #[.int .i64 x42.1, .int .i64 x42.2]), -⟩ := hf
      exact sg_plain rfl rfl (or_call cf17 (args3 f_28 f_31 f_34) (ring_Beside_w _ [(0, 0), (4, 0), (4, 4), (0, 4)] A34 cA34 x41 x42 (RdO.zero (RwO.rd (RwO.evo rfl hE b40_A34))) r43 hr43) post_val)
    refine steps_cons (fun own a wx hf hsl hE => ?_) ?_
    · obtain ⟨(f_35 : a.eval (.tmp 35) = .tuple #[.int .i64 r43.1, .bool r43.2]), -⟩ := hf
      exact sg_plain rfl rfl (or_move f_35)
    refine steps_cons (fun own a wx hf hsl hE => ?_) ?_
    · obtain ⟨(f_27 : a.eval (.tmp 27) = .tuple #[.int .i64 r43.1, .bool r43.2]), -⟩ := hf
      exact sg_plain rfl rfl (or_k [(27, .tuple #[.int .i64 r43.1, .bool r43.2])] rfl rfl ⟨f_27, trivial⟩ (by kernel_rfl))
    refine steps_cons (fun own a wx hf hsl hE => ?_) ?_
    · obtain ⟨(f_27 : a.eval (.tmp 27) = .tuple #[.int .i64 r43.1, .bool r43.2]), -⟩ := hf
      exact sg_plain rfl rfl (or_k [(27, .tuple #[.int .i64 r43.1, .bool r43.2])] rfl rfl ⟨f_27, trivial⟩ (by kernel_rfl))
    refine steps_cons (fun own a wx hf hsl hE => ?_) ?_
    · obtain ⟨(f_36 : a.eval (.tmp 36) = .int .i64 r43.1), -⟩ := hf
      exact sg_plain rfl rfl (or_assign f_36)
    refine steps_cons (fun own a wx hf hsl hE => ?_) ?_
    · obtain ⟨(f_37 : a.eval (.tmp 37) = .bool r43.2), -⟩ := hf
      exact sg_plain rfl rfl (or_assign f_37)
    exact steps_nil
  intro own44 a44 w44 hd44 hz44 hk44 hf44 hE44
  have e44_1 : a44.eval (.tmp 1) = .slice A34 [(0, 0), (4, 0), (4, 4), (0, 4)].length cA34 := (hk44 1 rfl).trans e40_1
  have e44_2 : a44.eval (.tmp 2) = .int .i64 r37.1 := (hk44 2 rfl).trans e40_2
  have e44_3 : a44.eval (.tmp 3) = .bool r37.2 := (hk44 3 rfl).trans e40_3
  have e44_5 : a44.eval (.tmp 5) = .bool r39.2 := (hk44 5 rfl).trans e40_5
  obtain ⟨(f_6 : a44.eval (.tmp 6) = .int .i64 r43.1), (f_7 : a44.eval (.tmp 7) = .bool r43.2), -⟩ := hf44 [11, 12] rfl
  have e44_6 := f_6
  have e44_7 := f_7
  have hX44 := Evo.step hX40 (fun _ => Nat.le_refl 0) hE44 rfl
  have b44_A34 := RwO.evo rfl hE44 b40_A34
  obtain ⟨x45, hx45, hs⟩ := obind hs
  obtain ⟨x46, hx46, hs⟩ := obind hs
  obtain ⟨r47, hr47, hs⟩ := obind hs
  refine rg_draw_seq g_mixed (n := 81) (rs := []) (own0 := own44) (K := [])
      (bs := [0, 0, 2, 6, 0, 16, 48, 127, 255, 511, 511, 1023, 4095])
      (ds := [⟨[], [1], [], Fct.val 39 (.slice A34 [(0, 0), (4, 0), (4, 4), (0, 4)].length cA34)⟩,
      ⟨[], [1], [], Fct.val 40 (.slice A34 [(0, 0), (4, 0), (4, 4), (0, 4)].length cA34)⟩,
      ⟨[1], [], [], Fct.val 41 (.pointer (some ((adr A34).add ((1 : Int).toNat * R32.s))))⟩,
      ⟨[2], [], [], Fct.val 42 (.agg #[.int .i64 x45.1, .int .i64 x45.2])⟩,
      ⟨[], [1], [], Fct.val 43 (.slice A34 [(0, 0), (4, 0), (4, 4), (0, 4)].length cA34)⟩,
      ⟨[4], [], [], Fct.val 44 (.pointer (some ((adr A34).add ((0 : Int).toNat * R32.s))))⟩,
      ⟨[5], [], [], Fct.val 45 (.agg #[.int .i64 x46.1, .int .i64 x46.2])⟩,
      ⟨[0, 3, 6], [], [], Fct.val 46 (.tuple #[.int .i64 r47.1, .bool r47.2])⟩,
      ⟨[7], [], [], Fct.val 38 (.tuple #[.int .i64 r47.1, .bool r47.2])⟩,
      ⟨[8], [], [], Fct.val 47 (.int .i64 r47.1)⟩,
      ⟨[8], [], [], Fct.val 48 (.bool r47.2)⟩,
      ⟨[9], [], [], Fct.val 8 (.int .i64 r47.1)⟩,
      ⟨[10], [], [], Fct.val 9 (.bool r47.2)⟩]) (by kernel_rfl) hz44 hd44 (fun _ h => nomatch h) ?_ ?_
  · refine steps_cons (fun own a wx hf hsl hE => ?_) ?_
    · obtain ⟨s_1, -⟩ := hsl
      exact sg_plain rfl rfl (or_move (s_1.trans e44_1))
    refine steps_cons (fun own a wx hf hsl hE => ?_) ?_
    · obtain ⟨s_1, -⟩ := hsl
      exact sg_plain rfl rfl (or_move (s_1.trans e44_1))
    refine steps_cons (fun own a wx hf hsl hE => ?_) ?_
    · obtain ⟨(f_40 : a.eval (.tmp 40) = .slice A34 [(0, 0), (4, 0), (4, 4), (0, 4)].length cA34), -⟩ := hf
      exact sg_plain rfl rfl (or_index (R := R32) (l := [(0, 0), (4, 0), (4, 4), (0, 4)]) tl22 f_40 rfl (RdO.some_ (RwO.rd b44_A34) hx45) hx45)
    refine steps_cons (fun own a wx hf hsl hE => ?_) ?_
    · obtain ⟨(f_41 : a.eval (.tmp 41) = .pointer (some ((adr A34).add ((1 : Int).toNat * R32.s)))), -⟩ := hf
      exact sg_plain rfl rfl (or_load (l := E32.f x45) ta32 f_41 (RdO.cells (F := E32) (RwO.rd (RwO.evo rfl hE b44_A34)) hx45) rfl)
    refine steps_cons (fun own a wx hf hsl hE => ?_) ?_
    · obtain ⟨s_1, -⟩ := hsl
      exact sg_plain rfl rfl (or_move (s_1.trans e44_1))
    refine steps_cons (fun own a wx hf hsl hE => ?_) ?_
    · obtain ⟨(f_43 : a.eval (.tmp 43) = .slice A34 [(0, 0), (4, 0), (4, 4), (0, 4)].length cA34), -⟩ := hf
      exact sg_plain rfl rfl (or_index (R := R32) (l := [(0, 0), (4, 0), (4, 4), (0, 4)]) tl22 f_43 rfl (RdO.some_ (RwO.rd b44_A34) hx46) hx46)
    refine steps_cons (fun own a wx hf hsl hE => ?_) ?_
    · obtain ⟨(f_44 : a.eval (.tmp 44) = .pointer (some ((adr A34).add ((0 : Int).toNat * R32.s)))), -⟩ := hf
      exact sg_plain rfl rfl (or_load (l := E32.f x46) ta32 f_44 (RdO.cells (F := E32) (RwO.rd (RwO.evo rfl hE b44_A34)) hx46) rfl)
    refine steps_cons (fun own a wx hf hsl hE => ?_) ?_
    · obtain ⟨(f_39 : a.eval (.tmp 39) = .slice A34 [(0, 0), (4, 0), (4, 4), (0, 4)].length cA34), (f_42 : a.eval (.tmp 42) = .agg #[.int .i64 x45.1, .int .i64 x45.2]), (f_45 : a.eval (.tmp 45) = .agg #[.int .i64 x46.1, .int .i64 x46.2]), -⟩ := hf
      exact sg_plain rfl rfl (or_call cf17 (args3 f_39 f_42 f_45) (ring_Beside_w _ [(0, 0), (4, 0), (4, 4), (0, 4)] A34 cA34 x45 x46 (RdO.zero (RwO.rd (RwO.evo rfl hE b44_A34))) r47 hr47) post_val)
    refine steps_cons (fun own a wx hf hsl hE => ?_) ?_
    · obtain ⟨(f_46 : a.eval (.tmp 46) = .tuple #[.int .i64 r47.1, .bool r47.2]), -⟩ := hf
      exact sg_plain rfl rfl (or_move f_46)
    refine steps_cons (fun own a wx hf hsl hE => ?_) ?_
    · obtain ⟨(f_38 : a.eval (.tmp 38) = .tuple #[.int .i64 r47.1, .bool r47.2]), -⟩ := hf
      exact sg_plain rfl rfl (or_k [(38, .tuple #[.int .i64 r47.1, .bool r47.2])] rfl rfl ⟨f_38, trivial⟩ (by kernel_rfl))
    refine steps_cons (fun own a wx hf hsl hE => ?_) ?_
    · obtain ⟨(f_38 : a.eval (.tmp 38) = .tuple #[.int .i64 r47.1, .bool r47.2]), -⟩ := hf
      exact sg_plain rfl rfl (or_k [(38, .tuple #[.int .i64 r47.1, .bool r47.2])] rfl rfl ⟨f_38, trivial⟩ (by kernel_rfl))
    refine steps_cons (fun own a wx hf hsl hE => ?_) ?_
    · obtain ⟨(f_47 : a.eval (.tmp 47) = .int .i64 r47.1), -⟩ := hf
      exact sg_plain rfl rfl (or_assign f_47)
    refine steps_cons (fun own a wx hf hsl hE => ?_) ?_
    · obtain ⟨(f_48 : a.eval (.tmp 48) = .bool r47.2), -⟩ := hf
      exact sg_plain rfl rfl (or_assign f_48)
    exact steps_nil
  intro own48 a48 w48 hd48 hz48 hk48 hf48 hE48
  have e48_1 : a48.eval (.tmp 1) = .slice A34 [(0, 0), (4, 0), (4, 4), (0, 4)].length cA34 := (hk48 1 rfl).trans e44_1
  have e48_2 : a48.eval (.tmp 2) = .int .i64 r37.1 := (hk48 2 rfl).trans e44_2
  have e48_3 : a48.eval (.tmp 3) = .bool r37.2 := (hk48 3 rfl).trans e44_3
  have e48_5 : a48.eval (.tmp 5) = .bool r39.2 := (hk48 5 rfl).trans e44_5
  have e48_6 : a48.eval (.tmp 6) = .int .i64 r43.1 := (hk48 6 rfl).trans e44_6
  have e48_7 : a48.eval (.tmp 7) = .bool r43.2 := (hk48 7 rfl).trans e44_7
  obtain ⟨(f_8 : a48.eval (.tmp 8) = .int .i64 r47.1), (f_9 : a48.eval (.tmp 9) = .bool r47.2), -⟩ := hf48 [11, 12] rfl
  have e48_8 := f_8
  have e48_9 := f_9
  have hX48 := Evo.step hX44 (fun _ => Nat.le_refl 0) hE48 rfl
  have b48_A34 := RwO.evo rfl hE48 b44_A34
  obtain ⟨r49, hr49, hs⟩ := obind hs
  obtain ⟨r50, hr50, hs⟩ := obind hs
  obtain ⟨x51, hx51, hs⟩ := obind hs
  obtain ⟨x52, hx52, hs⟩ := obind hs
  obtain ⟨x53, hx53, hs⟩ := obind hs
  refine rg_plain_seq (n := 81) (rs := []) (own0 := own48) (K := [])
      (bs := [0, 1, 3, 7, 15, 31, 63, 127, 255, 511, 1023, 2047, 4095, 8191, 16383, 32767, 65535, 131071, 262143, 524287, 1048575, 2097151, 4194303, 8388607, 16777215, 33554431, 67108863, 134217727, 268435455, 536870911, 1073741823, 2147483647, 4294967295])
      (ds := [⟨[], [1], [], Fct.val 49 (.slice A34 [(0, 0), (4, 0), (4, 4), (0, 4)].length cA34)⟩,
      ⟨[0], [], [], Fct.val 50 (.int .i64 r49)⟩,
      ⟨[1], [], [], Fct.val 51 (.bool (decide (r49 = 32)))⟩,
      ⟨[2], [], [], Fct.val 52 (.bool (decide (r49 = 32)))⟩,
      ⟨[3], [1], [], Fct.cond (decide (r49 = 32)) (some 53) (Fct.val 53 (.slice A34 [(0, 0), (4, 0), (4, 4), (0, 4)].length cA34))⟩,
      ⟨[3, 4], [], [], Fct.cond (decide (r49 = 32)) (some 54) (Fct.val 54 (.bool r50))⟩,
      ⟨[3, 5], [], [], Fct.val 55 (.bool ((decide (r49 = 32)) && r50))⟩,
      ⟨[6], [], [], Fct.val 56 (.bool ((decide (r49 = 32)) && r50))⟩,
      ⟨[7], [2], [], Fct.cond ((decide (r49 = 32)) && r50) (some 57) (Fct.val 57 (.int .i64 r37.1))⟩,
      ⟨[7, 8], [], [], Fct.cond ((decide (r49 = 32)) && r50) (some 58) (Fct.val 58 (.bool (decide (r37.1 = 1))))⟩,
      ⟨[7, 9], [], [], Fct.val 59 (.bool x51)⟩,
      ⟨[10], [], [], Fct.val 60 (.bool x51)⟩,
      ⟨[11], [3], [], Fct.cond x51 (some 61) (Fct.val 61 (.bool r37.2))⟩,
      ⟨[11, 12], [], [], Fct.val 62 (.bool (x51 && r37.2))⟩,
      ⟨[13], [], [], Fct.val 63 (.bool (x51 && r37.2))⟩,
      ⟨[14], [5], [], Fct.cond (x51 && r37.2) (some 64) (Fct.val 64 (.bool r39.2))⟩,
      ⟨[14, 15], [], [], Fct.cond (x51 && r37.2) (some 65) (Fct.val 65 (.bool (!r39.2)))⟩,
      ⟨[14, 16], [], [], Fct.val 66 (.bool ((x51 && r37.2) && (!r39.2)))⟩,
      ⟨[17], [], [], Fct.val 67 (.bool ((x51 && r37.2) && (!r39.2)))⟩,
      ⟨[18], [6], [], Fct.cond ((x51 && r37.2) && (!r39.2)) (some 68) (Fct.val 68 (.int .i64 r43.1))⟩,
      ⟨[18, 19], [], [], Fct.cond ((x51 && r37.2) && (!r39.2)) (some 69) (Fct.val 69 (.bool (decide (r43.1 = 1))))⟩,
      ⟨[18, 20], [], [], Fct.val 70 (.bool x52)⟩,
      ⟨[21], [], [], Fct.val 71 (.bool x52)⟩,
      ⟨[22], [7], [], Fct.cond x52 (some 72) (Fct.val 72 (.bool r43.2))⟩,
      ⟨[22, 23], [], [], Fct.val 73 (.bool (x52 && r43.2))⟩,
      ⟨[24], [], [], Fct.val 74 (.bool (x52 && r43.2))⟩,
      ⟨[25], [8], [], Fct.cond (x52 && r43.2) (some 75) (Fct.val 75 (.int .i64 r47.1))⟩,
      ⟨[25, 26], [], [], Fct.cond (x52 && r43.2) (some 76) (Fct.val 76 (.bool (decide (r47.1 = 0))))⟩,
      ⟨[25, 27], [], [], Fct.val 77 (.bool x53)⟩,
      ⟨[28], [], [], Fct.val 78 (.bool x53)⟩,
      ⟨[29], [9], [], Fct.cond x53 (some 79) (Fct.val 79 (.bool r47.2))⟩,
      ⟨[29, 30], [], [], Fct.val 80 (.bool (x53 && r47.2))⟩,
      ⟨[31], [], [], Fct.val 0 (.bool (x53 && r47.2))⟩]) (by kernel_rfl) hz48 hd48 (fun _ h => nomatch h) ?_ ?_
  · refine steps_cons (fun own a wx hf hsl hE => ?_) ?_
    · obtain ⟨s_1, -⟩ := hsl
      exact sg_plain rfl rfl (or_move (s_1.trans e48_1))
    refine steps_cons (fun own a wx hf hsl hE => ?_) ?_
    · obtain ⟨(f_49 : a.eval (.tmp 49) = .slice A34 [(0, 0), (4, 0), (4, 4), (0, 4)].length cA34), -⟩ := hf
      exact sg_plain rfl rfl (or_call cf13 (args1 f_49) (ring_Area_w _ [(0, 0), (4, 0), (4, 4), (0, 4)] A34 cA34 (RdO.zero (RwO.rd (RwO.evo rfl hE b48_A34))) r49 hr49) post_val)
    refine steps_cons (fun own a wx hf hsl hE => ?_) ?_
    · obtain ⟨(f_50 : a.eval (.tmp 50) = .int .i64 r49), -⟩ := hf
      exact sg_plain rfl rfl (or_eql f_50 rfl rfl)
    refine steps_cons (fun own a wx hf hsl hE => ?_) ?_
    · obtain ⟨(f_51 : a.eval (.tmp 51) = .bool (decide (r49 = 32))), -⟩ := hf
      exact sg_plain rfl rfl (or_move f_51)
    refine steps_cons (fun own a wx hf hsl hE => ?_) ?_
    · obtain ⟨(f_52 : a.eval (.tmp 52) = .bool (decide (r49 = 32))), -⟩ := hf
      obtain ⟨s_1, -⟩ := hsl
      refine sg_t rfl rfl rfl f_52 (fun hg => ?_)
      exact or_move (s_1.trans e48_1)
    refine steps_cons (fun own a wx hf hsl hE => ?_) ?_
    · obtain ⟨(f_52 : a.eval (.tmp 52) = .bool (decide (r49 = 32))), c_53, -⟩ := hf
      refine sg_t rfl rfl rfl f_52 (fun hg => ?_)
      have f_53 : a.eval (.tmp 53) = .slice A34 [(0, 0), (4, 0), (4, 4), (0, 4)].length cA34 := c_53.1 hg
      exact or_call cf14 (args1 f_53) (ring_Simple_w _ [(0, 0), (4, 0), (4, 4), (0, 4)] A34 cA34 (RdO.zero (RwO.rd (RwO.evo rfl hE b48_A34))) r50 (gd_t hr50 hg)) post_val
    refine steps_cons (fun own a wx hf hsl hE => ?_) ?_
    · obtain ⟨(f_52 : a.eval (.tmp 52) = .bool (decide (r49 = 32))), c_54, -⟩ := hf
      exact sg_plain rfl rfl (or_and f_52 (fun hx => c_54.1 hx) rfl rfl)
    refine steps_cons (fun own a wx hf hsl hE => ?_) ?_
    · obtain ⟨(f_55 : a.eval (.tmp 55) = .bool ((decide (r49 = 32)) && r50)), -⟩ := hf
      exact sg_plain rfl rfl (or_move f_55)
    refine steps_cons (fun own a wx hf hsl hE => ?_) ?_
    · obtain ⟨(f_56 : a.eval (.tmp 56) = .bool ((decide (r49 = 32)) && r50)), -⟩ := hf
      obtain ⟨s_2, -⟩ := hsl
      refine sg_t rfl rfl rfl f_56 (fun hg => ?_)
      exact or_move (s_2.trans e48_2)
    refine steps_cons (fun own a wx hf hsl hE => ?_) ?_
    · obtain ⟨(f_56 : a.eval (.tmp 56) = .bool ((decide (r49 = 32)) && r50)), c_57, -⟩ := hf
      refine sg_t rfl rfl rfl f_56 (fun hg => ?_)
      have f_57 : a.eval (.tmp 57) = .int .i64 r37.1 := c_57.1 hg
      exact or_eql f_57 rfl rfl
    refine steps_cons (fun own a wx hf hsl hE => ?_) ?_
    · obtain ⟨(f_56 : a.eval (.tmp 56) = .bool ((decide (r49 = 32)) && r50)), c_58, -⟩ := hf
      exact sg_plain rfl rfl (or_and f_56 (fun hx => c_58.1 hx) rfl (osome hx51).symm)
    refine steps_cons (fun own a wx hf hsl hE => ?_) ?_
    · obtain ⟨(f_59 : a.eval (.tmp 59) = .bool x51), -⟩ := hf
      exact sg_plain rfl rfl (or_move f_59)
    refine steps_cons (fun own a wx hf hsl hE => ?_) ?_
    · obtain ⟨(f_60 : a.eval (.tmp 60) = .bool x51), -⟩ := hf
      obtain ⟨s_3, -⟩ := hsl
      refine sg_t rfl rfl rfl f_60 (fun hg => ?_)
      exact or_move (s_3.trans e48_3)
    refine steps_cons (fun own a wx hf hsl hE => ?_) ?_
    · obtain ⟨(f_60 : a.eval (.tmp 60) = .bool x51), c_61, -⟩ := hf
      exact sg_plain rfl rfl (or_and f_60 (fun hx => c_61.1 hx) rfl rfl)
    refine steps_cons (fun own a wx hf hsl hE => ?_) ?_
    · obtain ⟨(f_62 : a.eval (.tmp 62) = .bool (x51 && r37.2)), -⟩ := hf
      exact sg_plain rfl rfl (or_move f_62)
    refine steps_cons (fun own a wx hf hsl hE => ?_) ?_
    · obtain ⟨(f_63 : a.eval (.tmp 63) = .bool (x51 && r37.2)), -⟩ := hf
      obtain ⟨s_5, -⟩ := hsl
      refine sg_t rfl rfl rfl f_63 (fun hg => ?_)
      exact or_move (s_5.trans e48_5)
    refine steps_cons (fun own a wx hf hsl hE => ?_) ?_
    · obtain ⟨(f_63 : a.eval (.tmp 63) = .bool (x51 && r37.2)), c_64, -⟩ := hf
      refine sg_t rfl rfl rfl f_63 (fun hg => ?_)
      have f_64 : a.eval (.tmp 64) = .bool r39.2 := c_64.1 hg
      exact or_not f_64 rfl
    refine steps_cons (fun own a wx hf hsl hE => ?_) ?_
    · obtain ⟨(f_63 : a.eval (.tmp 63) = .bool (x51 && r37.2)), c_65, -⟩ := hf
      exact sg_plain rfl rfl (or_and f_63 (fun hx => c_65.1 hx) rfl rfl)
    refine steps_cons (fun own a wx hf hsl hE => ?_) ?_
    · obtain ⟨(f_66 : a.eval (.tmp 66) = .bool ((x51 && r37.2) && (!r39.2))), -⟩ := hf
      exact sg_plain rfl rfl (or_move f_66)
    refine steps_cons (fun own a wx hf hsl hE => ?_) ?_
    · obtain ⟨(f_67 : a.eval (.tmp 67) = .bool ((x51 && r37.2) && (!r39.2))), -⟩ := hf
      obtain ⟨s_6, -⟩ := hsl
      refine sg_t rfl rfl rfl f_67 (fun hg => ?_)
      exact or_move (s_6.trans e48_6)
    refine steps_cons (fun own a wx hf hsl hE => ?_) ?_
    · obtain ⟨(f_67 : a.eval (.tmp 67) = .bool ((x51 && r37.2) && (!r39.2))), c_68, -⟩ := hf
      refine sg_t rfl rfl rfl f_67 (fun hg => ?_)
      have f_68 : a.eval (.tmp 68) = .int .i64 r43.1 := c_68.1 hg
      exact or_eql f_68 rfl rfl
    refine steps_cons (fun own a wx hf hsl hE => ?_) ?_
    · obtain ⟨(f_67 : a.eval (.tmp 67) = .bool ((x51 && r37.2) && (!r39.2))), c_69, -⟩ := hf
      exact sg_plain rfl rfl (or_and f_67 (fun hx => c_69.1 hx) rfl (osome hx52).symm)
    refine steps_cons (fun own a wx hf hsl hE => ?_) ?_
    · obtain ⟨(f_70 : a.eval (.tmp 70) = .bool x52), -⟩ := hf
      exact sg_plain rfl rfl (or_move f_70)
    refine steps_cons (fun own a wx hf hsl hE => ?_) ?_
    · obtain ⟨(f_71 : a.eval (.tmp 71) = .bool x52), -⟩ := hf
      obtain ⟨s_7, -⟩ := hsl
      refine sg_t rfl rfl rfl f_71 (fun hg => ?_)
      exact or_move (s_7.trans e48_7)
    refine steps_cons (fun own a wx hf hsl hE => ?_) ?_
    · obtain ⟨(f_71 : a.eval (.tmp 71) = .bool x52), c_72, -⟩ := hf
      exact sg_plain rfl rfl (or_and f_71 (fun hx => c_72.1 hx) rfl rfl)
    refine steps_cons (fun own a wx hf hsl hE => ?_) ?_
    · obtain ⟨(f_73 : a.eval (.tmp 73) = .bool (x52 && r43.2)), -⟩ := hf
      exact sg_plain rfl rfl (or_move f_73)
    refine steps_cons (fun own a wx hf hsl hE => ?_) ?_
    · obtain ⟨(f_74 : a.eval (.tmp 74) = .bool (x52 && r43.2)), -⟩ := hf
      obtain ⟨s_8, -⟩ := hsl
      refine sg_t rfl rfl rfl f_74 (fun hg => ?_)
      exact or_move (s_8.trans e48_8)
    refine steps_cons (fun own a wx hf hsl hE => ?_) ?_
    · obtain ⟨(f_74 : a.eval (.tmp 74) = .bool (x52 && r43.2)), c_75, -⟩ := hf
      refine sg_t rfl rfl rfl f_74 (fun hg => ?_)
      have f_75 : a.eval (.tmp 75) = .int .i64 r47.1 := c_75.1 hg
      exact or_eql f_75 rfl rfl
    refine steps_cons (fun own a wx hf hsl hE => ?_) ?_
    · obtain ⟨(f_74 : a.eval (.tmp 74) = .bool (x52 && r43.2)), c_76, -⟩ := hf
      exact sg_plain rfl rfl (or_and f_74 (fun hx => c_76.1 hx) rfl (osome hx53).symm)
    refine steps_cons (fun own a wx hf hsl hE => ?_) ?_
    · obtain ⟨(f_77 : a.eval (.tmp 77) = .bool x53), -⟩ := hf
      exact sg_plain rfl rfl (or_move f_77)
    refine steps_cons (fun own a wx hf hsl hE => ?_) ?_
    · obtain ⟨(f_78 : a.eval (.tmp 78) = .bool x53), -⟩ := hf
      obtain ⟨s_9, -⟩ := hsl
      refine sg_t rfl rfl rfl f_78 (fun hg => ?_)
      exact or_move (s_9.trans e48_9)
    refine steps_cons (fun own a wx hf hsl hE => ?_) ?_
    · obtain ⟨(f_78 : a.eval (.tmp 78) = .bool x53), c_79, -⟩ := hf
      exact sg_plain rfl rfl (or_and f_78 (fun hx => c_79.1 hx) rfl rfl)
    refine steps_cons (fun own a wx hf hsl hE => ?_) ?_
    · obtain ⟨(f_80 : a.eval (.tmp 80) = .bool (x53 && r47.2)), -⟩ := hf
      exact sg_plain rfl rfl (or_assign f_80)
    exact steps_nil
  intro own54 a54 w54 hd54 hz54 hk54 hf54 hE54
  obtain ⟨(f_0 : a54.eval (.tmp 0) = .bool (x53 && r47.2)), -⟩ := hf54 [32] rfl
  have e54_0 := f_0
  have hX54 := Evo.step hX48 (fun _ => Nat.le_refl 0) hE54 rfl
  refine fl_ret ?_
  obtain rfl := osome hs
  exact hret _ _ _ _ (.inl rfl) hd54 (results1_ rfl (RVal.tmp_ e54_0)) ⟨own54, rfl, hX54⟩

end Go.Proofs.Ythkmkmkcnljmaaa
