/-
  Chapter 20. The walks.
-/
import Derived.Test.YtehmjkdgakinbaaWp7
import Derived.Test.YtehmjkdgakinbaaSp8
namespace Go.Proofs.Ytehmjkdgakinbaa
open Go.RowKit
set_option linter.unusedVariables false
theorem rows_Meet_w (w : World) (x1 : (Int × Int) × (Int × Int)) (b2 : (Int × Int) × (Int × Int)) (r : Bool) (hs : rows_Meet x1 b2 = some r) :
    Calls Try.prog 16 #[.agg #[.int .i64 x1.1.1, .int .i64 x1.1.2, .int .i64 x1.2.1, .int .i64 x1.2.2], .agg #[.int .i64 b2.1.1, .int .i64 b2.1.2, .int .i64 b2.2.1, .int .i64 b2.2.2]] w fun e w' => ∃ own' : Own, e = .returned (.bool r) ∧ Evo [] (fun _ => 0) own' w w' := by
  refine fl_enter (n := 47) rfl rfl rfl (Nat.le_of_ble_eq_true rfl) ?_
  intro a0 Q hd0 hz0 harg hret
  have ha0 := harg 0 _ rfl
  have ha1 := harg 1 _ rfl
  clear harg
  have hE0 : Evo [] (fun _ => 0) (fun _ => 0) w w := Evo.refl _ _ _
  refine rg_plain_seq (n := 47) (rs := []) (own0 := (fun _ => 0)) (K := [])
      (bs := [0, 0, 0])
      (ds := [⟨[], [0], [], Fct.blk 22 2 (fun g => .pointer (some ⟨g, 0, none⟩)) 25 #[.int .i64 x1.1.1, .int .i64 x1.1.2, .int .i64 x1.2.1, .int .i64 x1.2.2]⟩,
      ⟨[], [1], [], Fct.blk 24 3 (fun g => .pointer (some ⟨g, 0, none⟩)) 25 #[.int .i64 b2.1.1, .int .i64 b2.1.2, .int .i64 b2.2.1, .int .i64 b2.2.2]⟩,
      ⟨[], [], [], Fct.val 4 (.bool false)⟩]) (by kernel_rfl) hz0 hd0 (fun _ h => nomatch h) ?_ ?_
  · refine steps_cons (fun own a wx hf hsl hE => ?_) ?_
    · obtain ⟨s_0, -⟩ := hsl
      exact sg_plain rfl rfl (or_new [(0, .agg #[.int .i64 x1.1.1, .int .i64 x1.1.2, .int .i64 x1.2.1, .int .i64 x1.2.2])] rfl rfl ⟨(s_0.trans ha0), trivial⟩ (by kernel_rfl))
    refine steps_cons (fun own a wx hf hsl hE => ?_) ?_
    · obtain ⟨s_1, -⟩ := hsl
      exact sg_plain rfl rfl (or_new [(1, .agg #[.int .i64 b2.1.1, .int .i64 b2.1.2, .int .i64 b2.2.1, .int .i64 b2.2.2])] rfl rfl ⟨(s_1.trans ha1), trivial⟩ (by kernel_rfl))
    refine steps_cons (fun own a wx hf hsl hE => ?_) ?_
    · exact sg_plain rfl rfl (or_assign rfl)
    exact steps_nil
  intro own25 a25 w25 hd25 hz25 hk25 hf25 hE25
  obtain ⟨⟨g21, (f_2 : a25.eval (.tmp 2) = .pointer (some ⟨g21, 0, none⟩)), (b_g21 : BlkO own25 22 w25 g21 25 #[.int .i64 x1.1.1, .int .i64 x1.1.2, .int .i64 x1.2.1, .int .i64 x1.2.2])⟩, ⟨g23, (f_3 : a25.eval (.tmp 3) = .pointer (some ⟨g23, 0, none⟩)), (b_g23 : BlkO own25 24 w25 g23 25 #[.int .i64 b2.1.1, .int .i64 b2.1.2, .int .i64 b2.2.1, .int .i64 b2.2.2])⟩, -⟩ := hf25 [0, 1] rfl
  have e25_2 := f_2
  have e25_3 := f_3
  have hX25 := Evo.step hE0 (fun _ => Nat.le_refl 0) hE25 rfl
  have b25_g21 := b_g21
  have b25_g23 := b_g23
  obtain ⟨r26, hr26, hs⟩ := obind hs
  obtain ⟨r27, hr27, hs⟩ := obind hs
  obtain ⟨x28, hx28, hs⟩ := obind hs
  obtain ⟨x29, hx29, hs⟩ := obind hs
  refine rg_plain_seq (n := 47) (rs := []) (own0 := own25) (K := [])
      (bs := [0, 1, 3, 7, 15, 31, 63, 127, 255, 511, 127, 1151, 3199, 8191, 16383, 32767, 65535, 131071, 262143, 65535, 589823, 1638399, 4194303, 8388607, 16777215, 33554431, 67108863, 134217727, 33554431, 301989887, 838860799, 2147483647, 4294967295, 8589934591, 17179869183, 34359738367, 68719476735, 17179869183, 154618822655, 429496729599, 1099511627775, 2199023255551, 4398046511103])
      (ds := [⟨[], [2], [], Fct.val 5 (.agg #[.int .i64 x1.1.1, .int .i64 x1.1.2, .int .i64 x1.2.1, .int .i64 x1.2.2])⟩,
      ⟨[0], [], [], Fct.val 6 (.bool r26)⟩,
      ⟨[1], [], [], Fct.val 7 (.bool r26)⟩,
      ⟨[2], [3], [], Fct.cond r26 (some 8) (Fct.val 8 (.agg #[.int .i64 b2.1.1, .int .i64 b2.1.2, .int .i64 b2.2.1, .int .i64 b2.2.2]))⟩,
      ⟨[2, 3], [], [], Fct.cond r26 (some 9) (Fct.val 9 (.bool r27))⟩,
      ⟨[2, 4], [], [], Fct.val 10 (.bool (r26 && r27))⟩,
      ⟨[5], [], [], Fct.val 11 (.bool (r26 && r27))⟩,
      ⟨[6], [2], [], Fct.cond (r26 && r27) (some 12) (Fct.val 12 (.pointer (some ⟨g21, 0, none⟩)))⟩,
      ⟨[6, 7], [], [], Fct.cond (r26 && r27) (some 13) (Fct.val 13 (.pointer (some ⟨g21, 0, none⟩)))⟩,
      ⟨[6, 8], [], [], Fct.cond (r26 && r27) (some 14) (Fct.val 14 (.int .i64 x1.1.1))⟩,
      ⟨[6], [3], [], Fct.cond (r26 && r27) (some 15) (Fct.val 15 (.pointer (some ⟨g23, 2, none⟩)))⟩,
      ⟨[6, 10], [], [], Fct.cond (r26 && r27) (some 16) (Fct.val 16 (.pointer (some ⟨g23, 2, none⟩)))⟩,
      ⟨[6, 11], [], [], Fct.cond (r26 && r27) (some 17) (Fct.val 17 (.int .i64 b2.2.1))⟩,
      ⟨[6, 9, 12], [], [], Fct.cond (r26 && r27) (some 18) (Fct.val 18 (.bool (decide (x1.1.1 ≤ b2.2.1))))⟩,
      ⟨[6, 13], [], [], Fct.val 19 (.bool x28)⟩,
      ⟨[14], [], [], Fct.val 20 (.bool x28)⟩,
      ⟨[15], [3], [], Fct.cond x28 (some 21) (Fct.val 21 (.pointer (some ⟨g23, 0, none⟩)))⟩,
      ⟨[15, 16], [], [], Fct.cond x28 (some 22) (Fct.val 22 (.pointer (some ⟨g23, 0, none⟩)))⟩,
      ⟨[15, 17], [], [], Fct.cond x28 (some 23) (Fct.val 23 (.int .i64 b2.1.1))⟩,
      ⟨[15], [2], [], Fct.cond x28 (some 24) (Fct.val 24 (.pointer (some ⟨g21, 2, none⟩)))⟩,
      ⟨[15, 19], [], [], Fct.cond x28 (some 25) (Fct.val 25 (.pointer (some ⟨g21, 2, none⟩)))⟩,
      ⟨[15, 20], [], [], Fct.cond x28 (some 26) (Fct.val 26 (.int .i64 x1.2.1))⟩,
      ⟨[15, 18, 21], [], [], Fct.cond x28 (some 27) (Fct.val 27 (.bool (decide (b2.1.1 ≤ x1.2.1))))⟩,
      ⟨[15, 22], [], [], Fct.val 28 (.bool (x28 && (decide (b2.1.1 ≤ x1.2.1))))⟩,
      ⟨[23], [], [], Fct.val 29 (.bool (x28 && (decide (b2.1.1 ≤ x1.2.1))))⟩,
      ⟨[24], [2], [], Fct.cond (x28 && (decide (b2.1.1 ≤ x1.2.1))) (some 30) (Fct.val 30 (.pointer (some ⟨g21, 0, none⟩)))⟩,
      ⟨[24, 25], [], [], Fct.cond (x28 && (decide (b2.1.1 ≤ x1.2.1))) (some 31) (Fct.val 31 (.pointer (some ⟨g21, 1, none⟩)))⟩,
      ⟨[24, 26], [], [], Fct.cond (x28 && (decide (b2.1.1 ≤ x1.2.1))) (some 32) (Fct.val 32 (.int .i64 x1.1.2))⟩,
      ⟨[24], [3], [], Fct.cond (x28 && (decide (b2.1.1 ≤ x1.2.1))) (some 33) (Fct.val 33 (.pointer (some ⟨g23, 2, none⟩)))⟩,
      ⟨[24, 28], [], [], Fct.cond (x28 && (decide (b2.1.1 ≤ x1.2.1))) (some 34) (Fct.val 34 (.pointer (some ⟨g23, 3, none⟩)))⟩,
      ⟨[24, 29], [], [], Fct.cond (x28 && (decide (b2.1.1 ≤ x1.2.1))) (some 35) (Fct.val 35 (.int .i64 b2.2.2))⟩,
      ⟨[24, 27, 30], [], [], Fct.cond (x28 && (decide (b2.1.1 ≤ x1.2.1))) (some 36) (Fct.val 36 (.bool (decide (x1.1.2 ≤ b2.2.2))))⟩,
      ⟨[24, 31], [], [], Fct.val 37 (.bool x29)⟩,
      ⟨[32], [], [], Fct.val 38 (.bool x29)⟩,
      ⟨[33], [3], [], Fct.cond x29 (some 39) (Fct.val 39 (.pointer (some ⟨g23, 0, none⟩)))⟩,
      ⟨[33, 34], [], [], Fct.cond x29 (some 40) (Fct.val 40 (.pointer (some ⟨g23, 1, none⟩)))⟩,
      ⟨[33, 35], [], [], Fct.cond x29 (some 41) (Fct.val 41 (.int .i64 b2.1.2))⟩,
      ⟨[33], [2], [], Fct.cond x29 (some 42) (Fct.val 42 (.pointer (some ⟨g21, 2, none⟩)))⟩,
      ⟨[33, 37], [], [], Fct.cond x29 (some 43) (Fct.val 43 (.pointer (some ⟨g21, 3, none⟩)))⟩,
      ⟨[33, 38], [], [], Fct.cond x29 (some 44) (Fct.val 44 (.int .i64 x1.2.2))⟩,
      ⟨[33, 36, 39], [], [], Fct.cond x29 (some 45) (Fct.val 45 (.bool (decide (b2.1.2 ≤ x1.2.2))))⟩,
      ⟨[33, 40], [], [], Fct.val 46 (.bool (x29 && (decide (b2.1.2 ≤ x1.2.2))))⟩,
      ⟨[41], [], [], Fct.val 4 (.bool (x29 && (decide (b2.1.2 ≤ x1.2.2))))⟩]) (by kernel_rfl) hz25 hd25 (fun _ h => nomatch h) ?_ ?_
  · refine steps_cons (fun own a wx hf hsl hE => ?_) ?_
    · obtain ⟨s_2, -⟩ := hsl
      exact sg_plain rfl rfl (or_load (l := [.int .i64 x1.1.1, .int .i64 x1.1.2, .int .i64 x1.2.1, .int .i64 x1.2.2]) ta25 (s_2.trans e25_2) (Blk.cellsFrom (BlkO.evo (by decide) hE b25_g21).2 0 rfl) rfl)
    refine steps_cons (fun own a wx hf hsl hE => ?_) ?_
    · obtain ⟨(f_5 : a.eval (.tmp 5) = .agg #[.int .i64 x1.1.1, .int .i64 x1.1.2, .int .i64 x1.2.1, .int .i64 x1.2.2]), -⟩ := hf
      exact sg_plain rfl rfl (or_call cf35 (args1 f_5) (rows_Right_w _ x1  r26 hr26) post_val)
    refine steps_cons (fun own a wx hf hsl hE => ?_) ?_
    · obtain ⟨(f_6 : a.eval (.tmp 6) = .bool r26), -⟩ := hf
      exact sg_plain rfl rfl (or_move f_6)
    refine steps_cons (fun own a wx hf hsl hE => ?_) ?_
    · obtain ⟨(f_7 : a.eval (.tmp 7) = .bool r26), -⟩ := hf
      obtain ⟨s_3, -⟩ := hsl
      refine sg_t rfl rfl rfl f_7 (fun hg => ?_)
      exact or_load (l := [.int .i64 b2.1.1, .int .i64 b2.1.2, .int .i64 b2.2.1, .int .i64 b2.2.2]) ta25 (s_3.trans e25_3) (Blk.cellsFrom (BlkO.evo (by decide) hE b25_g23).2 0 rfl) rfl
    refine steps_cons (fun own a wx hf hsl hE => ?_) ?_
    · obtain ⟨(f_7 : a.eval (.tmp 7) = .bool r26), c_8, -⟩ := hf
      refine sg_t rfl rfl rfl f_7 (fun hg => ?_)
      have f_8 : a.eval (.tmp 8) = .agg #[.int .i64 b2.1.1, .int .i64 b2.1.2, .int .i64 b2.2.1, .int .i64 b2.2.2] := c_8.1 hg
      exact or_call cf35 (args1 f_8) (rows_Right_w _ b2  r27 (gd_t hr27 hg)) post_val
    refine steps_cons (fun own a wx hf hsl hE => ?_) ?_
    · obtain ⟨(f_7 : a.eval (.tmp 7) = .bool r26), c_9, -⟩ := hf
      exact sg_plain rfl rfl (or_and f_7 (fun hx => c_9.1 hx) rfl rfl)
    refine steps_cons (fun own a wx hf hsl hE => ?_) ?_
    · obtain ⟨(f_10 : a.eval (.tmp 10) = .bool (r26 && r27)), -⟩ := hf
      exact sg_plain rfl rfl (or_move f_10)
    refine steps_cons (fun own a wx hf hsl hE => ?_) ?_
    · obtain ⟨(f_11 : a.eval (.tmp 11) = .bool (r26 && r27)), -⟩ := hf
      obtain ⟨s_2, -⟩ := hsl
      refine sg_t rfl rfl rfl f_11 (fun hg => ?_)
      exact or_field fo25_0 (s_2.trans e25_2) (by rfl)
    refine steps_cons (fun own a wx hf hsl hE => ?_) ?_
    · obtain ⟨(f_11 : a.eval (.tmp 11) = .bool (r26 && r27)), c_12, -⟩ := hf
      refine sg_t rfl rfl rfl f_11 (fun hg => ?_)
      have f_12 : a.eval (.tmp 12) = .pointer (some ⟨g21, 0, none⟩) := c_12.1 hg
      exact or_field fo23_0 f_12 (by rfl)
    refine steps_cons (fun own a wx hf hsl hE => ?_) ?_
    · obtain ⟨(f_11 : a.eval (.tmp 11) = .bool (r26 && r27)), c_13, -⟩ := hf
      refine sg_t rfl rfl rfl f_11 (fun hg => ?_)
      have f_13 : a.eval (.tmp 13) = .pointer (some ⟨g21, 0, none⟩) := c_13.1 hg
      exact or_load1 to3 f_13 (Blk.at_ (BlkO.evo (by decide) hE b25_g21).2 0 rfl)
    refine steps_cons (fun own a wx hf hsl hE => ?_) ?_
    · obtain ⟨(f_11 : a.eval (.tmp 11) = .bool (r26 && r27)), -⟩ := hf
      obtain ⟨s_3, -⟩ := hsl
      refine sg_t rfl rfl rfl f_11 (fun hg => ?_)
      exact or_field fo25_1 (s_3.trans e25_3) (by rfl)
    refine steps_cons (fun own a wx hf hsl hE => ?_) ?_
    · obtain ⟨(f_11 : a.eval (.tmp 11) = .bool (r26 && r27)), c_15, -⟩ := hf
      refine sg_t rfl rfl rfl f_11 (fun hg => ?_)
      have f_15 : a.eval (.tmp 15) = .pointer (some ⟨g23, 2, none⟩) := c_15.1 hg
      exact or_field fo23_0 f_15 (by rfl)
    refine steps_cons (fun own a wx hf hsl hE => ?_) ?_
    · obtain ⟨(f_11 : a.eval (.tmp 11) = .bool (r26 && r27)), c_16, -⟩ := hf
      refine sg_t rfl rfl rfl f_11 (fun hg => ?_)
      have f_16 : a.eval (.tmp 16) = .pointer (some ⟨g23, 2, none⟩) := c_16.1 hg
      exact or_load1 to3 f_16 (Blk.at_ (BlkO.evo (by decide) hE b25_g23).2 2 rfl)
    refine steps_cons (fun own a wx hf hsl hE => ?_) ?_
    · obtain ⟨(f_11 : a.eval (.tmp 11) = .bool (r26 && r27)), c_14, c_17, -⟩ := hf
      refine sg_t rfl rfl rfl f_11 (fun hg => ?_)
      have f_14 : a.eval (.tmp 14) = .int .i64 x1.1.1 := c_14.1 hg
      have f_17 : a.eval (.tmp 17) = .int .i64 b2.2.1 := c_17.1 hg
      exact or_leq f_14 f_17 rfl
    refine steps_cons (fun own a wx hf hsl hE => ?_) ?_
    · obtain ⟨(f_11 : a.eval (.tmp 11) = .bool (r26 && r27)), c_18, -⟩ := hf
      exact sg_plain rfl rfl (or_and f_11 (fun hx => c_18.1 hx) rfl (osome hx28).symm)
    refine steps_cons (fun own a wx hf hsl hE => ?_) ?_
    · obtain ⟨(f_19 : a.eval (.tmp 19) = .bool x28), -⟩ := hf
      exact sg_plain rfl rfl (or_move f_19)
    refine steps_cons (fun own a wx hf hsl hE => ?_) ?_
    · obtain ⟨(f_20 : a.eval (.tmp 20) = .bool x28), -⟩ := hf
      obtain ⟨s_3, -⟩ := hsl
      refine sg_t rfl rfl rfl f_20 (fun hg => ?_)
      exact or_field fo25_0 (s_3.trans e25_3) (by rfl)
    refine steps_cons (fun own a wx hf hsl hE => ?_) ?_
    · obtain ⟨(f_20 : a.eval (.tmp 20) = .bool x28), c_21, -⟩ := hf
      refine sg_t rfl rfl rfl f_20 (fun hg => ?_)
      have f_21 : a.eval (.tmp 21) = .pointer (some ⟨g23, 0, none⟩) := c_21.1 hg
      exact or_field fo23_0 f_21 (by rfl)
    refine steps_cons (fun own a wx hf hsl hE => ?_) ?_
    · obtain ⟨(f_20 : a.eval (.tmp 20) = .bool x28), c_22, -⟩ := hf
      refine sg_t rfl rfl rfl f_20 (fun hg => ?_)
      have f_22 : a.eval (.tmp 22) = .pointer (some ⟨g23, 0, none⟩) := c_22.1 hg
      exact or_load1 to3 f_22 (Blk.at_ (BlkO.evo (by decide) hE b25_g23).2 0 rfl)
    refine steps_cons (fun own a wx hf hsl hE => ?_) ?_
    · obtain ⟨(f_20 : a.eval (.tmp 20) = .bool x28), -⟩ := hf
      obtain ⟨s_2, -⟩ := hsl
      refine sg_t rfl rfl rfl f_20 (fun hg => ?_)
      exact or_field fo25_1 (s_2.trans e25_2) (by rfl)
    refine steps_cons (fun own a wx hf hsl hE => ?_) ?_
    · obtain ⟨(f_20 : a.eval (.tmp 20) = .bool x28), c_24, -⟩ := hf
      refine sg_t rfl rfl rfl f_20 (fun hg => ?_)
      have f_24 : a.eval (.tmp 24) = .pointer (some ⟨g21, 2, none⟩) := c_24.1 hg
      exact or_field fo23_0 f_24 (by rfl)
    refine steps_cons (fun own a wx hf hsl hE => ?_) ?_
    · obtain ⟨(f_20 : a.eval (.tmp 20) = .bool x28), c_25, -⟩ := hf
      refine sg_t rfl rfl rfl f_20 (fun hg => ?_)
      have f_25 : a.eval (.tmp 25) = .pointer (some ⟨g21, 2, none⟩) := c_25.1 hg
      exact or_load1 to3 f_25 (Blk.at_ (BlkO.evo (by decide) hE b25_g21).2 2 rfl)
    refine steps_cons (fun own a wx hf hsl hE => ?_) ?_
    · obtain ⟨(f_20 : a.eval (.tmp 20) = .bool x28), c_23, c_26, -⟩ := hf
      refine sg_t rfl rfl rfl f_20 (fun hg => ?_)
      have f_23 : a.eval (.tmp 23) = .int .i64 b2.1.1 := c_23.1 hg
      have f_26 : a.eval (.tmp 26) = .int .i64 x1.2.1 := c_26.1 hg
      exact or_leq f_23 f_26 rfl
    refine steps_cons (fun own a wx hf hsl hE => ?_) ?_
    · obtain ⟨(f_20 : a.eval (.tmp 20) = .bool x28), c_27, -⟩ := hf
      exact sg_plain rfl rfl (or_and f_20 (fun hx => c_27.1 hx) rfl rfl)
    refine steps_cons (fun own a wx hf hsl hE => ?_) ?_
    · obtain ⟨(f_28 : a.eval (.tmp 28) = .bool (x28 && (decide (b2.1.1 ≤ x1.2.1)))), -⟩ := hf
      exact sg_plain rfl rfl (or_move f_28)
    refine steps_cons (fun own a wx hf hsl hE => ?_) ?_
    · obtain ⟨(f_29 : a.eval (.tmp 29) = .bool (x28 && (decide (b2.1.1 ≤ x1.2.1)))), -⟩ := hf
      obtain ⟨s_2, -⟩ := hsl
      refine sg_t rfl rfl rfl f_29 (fun hg => ?_)
      exact or_field fo25_0 (s_2.trans e25_2) (by rfl)
    refine steps_cons (fun own a wx hf hsl hE => ?_) ?_
    · obtain ⟨(f_29 : a.eval (.tmp 29) = .bool (x28 && (decide (b2.1.1 ≤ x1.2.1)))), c_30, -⟩ := hf
      refine sg_t rfl rfl rfl f_29 (fun hg => ?_)
      have f_30 : a.eval (.tmp 30) = .pointer (some ⟨g21, 0, none⟩) := c_30.1 hg
      exact or_field fo23_1 f_30 (by rfl)
    refine steps_cons (fun own a wx hf hsl hE => ?_) ?_
    · obtain ⟨(f_29 : a.eval (.tmp 29) = .bool (x28 && (decide (b2.1.1 ≤ x1.2.1)))), c_31, -⟩ := hf
      refine sg_t rfl rfl rfl f_29 (fun hg => ?_)
      have f_31 : a.eval (.tmp 31) = .pointer (some ⟨g21, 1, none⟩) := c_31.1 hg
      exact or_load1 to3 f_31 (Blk.at_ (BlkO.evo (by decide) hE b25_g21).2 1 rfl)
    refine steps_cons (fun own a wx hf hsl hE => ?_) ?_
    · obtain ⟨(f_29 : a.eval (.tmp 29) = .bool (x28 && (decide (b2.1.1 ≤ x1.2.1)))), -⟩ := hf
      obtain ⟨s_3, -⟩ := hsl
      refine sg_t rfl rfl rfl f_29 (fun hg => ?_)
      exact or_field fo25_1 (s_3.trans e25_3) (by rfl)
    refine steps_cons (fun own a wx hf hsl hE => ?_) ?_
    · obtain ⟨(f_29 : a.eval (.tmp 29) = .bool (x28 && (decide (b2.1.1 ≤ x1.2.1)))), c_33, -⟩ := hf
      refine sg_t rfl rfl rfl f_29 (fun hg => ?_)
      have f_33 : a.eval (.tmp 33) = .pointer (some ⟨g23, 2, none⟩) := c_33.1 hg
      exact or_field fo23_1 f_33 (by rfl)
    refine steps_cons (fun own a wx hf hsl hE => ?_) ?_
    · obtain ⟨(f_29 : a.eval (.tmp 29) = .bool (x28 && (decide (b2.1.1 ≤ x1.2.1)))), c_34, -⟩ := hf
      refine sg_t rfl rfl rfl f_29 (fun hg => ?_)
      have f_34 : a.eval (.tmp 34) = .pointer (some ⟨g23, 3, none⟩) := c_34.1 hg
      exact or_load1 to3 f_34 (Blk.at_ (BlkO.evo (by decide) hE b25_g23).2 3 rfl)
    refine steps_cons (fun own a wx hf hsl hE => ?_) ?_
    · obtain ⟨(f_29 : a.eval (.tmp 29) = .bool (x28 && (decide (b2.1.1 ≤ x1.2.1)))), c_32, c_35, -⟩ := hf
      refine sg_t rfl rfl rfl f_29 (fun hg => ?_)
      have f_32 : a.eval (.tmp 32) = .int .i64 x1.1.2 := c_32.1 hg
      have f_35 : a.eval (.tmp 35) = .int .i64 b2.2.2 := c_35.1 hg
      exact or_leq f_32 f_35 rfl
    refine steps_cons (fun own a wx hf hsl hE => ?_) ?_
    · obtain ⟨(f_29 : a.eval (.tmp 29) = .bool (x28 && (decide (b2.1.1 ≤ x1.2.1)))), c_36, -⟩ := hf
      exact sg_plain rfl rfl (or_and f_29 (fun hx => c_36.1 hx) rfl (osome hx29).symm)
    refine steps_cons (fun own a wx hf hsl hE => ?_) ?_
    · obtain ⟨(f_37 : a.eval (.tmp 37) = .bool x29), -⟩ := hf
      exact sg_plain rfl rfl (or_move f_37)
    refine steps_cons (fun own a wx hf hsl hE => ?_) ?_
    · obtain ⟨(f_38 : a.eval (.tmp 38) = .bool x29), -⟩ := hf
      obtain ⟨s_3, -⟩ := hsl
      refine sg_t rfl rfl rfl f_38 (fun hg => ?_)
      exact or_field fo25_0 (s_3.trans e25_3) (by rfl)
    refine steps_cons (fun own a wx hf hsl hE => ?_) ?_
    · obtain ⟨(f_38 : a.eval (.tmp 38) = .bool x29), c_39, -⟩ := hf
      refine sg_t rfl rfl rfl f_38 (fun hg => ?_)
      have f_39 : a.eval (.tmp 39) = .pointer (some ⟨g23, 0, none⟩) := c_39.1 hg
      exact or_field fo23_1 f_39 (by rfl)
    refine steps_cons (fun own a wx hf hsl hE => ?_) ?_
    · obtain ⟨(f_38 : a.eval (.tmp 38) = .bool x29), c_40, -⟩ := hf
      refine sg_t rfl rfl rfl f_38 (fun hg => ?_)
      have f_40 : a.eval (.tmp 40) = .pointer (some ⟨g23, 1, none⟩) := c_40.1 hg
      exact or_load1 to3 f_40 (Blk.at_ (BlkO.evo (by decide) hE b25_g23).2 1 rfl)
    refine steps_cons (fun own a wx hf hsl hE => ?_) ?_
    · obtain ⟨(f_38 : a.eval (.tmp 38) = .bool x29), -⟩ := hf
      obtain ⟨s_2, -⟩ := hsl
      refine sg_t rfl rfl rfl f_38 (fun hg => ?_)
      exact or_field fo25_1 (s_2.trans e25_2) (by rfl)
    refine steps_cons (fun own a wx hf hsl hE => ?_) ?_
    · obtain ⟨(f_38 : a.eval (.tmp 38) = .bool x29), c_42, -⟩ := hf
      refine sg_t rfl rfl rfl f_38 (fun hg => ?_)
      have f_42 : a.eval (.tmp 42) = .pointer (some ⟨g21, 2, none⟩) := c_42.1 hg
      exact or_field fo23_1 f_42 (by rfl)
    refine steps_cons (fun own a wx hf hsl hE => ?_) ?_
    · obtain ⟨(f_38 : a.eval (.tmp 38) = .bool x29), c_43, -⟩ := hf
      refine sg_t rfl rfl rfl f_38 (fun hg => ?_)
      have f_43 : a.eval (.tmp 43) = .pointer (some ⟨g21, 3, none⟩) := c_43.1 hg
      exact or_load1 to3 f_43 (Blk.at_ (BlkO.evo (by decide) hE b25_g21).2 3 rfl)
    refine steps_cons (fun own a wx hf hsl hE => ?_) ?_
    · obtain ⟨(f_38 : a.eval (.tmp 38) = .bool x29), c_41, c_44, -⟩ := hf
      refine sg_t rfl rfl rfl f_38 (fun hg => ?_)
      have f_41 : a.eval (.tmp 41) = .int .i64 b2.1.2 := c_41.1 hg
      have f_44 : a.eval (.tmp 44) = .int .i64 x1.2.2 := c_44.1 hg
      exact or_leq f_41 f_44 rfl
    refine steps_cons (fun own a wx hf hsl hE => ?_) ?_
    · obtain ⟨(f_38 : a.eval (.tmp 38) = .bool x29), c_45, -⟩ := hf
      exact sg_plain rfl rfl (or_and f_38 (fun hx => c_45.1 hx) rfl rfl)
    refine steps_cons (fun own a wx hf hsl hE => ?_) ?_
    · obtain ⟨(f_46 : a.eval (.tmp 46) = .bool (x29 && (decide (b2.1.2 ≤ x1.2.2)))), -⟩ := hf
      exact sg_plain rfl rfl (or_assign f_46)
    exact steps_nil
  intro own30 a30 w30 hd30 hz30 hk30 hf30 hE30
  obtain ⟨(f_4 : a30.eval (.tmp 4) = .bool (x29 && (decide (b2.1.2 ≤ x1.2.2)))), -⟩ := hf30 [42] rfl
  have e30_4 := f_4
  have hX30 := Evo.step hX25 (fun _ => Nat.le_refl 0) hE30 rfl
  refine fl_ret ?_
  obtain rfl := osome hs
  exact hret _ _ _ _ (.inl rfl) hd30 (results1_ rfl (RVal.tmp_ e30_4)) ⟨own30, rfl, hX30⟩

set_option maxHeartbeats 2000000 in
theorem law20_WindowShows_w (w : World) (z1 : Int) (buffer2 : Int) (p3 : Int × Int) (b4 : (Int × Int) × (Int × Int)) (r : Bool) (hs : law20_WindowShows z1 buffer2 p3 b4 = some r) :
    Calls Try.prog 3 #[.int .i64 z1, .int .i64 buffer2, .agg #[.int .i64 p3.1, .int .i64 p3.2], .agg #[.int .i64 b4.1.1, .int .i64 b4.1.2, .int .i64 b4.2.1, .int .i64 b4.2.2]] w fun e w' => ∃ own' : Own, e = .returned (.bool r) ∧ Evo [] (fun _ => 0) own' w w' := by
  refine fl_enter (n := 132) rfl rfl rfl (Nat.le_of_ble_eq_true rfl) ?_
  intro a0 Q hd0 hz0 harg hret
  have ha0 := harg 0 _ rfl
  have ha1 := harg 1 _ rfl
  have ha2 := harg 2 _ rfl
  have ha3 := harg 3 _ rfl
  clear harg
  have hE0 : Evo [] (fun _ => 0) (fun _ => 0) w w := Evo.refl _ _ _
  refine rg_plain_seq (n := 132) (rs := []) (own0 := (fun _ => 0)) (K := [])
      (bs := [0, 0, 0])
      (ds := [⟨[], [2], [], Fct.blk 96 6 (fun g => .pointer (some ⟨g, 0, none⟩)) 23 #[.int .i64 p3.1, .int .i64 p3.2]⟩,
      ⟨[], [3], [], Fct.blk 98 7 (fun g => .pointer (some ⟨g, 0, none⟩)) 25 #[.int .i64 b4.1.1, .int .i64 b4.1.2, .int .i64 b4.2.1, .int .i64 b4.2.2]⟩,
      ⟨[], [], [], Fct.val 8 (.bool false)⟩]) (by kernel_rfl) hz0 hd0 (fun _ h => nomatch h) ?_ ?_
  · refine steps_cons (fun own a wx hf hsl hE => ?_) ?_
    · obtain ⟨s_2, -⟩ := hsl
      exact sg_plain rfl rfl (or_new [(2, .agg #[.int .i64 p3.1, .int .i64 p3.2])] rfl rfl ⟨(s_2.trans ha2), trivial⟩ (by kernel_rfl))
    refine steps_cons (fun own a wx hf hsl hE => ?_) ?_
    · obtain ⟨s_3, -⟩ := hsl
      exact sg_plain rfl rfl (or_new [(3, .agg #[.int .i64 b4.1.1, .int .i64 b4.1.2, .int .i64 b4.2.1, .int .i64 b4.2.2])] rfl rfl ⟨(s_3.trans ha3), trivial⟩ (by kernel_rfl))
    refine steps_cons (fun own a wx hf hsl hE => ?_) ?_
    · exact sg_plain rfl rfl (or_assign rfl)
    exact steps_nil
  intro own99 a99 w99 hd99 hz99 hk99 hf99 hE99
  have e99_0 : a99.eval (.tmp 0) = .int .i64 z1 := (hk99 0 rfl).trans ha0
  have e99_1 : a99.eval (.tmp 1) = .int .i64 buffer2 := (hk99 1 rfl).trans ha1
  obtain ⟨⟨g95, (f_6 : a99.eval (.tmp 6) = .pointer (some ⟨g95, 0, none⟩)), (b_g95 : BlkO own99 96 w99 g95 23 #[.int .i64 p3.1, .int .i64 p3.2])⟩, ⟨g97, (f_7 : a99.eval (.tmp 7) = .pointer (some ⟨g97, 0, none⟩)), (b_g97 : BlkO own99 98 w99 g97 25 #[.int .i64 b4.1.1, .int .i64 b4.1.2, .int .i64 b4.2.1, .int .i64 b4.2.2])⟩, -⟩ := hf99 [0, 1] rfl
  have e99_6 := f_6
  have e99_7 := f_7
  have hX99 := Evo.step hE0 (fun _ => Nat.le_refl 0) hE99 rfl
  have b99_g95 := b_g95
  have b99_g97 := b_g97
  obtain ⟨r100, hr100, hs⟩ := obind hs
  refine rg_plain_seq (n := 132) (rs := []) (own0 := own99) (K := [102])
      (bs := [0, 0, 3, 7, 15, 15, 0, 95, 255])
      (ds := [⟨[], [0], [], Fct.val 21 (.int .i64 z1)⟩,
      ⟨[], [6], [], Fct.val 22 (.agg #[.int .i64 p3.1, .int .i64 p3.2])⟩,
      ⟨[0, 1], [], [], Fct.val 23 (.tuple #[.agg #[.int .i64 r100.1.1, .int .i64 r100.1.2.1, .int .i64 r100.1.2.2], .bool r100.2])⟩,
      ⟨[2], [], [], Fct.val 20 (.tuple #[.agg #[.int .i64 r100.1.1, .int .i64 r100.1.2.1, .int .i64 r100.1.2.2], .bool r100.2])⟩,
      ⟨[3], [], [], Fct.val 24 (.agg #[.int .i64 r100.1.1, .int .i64 r100.1.2.1, .int .i64 r100.1.2.2])⟩,
      ⟨[3], [], [], Fct.val 25 (.bool r100.2)⟩,
      ⟨[], [], [], Fct.blk 102 9 (fun g => .pointer (some ⟨g, 0, none⟩)) 27 #[.int .i64 0, .int .i64 0, .int .i64 0]⟩,
      ⟨[6, 4], [], [102], Fct.blk 103 9 (fun g => .pointer (some ⟨g, 0, none⟩)) 27 #[.int .i64 r100.1.1, .int .i64 r100.1.2.1, .int .i64 r100.1.2.2]⟩,
      ⟨[5], [], [], Fct.val 10 (.bool r100.2)⟩]) (by kernel_rfl) hz99 hd99 (fun _ h => nomatch h) ?_ ?_
  · refine steps_cons (fun own a wx hf hsl hE => ?_) ?_
    · obtain ⟨s_0, -⟩ := hsl
      exact sg_plain rfl rfl (or_move (s_0.trans e99_0))
    refine steps_cons (fun own a wx hf hsl hE => ?_) ?_
    · obtain ⟨s_6, -⟩ := hsl
      exact sg_plain rfl rfl (or_load (l := [.int .i64 p3.1, .int .i64 p3.2]) ta23 (s_6.trans e99_6) (Blk.cellsFrom (BlkO.evo (by decide) hE b99_g95).2 0 rfl) rfl)
    refine steps_cons (fun own a wx hf hsl hE => ?_) ?_
    · obtain ⟨(f_21 : a.eval (.tmp 21) = .int .i64 z1), (f_22 : a.eval (.tmp 22) = .agg #[.int .i64 p3.1, .int .i64 p3.2]), -⟩ := hf
      exact sg_plain rfl rfl (or_call cf7 (args2 f_21 f_22) (window_Of_w _ z1 p3  r100 hr100) post_val)
    refine steps_cons (fun own a wx hf hsl hE => ?_) ?_
    · obtain ⟨(f_23 : a.eval (.tmp 23) = .tuple #[.agg #[.int .i64 r100.1.1, .int .i64 r100.1.2.1, .int .i64 r100.1.2.2], .bool r100.2]), -⟩ := hf
      exact sg_plain rfl rfl (or_move f_23)
    refine steps_cons (fun own a wx hf hsl hE => ?_) ?_
    · obtain ⟨(f_20 : a.eval (.tmp 20) = .tuple #[.agg #[.int .i64 r100.1.1, .int .i64 r100.1.2.1, .int .i64 r100.1.2.2], .bool r100.2]), -⟩ := hf
      exact sg_plain rfl rfl (or_k [(20, .tuple #[.agg #[.int .i64 r100.1.1, .int .i64 r100.1.2.1, .int .i64 r100.1.2.2], .bool r100.2])] rfl rfl ⟨f_20, trivial⟩ (by kernel_rfl))
    refine steps_cons (fun own a wx hf hsl hE => ?_) ?_
    · obtain ⟨(f_20 : a.eval (.tmp 20) = .tuple #[.agg #[.int .i64 r100.1.1, .int .i64 r100.1.2.1, .int .i64 r100.1.2.2], .bool r100.2]), -⟩ := hf
      exact sg_plain rfl rfl (or_k [(20, .tuple #[.agg #[.int .i64 r100.1.1, .int .i64 r100.1.2.1, .int .i64 r100.1.2.2], .bool r100.2])] rfl rfl ⟨f_20, trivial⟩ (by kernel_rfl))
    refine steps_cons (fun own a wx hf hsl hE => ?_) ?_
    · exact sg_plain rfl rfl (or_new [] rfl rfl trivial (by kernel_rfl))
    refine steps_cons (fun own a wx hf hsl hE => ?_) ?_
    · obtain ⟨⟨g101, (f_9 : a.eval (.tmp 9) = .pointer (some ⟨g101, 0, none⟩)), (b_g101 : BlkO own 102 wx g101 27 #[.int .i64 0, .int .i64 0, .int .i64 0])⟩, (f_24 : a.eval (.tmp 24) = .agg #[.int .i64 r100.1.1, .int .i64 r100.1.2.1, .int .i64 r100.1.2.2]), -⟩ := hf
      exact sg_plain rfl rfl (or_store (l := #[.int .i64 r100.1.1, .int .i64 r100.1.2.1, .int .i64 r100.1.2.2]) (lab := 102) (lab2 := 103) ts27 f_9 f_24 b_g101 (by simp) (by kernel_rfl) (mem_of rfl) (by decide) (by kernel_rfl) (fun own' a' w' ha hb => ⟨_, (ha 9).trans f_9, hb⟩))
    refine steps_cons (fun own a wx hf hsl hE => ?_) ?_
    · obtain ⟨(f_25 : a.eval (.tmp 25) = .bool r100.2), -⟩ := hf
      exact sg_plain rfl rfl (or_assign f_25)
    exact steps_nil
  intro own104 a104 w104 hd104 hz104 hk104 hf104 hE104
  have e104_0 : a104.eval (.tmp 0) = .int .i64 z1 := (hk104 0 rfl).trans e99_0
  have e104_1 : a104.eval (.tmp 1) = .int .i64 buffer2 := (hk104 1 rfl).trans e99_1
  have e104_6 : a104.eval (.tmp 6) = .pointer (some ⟨g95, 0, none⟩) := (hk104 6 rfl).trans e99_6
  have e104_7 : a104.eval (.tmp 7) = .pointer (some ⟨g97, 0, none⟩) := (hk104 7 rfl).trans e99_7
  obtain ⟨⟨g101, (f_9 : a104.eval (.tmp 9) = .pointer (some ⟨g101, 0, none⟩)), (b_g101 : BlkO own104 103 w104 g101 27 #[.int .i64 r100.1.1, .int .i64 r100.1.2.1, .int .i64 r100.1.2.2])⟩, (f_10 : a104.eval (.tmp 10) = .bool r100.2), -⟩ := hf104 [7, 8] rfl
  have e104_9 := f_9
  have e104_10 := f_10
  have hX104 := Evo.step hX99 (fun _ => Nat.le_refl 0) hE104 rfl
  have b104_g95 := BlkO.evo (by decide) hE104 b99_g95
  have b104_g97 := BlkO.evo (by decide) hE104 b99_g97
  have b104_g101 := b_g101
  obtain ⟨r105, hr105, hs⟩ := obind hs
  obtain ⟨r106, hr106, hs⟩ := obind hs
  refine rg_plain_seq (n := 132) (rs := []) (own0 := own104) (K := [108])
      (bs := [0, 0, 2, 7, 15, 31, 31, 0, 191, 511])
      (ds := [⟨[], [0], [], Fct.val 27 (.int .i64 z1)⟩,
      ⟨[], [6], [], Fct.val 28 (.agg #[.int .i64 p3.1, .int .i64 p3.2])⟩,
      ⟨[1], [], [], Fct.val 29 (.agg #[.int .i64 r105.1, .int .i64 r105.2])⟩,
      ⟨[0, 2], [], [], Fct.val 30 (.tuple #[.agg #[.int .i64 r106.1.1, .int .i64 r106.1.2.1, .int .i64 r106.1.2.2], .bool r106.2])⟩,
      ⟨[3], [], [], Fct.val 26 (.tuple #[.agg #[.int .i64 r106.1.1, .int .i64 r106.1.2.1, .int .i64 r106.1.2.2], .bool r106.2])⟩,
      ⟨[4], [], [], Fct.val 31 (.agg #[.int .i64 r106.1.1, .int .i64 r106.1.2.1, .int .i64 r106.1.2.2])⟩,
      ⟨[4], [], [], Fct.val 32 (.bool r106.2)⟩,
      ⟨[], [], [], Fct.blk 108 11 (fun g => .pointer (some ⟨g, 0, none⟩)) 30 #[.int .i64 0, .int .i64 0, .int .i64 0]⟩,
      ⟨[7, 5], [], [108], Fct.blk 109 11 (fun g => .pointer (some ⟨g, 0, none⟩)) 30 #[.int .i64 r106.1.1, .int .i64 r106.1.2.1, .int .i64 r106.1.2.2]⟩,
      ⟨[6], [], [], Fct.val 12 (.bool r106.2)⟩]) (by kernel_rfl) hz104 hd104 (fun _ h => nomatch h) ?_ ?_
  · refine steps_cons (fun own a wx hf hsl hE => ?_) ?_
    · obtain ⟨s_0, -⟩ := hsl
      exact sg_plain rfl rfl (or_move (s_0.trans e104_0))
    refine steps_cons (fun own a wx hf hsl hE => ?_) ?_
    · obtain ⟨s_6, -⟩ := hsl
      exact sg_plain rfl rfl (or_load (l := [.int .i64 p3.1, .int .i64 p3.2]) ta23 (s_6.trans e104_6) (Blk.cellsFrom (BlkO.evo (by decide) hE b104_g95).2 0 rfl) rfl)
    refine steps_cons (fun own a wx hf hsl hE => ?_) ?_
    · obtain ⟨(f_28 : a.eval (.tmp 28) = .agg #[.int .i64 p3.1, .int .i64 p3.2]), -⟩ := hf
      exact sg_plain rfl rfl (or_call cf9 (args1 f_28) (law01_Of_w _ p3  r105 hr105) post_val)
    refine steps_cons (fun own a wx hf hsl hE => ?_) ?_
    · obtain ⟨(f_27 : a.eval (.tmp 27) = .int .i64 z1), (f_29 : a.eval (.tmp 29) = .agg #[.int .i64 r105.1, .int .i64 r105.2]), -⟩ := hf
      exact sg_plain rfl rfl (or_call cf8 (args2 f_27 f_29) (ref20_Of_w _ z1 r105  r106 hr106) post_val)
    refine steps_cons (fun own a wx hf hsl hE => ?_) ?_
    · obtain ⟨(f_30 : a.eval (.tmp 30) = .tuple #[.agg #[.int .i64 r106.1.1, .int .i64 r106.1.2.1, .int .i64 r106.1.2.2], .bool r106.2]), -⟩ := hf
      exact sg_plain rfl rfl (or_move f_30)
    refine steps_cons (fun own a wx hf hsl hE => ?_) ?_
    · obtain ⟨(f_26 : a.eval (.tmp 26) = .tuple #[.agg #[.int .i64 r106.1.1, .int .i64 r106.1.2.1, .int .i64 r106.1.2.2], .bool r106.2]), -⟩ := hf
      exact sg_plain rfl rfl (or_k [(26, .tuple #[.agg #[.int .i64 r106.1.1, .int .i64 r106.1.2.1, .int .i64 r106.1.2.2], .bool r106.2])] rfl rfl ⟨f_26, trivial⟩ (by kernel_rfl))
    refine steps_cons (fun own a wx hf hsl hE => ?_) ?_
    · obtain ⟨(f_26 : a.eval (.tmp 26) = .tuple #[.agg #[.int .i64 r106.1.1, .int .i64 r106.1.2.1, .int .i64 r106.1.2.2], .bool r106.2]), -⟩ := hf
      exact sg_plain rfl rfl (or_k [(26, .tuple #[.agg #[.int .i64 r106.1.1, .int .i64 r106.1.2.1, .int .i64 r106.1.2.2], .bool r106.2])] rfl rfl ⟨f_26, trivial⟩ (by kernel_rfl))
    refine steps_cons (fun own a wx hf hsl hE => ?_) ?_
    · exact sg_plain rfl rfl (or_new [] rfl rfl trivial (by kernel_rfl))
    refine steps_cons (fun own a wx hf hsl hE => ?_) ?_
    · obtain ⟨⟨g107, (f_11 : a.eval (.tmp 11) = .pointer (some ⟨g107, 0, none⟩)), (b_g107 : BlkO own 108 wx g107 30 #[.int .i64 0, .int .i64 0, .int .i64 0])⟩, (f_31 : a.eval (.tmp 31) = .agg #[.int .i64 r106.1.1, .int .i64 r106.1.2.1, .int .i64 r106.1.2.2]), -⟩ := hf
      exact sg_plain rfl rfl (or_store (l := #[.int .i64 r106.1.1, .int .i64 r106.1.2.1, .int .i64 r106.1.2.2]) (lab := 108) (lab2 := 109) ts30 f_11 f_31 b_g107 (by simp) (by kernel_rfl) (mem_of rfl) (by decide) (by kernel_rfl) (fun own' a' w' ha hb => ⟨_, (ha 11).trans f_11, hb⟩))
    refine steps_cons (fun own a wx hf hsl hE => ?_) ?_
    · obtain ⟨(f_32 : a.eval (.tmp 32) = .bool r106.2), -⟩ := hf
      exact sg_plain rfl rfl (or_assign f_32)
    exact steps_nil
  intro own110 a110 w110 hd110 hz110 hk110 hf110 hE110
  have e110_0 : a110.eval (.tmp 0) = .int .i64 z1 := (hk110 0 rfl).trans e104_0
  have e110_1 : a110.eval (.tmp 1) = .int .i64 buffer2 := (hk110 1 rfl).trans e104_1
  have e110_6 : a110.eval (.tmp 6) = .pointer (some ⟨g95, 0, none⟩) := (hk110 6 rfl).trans e104_6
  have e110_7 : a110.eval (.tmp 7) = .pointer (some ⟨g97, 0, none⟩) := (hk110 7 rfl).trans e104_7
  have e110_9 : a110.eval (.tmp 9) = .pointer (some ⟨g101, 0, none⟩) := (hk110 9 rfl).trans e104_9
  have e110_10 : a110.eval (.tmp 10) = .bool r100.2 := (hk110 10 rfl).trans e104_10
  obtain ⟨⟨g107, (f_11 : a110.eval (.tmp 11) = .pointer (some ⟨g107, 0, none⟩)), (b_g107 : BlkO own110 109 w110 g107 30 #[.int .i64 r106.1.1, .int .i64 r106.1.2.1, .int .i64 r106.1.2.2])⟩, (f_12 : a110.eval (.tmp 12) = .bool r106.2), -⟩ := hf110 [8, 9] rfl
  have e110_11 := f_11
  have e110_12 := f_12
  have hX110 := Evo.step hX104 (fun _ => Nat.le_refl 0) hE110 rfl
  have b110_g95 := BlkO.evo (by decide) hE110 b104_g95
  have b110_g97 := BlkO.evo (by decide) hE110 b104_g97
  have b110_g101 := BlkO.evo (by decide) hE110 b104_g101
  have b110_g107 := b_g107
  obtain ⟨r111, hr111, hs⟩ := obind hs
  refine rg_plain_seq (n := 132) (rs := []) (own0 := own110) (K := [])
      (bs := [0, 0, 0, 7, 15])
      (ds := [⟨[], [0], [], Fct.val 33 (.int .i64 z1)⟩,
      ⟨[], [1], [], Fct.val 34 (.int .i64 buffer2)⟩,
      ⟨[], [7], [], Fct.val 35 (.agg #[.int .i64 b4.1.1, .int .i64 b4.1.2, .int .i64 b4.2.1, .int .i64 b4.2.2])⟩,
      ⟨[0, 1, 2], [], [], Fct.row 113 [] 36 27 R27 r111⟩,
      ⟨[3], [], [], Fct.rel [13, 36] (fun l => ∀ (A112 : Option Addr) (cA112 : Nat), l.getD 1 undef = .slice A112 r111.length cA112 → l.getD 0 undef = .slice A112 r111.length cA112)⟩]) (by kernel_rfl) hz110 hd110 (fun _ h => nomatch h) ?_ ?_
  · refine steps_cons (fun own a wx hf hsl hE => ?_) ?_
    · obtain ⟨s_0, -⟩ := hsl
      exact sg_plain rfl rfl (or_move (s_0.trans e110_0))
    refine steps_cons (fun own a wx hf hsl hE => ?_) ?_
    · obtain ⟨s_1, -⟩ := hsl
      exact sg_plain rfl rfl (or_move (s_1.trans e110_1))
    refine steps_cons (fun own a wx hf hsl hE => ?_) ?_
    · obtain ⟨s_7, -⟩ := hsl
      exact sg_plain rfl rfl (or_load (l := [.int .i64 b4.1.1, .int .i64 b4.1.2, .int .i64 b4.2.1, .int .i64 b4.2.2]) ta25 (s_7.trans e110_7) (Blk.cellsFrom (BlkO.evo (by decide) hE b110_g97).2 0 rfl) rfl)
    refine steps_cons (fun own a wx hf hsl hE => ?_) ?_
    · obtain ⟨(f_33 : a.eval (.tmp 33) = .int .i64 z1), (f_34 : a.eval (.tmp 34) = .int .i64 buffer2), (f_35 : a.eval (.tmp 35) = .agg #[.int .i64 b4.1.1, .int .i64 b4.1.2, .int .i64 b4.2.1, .int .i64 b4.2.2]), -⟩ := hf
      exact sg_plain rfl rfl (or_call cf10 (args3 f_33 f_34 f_35) (window_Shown_w _ z1 buffer2 b4  r111 hr111) (post_row (m' := (look0 [(1, 113)])) (.inl (Rep.fl_flat _)) rfl rfl (fun _ => rfl)))
    refine steps_cons (fun own a wx hf hsl hE => ?_) ?_
    · obtain ⟨⟨⟨A112, cA112⟩, (f_36 : a.eval (.tmp 36) = .slice A112 r111.length cA112), (b_A112 : RwO own 113 [] wx 27 R27 A112 cA112 r111)⟩, -⟩ := hf
      exact sg_plain rfl rfl (or_mono (f := Fct.val 13 (.slice A112 r111.length cA112)) (or_assign f_36) (fun own' a' w' v' hp h => fun _ _ h0' => by cases (f_36.symm.trans ((hp.2 36 (by decide)).symm.trans h0')); exact h))
    exact steps_nil
  intro own114 a114 w114 hd114 hz114 hk114 hf114 hE114
  have e114_0 : a114.eval (.tmp 0) = .int .i64 z1 := (hk114 0 rfl).trans e110_0
  have e114_1 : a114.eval (.tmp 1) = .int .i64 buffer2 := (hk114 1 rfl).trans e110_1
  have e114_6 : a114.eval (.tmp 6) = .pointer (some ⟨g95, 0, none⟩) := (hk114 6 rfl).trans e110_6
  have e114_7 : a114.eval (.tmp 7) = .pointer (some ⟨g97, 0, none⟩) := (hk114 7 rfl).trans e110_7
  have e114_9 : a114.eval (.tmp 9) = .pointer (some ⟨g101, 0, none⟩) := (hk114 9 rfl).trans e110_9
  have e114_10 : a114.eval (.tmp 10) = .bool r100.2 := (hk114 10 rfl).trans e110_10
  have e114_11 : a114.eval (.tmp 11) = .pointer (some ⟨g107, 0, none⟩) := (hk114 11 rfl).trans e110_11
  have e114_12 : a114.eval (.tmp 12) = .bool r106.2 := (hk114 12 rfl).trans e110_12
  obtain ⟨⟨⟨A112, cA112⟩, (f_36 : a114.eval (.tmp 36) = .slice A112 r111.length cA112), (b_A112 : RwO own114 113 [] w114 27 R27 A112 cA112 r111)⟩, (q_13 : ∀ (A112 : Option Addr) (cA112 : Nat), a114.eval (.tmp 36) = .slice A112 r111.length cA112 → a114.eval (.tmp 13) = .slice A112 r111.length cA112), -⟩ := hf114 [3, 4] rfl
  have f_13 := q_13 _ _ f_36
  have e114_13 := f_13
  have hX114 := Evo.step hX110 (fun _ => Nat.le_refl 0) hE114 rfl
  have b114_g95 := BlkO.evo (by decide) hE114 b110_g95
  have b114_g97 := BlkO.evo (by decide) hE114 b110_g97
  have b114_g101 := BlkO.evo (by decide) hE114 b110_g101
  have b114_g107 := BlkO.evo (by decide) hE114 b110_g107
  have b114_A112 := b_A112
  refine fl_seq (fun Q115 hn115 hp115 => ?_)
  obtain ⟨x116, hx116, hs⟩ := obind hs
  obtain ⟨r117, hr117, hs⟩ := obind hs
  obtain ⟨r118, hr118, hs⟩ := obind hs
  obtain ⟨r121, hr121, hs⟩ := obind hs
  refine rg_plain_seq (n := 132) (rs := []) (own0 := own114) (K := [])
      (bs := [0, 0, 3, 7, 15, 15, 63, 127, 255, 511, 511, 511, 511, 4607, 15871, 32767, 65535, 131071])
      (ds := [⟨[], [10], [], Fct.val 37 (.bool r100.2)⟩,
      ⟨[], [12], [], Fct.val 38 (.bool r106.2)⟩,
      ⟨[0, 1], [], [], Fct.val 39 (.bool (!(r100.2 == r106.2)))⟩,
      ⟨[2], [], [], Fct.val 40 (.bool (!(r100.2 == r106.2)))⟩,
      ⟨[3], [9], [], Fct.cond (!(!(r100.2 == r106.2))) (some 41) (Fct.val 41 (.agg #[.int .i64 r100.1.1, .int .i64 r100.1.2.1, .int .i64 r100.1.2.2]))⟩,
      ⟨[3], [11], [], Fct.cond (!(!(r100.2 == r106.2))) (some 42) (Fct.val 42 (.agg #[.int .i64 r106.1.1, .int .i64 r106.1.2.1, .int .i64 r106.1.2.2]))⟩,
      ⟨[3, 4, 5], [], [], Fct.cond (!(!(r100.2 == r106.2))) (some 43) (Fct.val 43 (.bool (!decide (r100.1 = r106.1))))⟩,
      ⟨[3, 6], [], [], Fct.val 44 (.bool x116)⟩,
      ⟨[7], [], [], Fct.val 45 (.bool x116)⟩,
      ⟨[8], [13], [], Fct.cond (!x116) (some 46) (Fct.val 46 (.slice A112 r111.length cA112))⟩,
      ⟨[8], [0], [], Fct.cond (!x116) (some 47) (Fct.val 47 (.int .i64 z1))⟩,
      ⟨[8], [1], [], Fct.cond (!x116) (some 48) (Fct.val 48 (.int .i64 buffer2))⟩,
      ⟨[8], [7], [], Fct.cond (!x116) (some 49) (Fct.val 49 (.agg #[.int .i64 b4.1.1, .int .i64 b4.1.2, .int .i64 b4.2.1, .int .i64 b4.2.2]))⟩,
      ⟨[8, 12], [], [], Fct.cond (!x116) (some 50) (Fct.val 50 (.agg #[.int .i64 r117.1.1, .int .i64 r117.1.2, .int .i64 r117.2.1, .int .i64 r117.2.2]))⟩,
      ⟨[8, 10, 11, 13], [], [], Fct.cond (!x116) (some 51) (Fct.row 120 [] 51 30 R30 r118)⟩,
      ⟨[8, 9, 14], [], [], Fct.cond (!x116) (some 52) (Fct.val 52 (.bool r121))⟩,
      ⟨[8, 15], [], [], Fct.cond (!x116) (some 53) (Fct.val 53 (.bool (!r121)))⟩,
      ⟨[8, 16], [], [], Fct.val 54 (.bool (x116 || (!r121)))⟩]) (by kernel_rfl) hz114 hd114 (fun _ h => nomatch h) ?_ ?_
  · refine steps_cons (fun own a wx hf hsl hE => ?_) ?_
    · obtain ⟨s_10, -⟩ := hsl
      exact sg_plain rfl rfl (or_move (s_10.trans e114_10))
    refine steps_cons (fun own a wx hf hsl hE => ?_) ?_
    · obtain ⟨s_12, -⟩ := hsl
      exact sg_plain rfl rfl (or_move (s_12.trans e114_12))
    refine steps_cons (fun own a wx hf hsl hE => ?_) ?_
    · obtain ⟨(f_37 : a.eval (.tmp 37) = .bool r100.2), (f_38 : a.eval (.tmp 38) = .bool r106.2), -⟩ := hf
      exact sg_plain rfl rfl (or_neqb tb4 f_37 f_38 rfl)
    refine steps_cons (fun own a wx hf hsl hE => ?_) ?_
    · obtain ⟨(f_39 : a.eval (.tmp 39) = .bool (!(r100.2 == r106.2))), -⟩ := hf
      exact sg_plain rfl rfl (or_move f_39)
    refine steps_cons (fun own a wx hf hsl hE => ?_) ?_
    · obtain ⟨(f_40 : a.eval (.tmp 40) = .bool (!(r100.2 == r106.2))), -⟩ := hf
      obtain ⟨s_9, -⟩ := hsl
      refine sg_f rfl rfl rfl f_40 (fun hg => ?_)
      exact or_load (l := [.int .i64 r100.1.1, .int .i64 r100.1.2.1, .int .i64 r100.1.2.2]) ta27 (s_9.trans e114_9) (Blk.cellsFrom (BlkO.evo (by decide) hE b114_g101).2 0 rfl) rfl
    refine steps_cons (fun own a wx hf hsl hE => ?_) ?_
    · obtain ⟨(f_40 : a.eval (.tmp 40) = .bool (!(r100.2 == r106.2))), -⟩ := hf
      obtain ⟨s_11, -⟩ := hsl
      refine sg_f rfl rfl rfl f_40 (fun hg => ?_)
      exact or_load (l := [.int .i64 r106.1.1, .int .i64 r106.1.2.1, .int .i64 r106.1.2.2]) ta30 (s_11.trans e114_11) (Blk.cellsFrom (BlkO.evo (by decide) hE b114_g107).2 0 rfl) rfl
    refine steps_cons (fun own a wx hf hsl hE => ?_) ?_
    · obtain ⟨(f_40 : a.eval (.tmp 40) = .bool (!(r100.2 == r106.2))), c_41, c_42, -⟩ := hf
      refine sg_f rfl rfl rfl f_40 (fun hg => ?_)
      have f_41 : a.eval (.tmp 41) = .agg #[.int .i64 r100.1.1, .int .i64 r100.1.2.1, .int .i64 r100.1.2.2] := c_41.1 hg
      have f_42 : a.eval (.tmp 42) = .agg #[.int .i64 r106.1.1, .int .i64 r106.1.2.1, .int .i64 r106.1.2.2] := c_42.1 hg
      exact or_neqA sg30 f_41 f_42 (sn30 r100.1.1 r100.1.2.1 r100.1.2.2 r106.1.1 r106.1.2.1 r106.1.2.2 _) rfl
    refine steps_cons (fun own a wx hf hsl hE => ?_) ?_
    · obtain ⟨(f_40 : a.eval (.tmp 40) = .bool (!(r100.2 == r106.2))), c_43, -⟩ := hf
      exact sg_plain rfl rfl (or_or f_40 rfl (fun hx => c_43.1 hx) (osome hx116).symm)
    refine steps_cons (fun own a wx hf hsl hE => ?_) ?_
    · obtain ⟨(f_44 : a.eval (.tmp 44) = .bool x116), -⟩ := hf
      exact sg_plain rfl rfl (or_move f_44)
    refine steps_cons (fun own a wx hf hsl hE => ?_) ?_
    · obtain ⟨(f_45 : a.eval (.tmp 45) = .bool x116), -⟩ := hf
      obtain ⟨s_13, -⟩ := hsl
      refine sg_f rfl rfl rfl f_45 (fun hg => ?_)
      exact or_move (s_13.trans e114_13)
    refine steps_cons (fun own a wx hf hsl hE => ?_) ?_
    · obtain ⟨(f_45 : a.eval (.tmp 45) = .bool x116), -⟩ := hf
      obtain ⟨s_0, -⟩ := hsl
      refine sg_f rfl rfl rfl f_45 (fun hg => ?_)
      exact or_move (s_0.trans e114_0)
    refine steps_cons (fun own a wx hf hsl hE => ?_) ?_
    · obtain ⟨(f_45 : a.eval (.tmp 45) = .bool x116), -⟩ := hf
      obtain ⟨s_1, -⟩ := hsl
      refine sg_f rfl rfl rfl f_45 (fun hg => ?_)
      exact or_move (s_1.trans e114_1)
    refine steps_cons (fun own a wx hf hsl hE => ?_) ?_
    · obtain ⟨(f_45 : a.eval (.tmp 45) = .bool x116), -⟩ := hf
      obtain ⟨s_7, -⟩ := hsl
      refine sg_f rfl rfl rfl f_45 (fun hg => ?_)
      exact or_load (l := [.int .i64 b4.1.1, .int .i64 b4.1.2, .int .i64 b4.2.1, .int .i64 b4.2.2]) ta25 (s_7.trans e114_7) (Blk.cellsFrom (BlkO.evo (by decide) hE b114_g97).2 0 rfl) rfl
    refine steps_cons (fun own a wx hf hsl hE => ?_) ?_
    · obtain ⟨(f_45 : a.eval (.tmp 45) = .bool x116), c_49, -⟩ := hf
      refine sg_f rfl rfl rfl f_45 (fun hg => ?_)
      have f_49 : a.eval (.tmp 49) = .agg #[.int .i64 b4.1.1, .int .i64 b4.1.2, .int .i64 b4.2.1, .int .i64 b4.2.2] := c_49.1 hg
      exact or_call cf13 (args1 f_49) (law20_box_w _ b4  r117 (gd_t hr117 hg)) post_val
    refine steps_cons (fun own a wx hf hsl hE => ?_) ?_
    · obtain ⟨(f_45 : a.eval (.tmp 45) = .bool x116), c_47, c_48, c_50, -⟩ := hf
      refine sg_f rfl rfl rfl f_45 (fun hg => ?_)
      have f_47 : a.eval (.tmp 47) = .int .i64 z1 := c_47.1 hg
      have f_48 : a.eval (.tmp 48) = .int .i64 buffer2 := c_48.1 hg
      have f_50 : a.eval (.tmp 50) = .agg #[.int .i64 r117.1.1, .int .i64 r117.1.2, .int .i64 r117.2.1, .int .i64 r117.2.2] := c_50.1 hg
      exact or_call cf12 (args3 f_47 f_48 f_50) (ref20_Shown_w _ z1 buffer2 r117  r118 (gd_t hr118 hg)) (post_row (m' := (look0 [(1, 120)])) (.inl (Rep.fl_flat _)) rfl rfl (fun _ => rfl))
    refine steps_cons (fun own a wx hf hsl hE => ?_) ?_
    · obtain ⟨(f_45 : a.eval (.tmp 45) = .bool x116), c_46, c_51, -⟩ := hf
      refine sg_f rfl rfl rfl f_45 (fun hg => ?_)
      have f_46 : a.eval (.tmp 46) = .slice A112 r111.length cA112 := c_46.1 hg
      obtain ⟨⟨A119, cA119⟩, (f_51 : a.eval (.tmp 51) = .slice A119 r118.length cA119), (b_A119 : RwO own 120 [] wx 30 R30 A119 cA119 r118)⟩ := c_51.1 hg
      exact or_call cf11 (args2 f_46 f_51) (law20_same_w _ r111 A112 cA112 r118 A119 cA119 (RdO.zero (RwO.rd (RwO.evo rfl hE b114_A112))) (RdO.zero (RwO.rd b_A119)) r121 (gd_t hr121 hg)) post_val
    refine steps_cons (fun own a wx hf hsl hE => ?_) ?_
    · obtain ⟨(f_45 : a.eval (.tmp 45) = .bool x116), c_52, -⟩ := hf
      refine sg_f rfl rfl rfl f_45 (fun hg => ?_)
      have f_52 : a.eval (.tmp 52) = .bool r121 := c_52.1 hg
      exact or_not f_52 rfl
    refine steps_cons (fun own a wx hf hsl hE => ?_) ?_
    · obtain ⟨(f_45 : a.eval (.tmp 45) = .bool x116), c_53, -⟩ := hf
      exact sg_plain rfl rfl (or_or f_45 rfl (fun hx => c_53.1 hx) rfl)
    exact steps_nil
  intro own122 a122 w122 hd122 hz122 hk122 hf122 hE122
  have e122_0 : a122.eval (.tmp 0) = .int .i64 z1 := (hk122 0 rfl).trans e114_0
  have e122_1 : a122.eval (.tmp 1) = .int .i64 buffer2 := (hk122 1 rfl).trans e114_1
  have e122_6 : a122.eval (.tmp 6) = .pointer (some ⟨g95, 0, none⟩) := (hk122 6 rfl).trans e114_6
  have e122_9 : a122.eval (.tmp 9) = .pointer (some ⟨g101, 0, none⟩) := (hk122 9 rfl).trans e114_9
  have e122_10 : a122.eval (.tmp 10) = .bool r100.2 := (hk122 10 rfl).trans e114_10
  obtain ⟨(f_54 : a122.eval (.tmp 54) = .bool (x116 || (!r121))), -⟩ := hf122 [17] rfl
  have e122_54 := f_54
  have hX122 := Evo.step hX114 (fun _ => Nat.le_refl 0) hE122 rfl
  have b122_g95 := BlkO.evo (by decide) hE122 b114_g95
  have b122_g101 := BlkO.evo (by decide) hE122 b114_g101
  refine fl_cond e122_54 hs (fun c123 hs => ?_) (fun c123 hs => ?_)
  · refine rg_plain_seq (n := 132) (rs := []) (own0 := own122) (K := [])
        (bs := [0])
        (ds := [⟨[], [], [], Fct.val 8 (.bool false)⟩]) (by kernel_rfl) hz122 hd122 (fun _ h => nomatch h) ?_ ?_
    · refine steps_cons (fun own a wx hf hsl hE => ?_) ?_
      · exact sg_plain rfl rfl (or_assign rfl)
      exact steps_nil
    intro own124 a124 w124 hd124 hz124 hk124 hf124 hE124
    obtain ⟨(f_8 : a124.eval (.tmp 8) = .bool false), -⟩ := hf124 [0] rfl
    have e124_8 := f_8
    have hX124 := Evo.step hX122 (fun _ => Nat.le_refl 0) hE124 rfl
    refine fl_ret ?_
    refine hp115 _ _ _ rfl ?_
    obtain rfl := osome hs
    exact hret _ _ _ _ (.inl rfl) hd124 (results1_ rfl (RVal.tmp_ e124_8)) ⟨own124, rfl, hX124⟩
  refine fl_skip ?_
  refine hn115 _ _ ?_
  obtain ⟨r125, hr125, hs⟩ := obind hs
  refine rg_plain_seq (n := 132) (rs := []) (own0 := own122) (K := [127])
      (bs := [0, 0, 3, 7, 15, 15, 0, 95, 255])
      (ds := [⟨[], [9], [], Fct.val 56 (.agg #[.int .i64 r100.1.1, .int .i64 r100.1.2.1, .int .i64 r100.1.2.2])⟩,
      ⟨[], [1], [], Fct.val 57 (.int .i64 buffer2)⟩,
      ⟨[0, 1], [], [], Fct.val 58 (.tuple #[.agg #[.int .i64 r125.1.1.1, .int .i64 r125.1.1.2, .int .i64 r125.1.2.1, .int .i64 r125.1.2.2], .bool r125.2])⟩,
      ⟨[2], [], [], Fct.val 55 (.tuple #[.agg #[.int .i64 r125.1.1.1, .int .i64 r125.1.1.2, .int .i64 r125.1.2.1, .int .i64 r125.1.2.2], .bool r125.2])⟩,
      ⟨[3], [], [], Fct.val 59 (.agg #[.int .i64 r125.1.1.1, .int .i64 r125.1.1.2, .int .i64 r125.1.2.1, .int .i64 r125.1.2.2])⟩,
      ⟨[3], [], [], Fct.val 60 (.bool r125.2)⟩,
      ⟨[], [], [], Fct.blk 127 14 (fun g => .pointer (some ⟨g, 0, none⟩)) 25 #[.int .i64 0, .int .i64 0, .int .i64 0, .int .i64 0]⟩,
      ⟨[6, 4], [], [127], Fct.blk 128 14 (fun g => .pointer (some ⟨g, 0, none⟩)) 25 #[.int .i64 r125.1.1.1, .int .i64 r125.1.1.2, .int .i64 r125.1.2.1, .int .i64 r125.1.2.2]⟩,
      ⟨[5], [], [], Fct.val 15 (.bool r125.2)⟩]) (by kernel_rfl) hz122 hd122 (fun _ h => nomatch h) ?_ ?_
  · refine steps_cons (fun own a wx hf hsl hE => ?_) ?_
    · obtain ⟨s_9, -⟩ := hsl
      exact sg_plain rfl rfl (or_load (l := [.int .i64 r100.1.1, .int .i64 r100.1.2.1, .int .i64 r100.1.2.2]) ta27 (s_9.trans e122_9) (Blk.cellsFrom (BlkO.evo (by decide) hE b122_g101).2 0 rfl) rfl)
    refine steps_cons (fun own a wx hf hsl hE => ?_) ?_
    · obtain ⟨s_1, -⟩ := hsl
      exact sg_plain rfl rfl (or_move (s_1.trans e122_1))
    refine steps_cons (fun own a wx hf hsl hE => ?_) ?_
    · obtain ⟨(f_56 : a.eval (.tmp 56) = .agg #[.int .i64 r100.1.1, .int .i64 r100.1.2.1, .int .i64 r100.1.2.2]), (f_57 : a.eval (.tmp 57) = .int .i64 buffer2), -⟩ := hf
      exact sg_plain rfl rfl (or_call cf14 (args2 f_56 f_57) (window_Window_w _ r100.1 buffer2  r125 hr125) post_val)
    refine steps_cons (fun own a wx hf hsl hE => ?_) ?_
    · obtain ⟨(f_58 : a.eval (.tmp 58) = .tuple #[.agg #[.int .i64 r125.1.1.1, .int .i64 r125.1.1.2, .int .i64 r125.1.2.1, .int .i64 r125.1.2.2], .bool r125.2]), -⟩ := hf
      exact sg_plain rfl rfl (or_move f_58)
    refine steps_cons (fun own a wx hf hsl hE => ?_) ?_
    · obtain ⟨(f_55 : a.eval (.tmp 55) = .tuple #[.agg #[.int .i64 r125.1.1.1, .int .i64 r125.1.1.2, .int .i64 r125.1.2.1, .int .i64 r125.1.2.2], .bool r125.2]), -⟩ := hf
      exact sg_plain rfl rfl (or_k [(55, .tuple #[.agg #[.int .i64 r125.1.1.1, .int .i64 r125.1.1.2, .int .i64 r125.1.2.1, .int .i64 r125.1.2.2], .bool r125.2])] rfl rfl ⟨f_55, trivial⟩ (by kernel_rfl))
    refine steps_cons (fun own a wx hf hsl hE => ?_) ?_
    · obtain ⟨(f_55 : a.eval (.tmp 55) = .tuple #[.agg #[.int .i64 r125.1.1.1, .int .i64 r125.1.1.2, .int .i64 r125.1.2.1, .int .i64 r125.1.2.2], .bool r125.2]), -⟩ := hf
      exact sg_plain rfl rfl (or_k [(55, .tuple #[.agg #[.int .i64 r125.1.1.1, .int .i64 r125.1.1.2, .int .i64 r125.1.2.1, .int .i64 r125.1.2.2], .bool r125.2])] rfl rfl ⟨f_55, trivial⟩ (by kernel_rfl))
    refine steps_cons (fun own a wx hf hsl hE => ?_) ?_
    · exact sg_plain rfl rfl (or_new [] rfl rfl trivial (by kernel_rfl))
    refine steps_cons (fun own a wx hf hsl hE => ?_) ?_
    · obtain ⟨⟨g126, (f_14 : a.eval (.tmp 14) = .pointer (some ⟨g126, 0, none⟩)), (b_g126 : BlkO own 127 wx g126 25 #[.int .i64 0, .int .i64 0, .int .i64 0, .int .i64 0])⟩, (f_59 : a.eval (.tmp 59) = .agg #[.int .i64 r125.1.1.1, .int .i64 r125.1.1.2, .int .i64 r125.1.2.1, .int .i64 r125.1.2.2]), -⟩ := hf
      exact sg_plain rfl rfl (or_store (l := #[.int .i64 r125.1.1.1, .int .i64 r125.1.1.2, .int .i64 r125.1.2.1, .int .i64 r125.1.2.2]) (lab := 127) (lab2 := 128) ts25 f_14 f_59 b_g126 (by simp) (by kernel_rfl) (mem_of rfl) (by decide) (by kernel_rfl) (fun own' a' w' ha hb => ⟨_, (ha 14).trans f_14, hb⟩))
    refine steps_cons (fun own a wx hf hsl hE => ?_) ?_
    · obtain ⟨(f_60 : a.eval (.tmp 60) = .bool r125.2), -⟩ := hf
      exact sg_plain rfl rfl (or_assign f_60)
    exact steps_nil
  intro own129 a129 w129 hd129 hz129 hk129 hf129 hE129
  have e129_0 : a129.eval (.tmp 0) = .int .i64 z1 := (hk129 0 rfl).trans e122_0
  have e129_1 : a129.eval (.tmp 1) = .int .i64 buffer2 := (hk129 1 rfl).trans e122_1
  have e129_6 : a129.eval (.tmp 6) = .pointer (some ⟨g95, 0, none⟩) := (hk129 6 rfl).trans e122_6
  have e129_9 : a129.eval (.tmp 9) = .pointer (some ⟨g101, 0, none⟩) := (hk129 9 rfl).trans e122_9
  have e129_10 : a129.eval (.tmp 10) = .bool r100.2 := (hk129 10 rfl).trans e122_10
  obtain ⟨⟨g126, (f_14 : a129.eval (.tmp 14) = .pointer (some ⟨g126, 0, none⟩)), (b_g126 : BlkO own129 128 w129 g126 25 #[.int .i64 r125.1.1.1, .int .i64 r125.1.1.2, .int .i64 r125.1.2.1, .int .i64 r125.1.2.2])⟩, (f_15 : a129.eval (.tmp 15) = .bool r125.2), -⟩ := hf129 [7, 8] rfl
  have e129_14 := f_14
  have e129_15 := f_15
  have hX129 := Evo.step hX122 (fun _ => Nat.le_refl 0) hE129 rfl
  have b129_g95 := BlkO.evo (by decide) hE129 b122_g95
  have b129_g101 := BlkO.evo (by decide) hE129 b122_g101
  have b129_g126 := b_g126
  refine fl_seq (fun Q130 hn130 hp130 => ?_)
  refine rg_plain_seq (n := 132) (rs := []) (own0 := own129) (K := [])
      (bs := [0, 1, 3, 7, 15, 31])
      (ds := [⟨[], [10], [], Fct.val 61 (.bool r100.2)⟩,
      ⟨[0], [], [], Fct.val 62 (.bool (!r100.2))⟩,
      ⟨[1], [], [], Fct.val 63 (.bool (!r100.2))⟩,
      ⟨[2], [15], [], Fct.cond (!(!r100.2)) (some 64) (Fct.val 64 (.bool r125.2))⟩,
      ⟨[2, 3], [], [], Fct.cond (!(!r100.2)) (some 65) (Fct.val 65 (.bool (!r125.2)))⟩,
      ⟨[2, 4], [], [], Fct.val 66 (.bool ((!r100.2) || (!r125.2)))⟩]) (by kernel_rfl) hz129 hd129 (fun _ h => nomatch h) ?_ ?_
  · refine steps_cons (fun own a wx hf hsl hE => ?_) ?_
    · obtain ⟨s_10, -⟩ := hsl
      exact sg_plain rfl rfl (or_move (s_10.trans e129_10))
    refine steps_cons (fun own a wx hf hsl hE => ?_) ?_
    · obtain ⟨(f_61 : a.eval (.tmp 61) = .bool r100.2), -⟩ := hf
      exact sg_plain rfl rfl (or_not f_61 rfl)
    refine steps_cons (fun own a wx hf hsl hE => ?_) ?_
    · obtain ⟨(f_62 : a.eval (.tmp 62) = .bool (!r100.2)), -⟩ := hf
      exact sg_plain rfl rfl (or_move f_62)
    refine steps_cons (fun own a wx hf hsl hE => ?_) ?_
    · obtain ⟨(f_63 : a.eval (.tmp 63) = .bool (!r100.2)), -⟩ := hf
      obtain ⟨s_15, -⟩ := hsl
      refine sg_f rfl rfl rfl f_63 (fun hg => ?_)
      exact or_move (s_15.trans e129_15)
    refine steps_cons (fun own a wx hf hsl hE => ?_) ?_
    · obtain ⟨(f_63 : a.eval (.tmp 63) = .bool (!r100.2)), c_64, -⟩ := hf
      refine sg_f rfl rfl rfl f_63 (fun hg => ?_)
      have f_64 : a.eval (.tmp 64) = .bool r125.2 := c_64.1 hg
      exact or_not f_64 rfl
    refine steps_cons (fun own a wx hf hsl hE => ?_) ?_
    · obtain ⟨(f_63 : a.eval (.tmp 63) = .bool (!r100.2)), c_65, -⟩ := hf
      exact sg_plain rfl rfl (or_or f_63 rfl (fun hx => c_65.1 hx) rfl)
    exact steps_nil
  intro own131 a131 w131 hd131 hz131 hk131 hf131 hE131
  have e131_0 : a131.eval (.tmp 0) = .int .i64 z1 := (hk131 0 rfl).trans e129_0
  have e131_1 : a131.eval (.tmp 1) = .int .i64 buffer2 := (hk131 1 rfl).trans e129_1
  have e131_6 : a131.eval (.tmp 6) = .pointer (some ⟨g95, 0, none⟩) := (hk131 6 rfl).trans e129_6
  have e131_9 : a131.eval (.tmp 9) = .pointer (some ⟨g101, 0, none⟩) := (hk131 9 rfl).trans e129_9
  have e131_14 : a131.eval (.tmp 14) = .pointer (some ⟨g126, 0, none⟩) := (hk131 14 rfl).trans e129_14
  obtain ⟨(f_66 : a131.eval (.tmp 66) = .bool ((!r100.2) || (!r125.2))), -⟩ := hf131 [5] rfl
  have e131_66 := f_66
  have hX131 := Evo.step hX129 (fun _ => Nat.le_refl 0) hE131 rfl
  have b131_g95 := BlkO.evo (by decide) hE131 b129_g95
  have b131_g101 := BlkO.evo (by decide) hE131 b129_g101
  have b131_g126 := BlkO.evo (by decide) hE131 b129_g126
  refine fl_cond e131_66 hs (fun c132 hs => ?_) (fun c132 hs => ?_)
  · obtain ⟨r133, hr133, hs⟩ := obind hs
    refine rg_plain_seq (n := 132) (rs := []) (own0 := own131) (K := [])
        (bs := [0, 1])
        (ds := [⟨[], [], [], Fct.val 67 (.bool r133)⟩,
        ⟨[0], [], [], Fct.val 8 (.bool r133)⟩]) (by kernel_rfl) hz131 hd131 (fun _ h => nomatch h) ?_ ?_
    · refine steps_cons (fun own a wx hf hsl hE => ?_) ?_
      · exact sg_plain rfl rfl (or_call cf15 (args0) (law20_known_w _   r133 hr133) post_val)
      refine steps_cons (fun own a wx hf hsl hE => ?_) ?_
      · obtain ⟨(f_67 : a.eval (.tmp 67) = .bool r133), -⟩ := hf
        exact sg_plain rfl rfl (or_assign f_67)
      exact steps_nil
    intro own134 a134 w134 hd134 hz134 hk134 hf134 hE134
    obtain ⟨(f_8 : a134.eval (.tmp 8) = .bool r133), -⟩ := hf134 [1] rfl
    have e134_8 := f_8
    have hX134 := Evo.step hX131 (fun _ => Nat.le_refl 0) hE134 rfl
    refine fl_ret ?_
    refine hp130 _ _ _ rfl ?_
    obtain rfl := (osome hs).symm
    exact hret _ _ _ _ (.inl rfl) hd134 (results1_ rfl (RVal.tmp_ e134_8)) ⟨own134, rfl, hX134⟩
  refine fl_skip ?_
  refine hn130 _ _ ?_
  refine rg_plain_seq (n := 132) (rs := []) (own0 := own131) (K := [])
      (bs := [0])
      (ds := [⟨[], [], [], Fct.val 16 (.bool false)⟩]) (by kernel_rfl) hz131 hd131 (fun _ h => nomatch h) ?_ ?_
  · refine steps_cons (fun own a wx hf hsl hE => ?_) ?_
    · exact sg_plain rfl rfl (or_assign rfl)
    exact steps_nil
  intro own135 a135 w135 hd135 hz135 hk135 hf135 hE135
  have e135_0 : a135.eval (.tmp 0) = .int .i64 z1 := (hk135 0 rfl).trans e131_0
  have e135_1 : a135.eval (.tmp 1) = .int .i64 buffer2 := (hk135 1 rfl).trans e131_1
  have e135_6 : a135.eval (.tmp 6) = .pointer (some ⟨g95, 0, none⟩) := (hk135 6 rfl).trans e131_6
  have e135_9 : a135.eval (.tmp 9) = .pointer (some ⟨g101, 0, none⟩) := (hk135 9 rfl).trans e131_9
  have e135_14 : a135.eval (.tmp 14) = .pointer (some ⟨g126, 0, none⟩) := (hk135 14 rfl).trans e131_14
  obtain ⟨(f_16 : a135.eval (.tmp 16) = .bool false), -⟩ := hf135 [0] rfl
  have e135_16 := f_16
  have hX135 := Evo.step hX131 (fun _ => Nat.le_refl 0) hE135 rfl
  have b135_g95 := BlkO.evo (by decide) hE135 b131_g95
  have b135_g101 := BlkO.evo (by decide) hE135 b131_g101
  have b135_g126 := BlkO.evo (by decide) hE135 b131_g126
  obtain ⟨r136, hr136, hs⟩ := obind hs
  refine rg_plain_seq (n := 132) (rs := []) (own0 := own135) (K := [])
      (bs := [0, 0, 0, 0, 12, 31, 63])
      (ds := [⟨[], [0], [], Fct.val 68 (.int .i64 z1)⟩,
      ⟨[], [1], [], Fct.val 69 (.int .i64 buffer2)⟩,
      ⟨[], [6], [], Fct.val 70 (.agg #[.int .i64 p3.1, .int .i64 p3.2])⟩,
      ⟨[], [6], [], Fct.val 71 (.agg #[.int .i64 p3.1, .int .i64 p3.2])⟩,
      ⟨[2, 3], [], [], Fct.val 72 (.agg #[.int .i64 p3.1, .int .i64 p3.2, .int .i64 p3.1, .int .i64 p3.2])⟩,
      ⟨[0, 1, 4], [], [], Fct.row 138 [] 73 27 R27 r136⟩,
      ⟨[5], [], [], Fct.rel [17, 73] (fun l => ∀ (A137 : Option Addr) (cA137 : Nat), l.getD 1 undef = .slice A137 r136.length cA137 → l.getD 0 undef = .slice A137 r136.length cA137)⟩]) (by kernel_rfl) hz135 hd135 (fun _ h => nomatch h) ?_ ?_
  · refine steps_cons (fun own a wx hf hsl hE => ?_) ?_
    · obtain ⟨s_0, -⟩ := hsl
      exact sg_plain rfl rfl (or_move (s_0.trans e135_0))
    refine steps_cons (fun own a wx hf hsl hE => ?_) ?_
    · obtain ⟨s_1, -⟩ := hsl
      exact sg_plain rfl rfl (or_move (s_1.trans e135_1))
    refine steps_cons (fun own a wx hf hsl hE => ?_) ?_
    · obtain ⟨s_6, -⟩ := hsl
      exact sg_plain rfl rfl (or_load (l := [.int .i64 p3.1, .int .i64 p3.2]) ta23 (s_6.trans e135_6) (Blk.cellsFrom (BlkO.evo (by decide) hE b135_g95).2 0 rfl) rfl)
    refine steps_cons (fun own a wx hf hsl hE => ?_) ?_
    · obtain ⟨s_6, -⟩ := hsl
      exact sg_plain rfl rfl (or_load (l := [.int .i64 p3.1, .int .i64 p3.2]) ta23 (s_6.trans e135_6) (Blk.cellsFrom (BlkO.evo (by decide) hE b135_g95).2 0 rfl) rfl)
    refine steps_cons (fun own a wx hf hsl hE => ?_) ?_
    · obtain ⟨(f_70 : a.eval (.tmp 70) = .agg #[.int .i64 p3.1, .int .i64 p3.2]), (f_71 : a.eval (.tmp 71) = .agg #[.int .i64 p3.1, .int .i64 p3.2]), -⟩ := hf
      exact sg_plain rfl rfl (or_k [(70, .agg #[.int .i64 p3.1, .int .i64 p3.2]), (71, .agg #[.int .i64 p3.1, .int .i64 p3.2])] rfl rfl ⟨f_70, f_71, trivial⟩ (by kernel_rfl))
    refine steps_cons (fun own a wx hf hsl hE => ?_) ?_
    · obtain ⟨(f_68 : a.eval (.tmp 68) = .int .i64 z1), (f_69 : a.eval (.tmp 69) = .int .i64 buffer2), (f_72 : a.eval (.tmp 72) = .agg #[.int .i64 p3.1, .int .i64 p3.2, .int .i64 p3.1, .int .i64 p3.2]), -⟩ := hf
      exact sg_plain rfl rfl (or_call cf10 (args3 f_68 f_69 f_72) (window_Shown_w _ z1 buffer2 (p3, p3)  r136 hr136) (post_row (m' := (look0 [(1, 138)])) (.inl (Rep.fl_flat _)) rfl rfl (fun _ => rfl)))
    refine steps_cons (fun own a wx hf hsl hE => ?_) ?_
    · obtain ⟨⟨⟨A137, cA137⟩, (f_73 : a.eval (.tmp 73) = .slice A137 r136.length cA137), (b_A137 : RwO own 138 [] wx 27 R27 A137 cA137 r136)⟩, -⟩ := hf
      exact sg_plain rfl rfl (or_mono (f := Fct.val 17 (.slice A137 r136.length cA137)) (or_assign f_73) (fun own' a' w' v' hp h => fun _ _ h0' => by cases (f_73.symm.trans ((hp.2 73 (by decide)).symm.trans h0')); exact h))
    exact steps_nil
  intro own139 a139 w139 hd139 hz139 hk139 hf139 hE139
  have e139_6 : a139.eval (.tmp 6) = .pointer (some ⟨g95, 0, none⟩) := (hk139 6 rfl).trans e135_6
  have e139_9 : a139.eval (.tmp 9) = .pointer (some ⟨g101, 0, none⟩) := (hk139 9 rfl).trans e135_9
  have e139_14 : a139.eval (.tmp 14) = .pointer (some ⟨g126, 0, none⟩) := (hk139 14 rfl).trans e135_14
  have e139_16 : a139.eval (.tmp 16) = .bool false := (hk139 16 rfl).trans e135_16
  obtain ⟨⟨⟨A137, cA137⟩, (f_73 : a139.eval (.tmp 73) = .slice A137 r136.length cA137), (b_A137 : RwO own139 138 [] w139 27 R27 A137 cA137 r136)⟩, (q_17 : ∀ (A137 : Option Addr) (cA137 : Nat), a139.eval (.tmp 73) = .slice A137 r136.length cA137 → a139.eval (.tmp 17) = .slice A137 r136.length cA137), -⟩ := hf139 [5, 6] rfl
  have f_17 := q_17 _ _ f_73
  have e139_17 := f_17
  have hX139 := Evo.step hX135 (fun _ => Nat.le_refl 0) hE139 rfl
  have b139_g95 := BlkO.evo (by decide) hE139 b135_g95
  have b139_g101 := BlkO.evo (by decide) hE139 b135_g101
  have b139_g126 := BlkO.evo (by decide) hE139 b135_g126
  have b139_A137 := b_A137
  refine fl_seq (fun Q140 hn140 hp140 => ?_)
  refine rg_plain_seq (n := 132) (rs := []) (own0 := own139) (K := [])
      (bs := [0])
      (ds := [⟨[], [], [], Fct.val 18 (.int .i64 0)⟩]) (by kernel_rfl) hz139 hd139 (fun _ h => nomatch h) ?_ ?_
  · refine steps_cons (fun own a wx hf hsl hE => ?_) ?_
    · exact sg_plain rfl rfl (or_assign rfl)
    exact steps_nil
  intro own141 a141 w141 hd141 hz141 hk141 hf141 hE141
  have e141_6 : a141.eval (.tmp 6) = .pointer (some ⟨g95, 0, none⟩) := (hk141 6 rfl).trans e139_6
  have e141_9 : a141.eval (.tmp 9) = .pointer (some ⟨g101, 0, none⟩) := (hk141 9 rfl).trans e139_9
  have e141_14 : a141.eval (.tmp 14) = .pointer (some ⟨g126, 0, none⟩) := (hk141 14 rfl).trans e139_14
  have e141_16 : a141.eval (.tmp 16) = .bool false := (hk141 16 rfl).trans e139_16
  have e141_17 : a141.eval (.tmp 17) = .slice A137 r136.length cA137 := (hk141 17 rfl).trans e139_17
  obtain ⟨(f_18 : a141.eval (.tmp 18) = .int .i64 0), -⟩ := hf141 [0] rfl
  have e141_18 := f_18
  have hX141 := Evo.step hX139 (fun _ => Nat.le_refl 0) hE141 rfl
  have b141_g95 := BlkO.evo (by decide) hE141 b139_g95
  have b141_g101 := BlkO.evo (by decide) hE141 b139_g101
  have b141_g126 := BlkO.evo (by decide) hE141 b139_g126
  have b141_A137 := RwO.evo rfl hE141 b139_A137
  refine fl_block (fun Q142 hn142 hx142 hp142 => ?_)
  refine fl_loop (body := (fun s => law20_WindowShows_b1 p3 r100 r125 r136 s.1 s.2)) (z := r) (show loopO _ _ = _ from hs) (fun (s : Bool × Int) a wx => match s with | (found152, i153) => ∃ (ox : Own), a.defers = [] ∧ a.tmps.size = 132 ∧ a.eval (.tmp 6) = .pointer (some ⟨g95, 0, none⟩) ∧ a.eval (.tmp 9) = .pointer (some ⟨g101, 0, none⟩) ∧ a.eval (.tmp 14) = .pointer (some ⟨g126, 0, none⟩) ∧ a.eval (.tmp 16) = .bool found152 ∧ a.eval (.tmp 17) = .slice A137 r136.length cA137 ∧ a.eval (.tmp 18) = .int .i64 i153 ∧ Evo [] (fun _ => 0) ox w wx ∧ BlkO ox 96 wx g95 23 #[.int .i64 p3.1, .int .i64 p3.2] ∧ BlkO ox 103 wx g101 27 #[.int .i64 r100.1.1, .int .i64 r100.1.2.1, .int .i64 r100.1.2.2] ∧ BlkO ox 128 wx g126 25 #[.int .i64 r125.1.1.1, .int .i64 r125.1.1.2, .int .i64 r125.1.2.1, .int .i64 r125.1.2.2] ∧ RwO ox 138 [] wx 27 R27 A137 cA137 r136) ?_ ?_
  · exact ⟨own141, hd141, hz141, e141_6, e141_9, e141_14, e141_16, e141_17, e141_18, hX141, b141_g95, b141_g101, b141_g126, b141_A137⟩
  · rintro ⟨found152, i153⟩ zz164 a164 w164 ⟨own164, hd165, hz165, e165_6, e165_9, e165_14, e165_16, e165_17, e165_18, hE165, b165_g95, b165_g101, b165_g126, b165_A137⟩ hs Q164 hn164 hp164 hz164
    have hs : law20_WindowShows_b1 p3 r100 r125 r136 found152 i153 = some zz164 := hs
    refine fl_seq (fun Q166 hn166 hp166 => ?_)
    refine rg_plain_seq (n := 132) (rs := []) (own0 := own164) (K := [])
        (bs := [0, 0, 2, 7])
        (ds := [⟨[], [18], [], Fct.val 74 (.int .i64 i153)⟩,
        ⟨[], [17], [], Fct.val 75 (.slice A137 r136.length cA137)⟩,
        ⟨[1], [], [], Fct.val 76 (.int .i64 (r136.length : Int))⟩,
        ⟨[0, 2], [], [], Fct.val 77 (.bool (decide (i153 < (r136.length : Int))))⟩]) (by kernel_rfl) hz165 hd165 (fun _ h => nomatch h) ?_ ?_
    · refine steps_cons (fun own a wx hf hsl hE => ?_) ?_
      · obtain ⟨s_18, -⟩ := hsl
        exact sg_plain rfl rfl (or_move (s_18.trans e165_18))
      refine steps_cons (fun own a wx hf hsl hE => ?_) ?_
      · obtain ⟨s_17, -⟩ := hsl
        exact sg_plain rfl rfl (or_move (s_17.trans e165_17))
      refine steps_cons (fun own a wx hf hsl hE => ?_) ?_
      · obtain ⟨(f_75 : a.eval (.tmp 75) = .slice A137 r136.length cA137), -⟩ := hf
        exact sg_plain rfl rfl (or_len tu35 f_75 rfl)
      refine steps_cons (fun own a wx hf hsl hE => ?_) ?_
      · obtain ⟨(f_74 : a.eval (.tmp 74) = .int .i64 i153), (f_76 : a.eval (.tmp 76) = .int .i64 (r136.length : Int)), -⟩ := hf
        exact sg_plain rfl rfl (or_lss f_74 f_76 rfl)
      exact steps_nil
    intro own167 a167 w167 hd167 hz167 hk167 hf167 hE167
    have e167_6 : a167.eval (.tmp 6) = .pointer (some ⟨g95, 0, none⟩) := (hk167 6 rfl).trans e165_6
    have e167_9 : a167.eval (.tmp 9) = .pointer (some ⟨g101, 0, none⟩) := (hk167 9 rfl).trans e165_9
    have e167_14 : a167.eval (.tmp 14) = .pointer (some ⟨g126, 0, none⟩) := (hk167 14 rfl).trans e165_14
    have e167_16 : a167.eval (.tmp 16) = .bool found152 := (hk167 16 rfl).trans e165_16
    have e167_17 : a167.eval (.tmp 17) = .slice A137 r136.length cA137 := (hk167 17 rfl).trans e165_17
    have e167_18 : a167.eval (.tmp 18) = .int .i64 i153 := (hk167 18 rfl).trans e165_18
    obtain ⟨(f_77 : a167.eval (.tmp 77) = .bool (decide (i153 < (r136.length : Int)))), -⟩ := hf167 [3] rfl
    have e167_77 := f_77
    have hX167 := Evo.step hE165 (fun _ => Nat.le_refl 0) hE167 rfl
    have b167_g95 := BlkO.evo (by decide) hE167 b165_g95
    have b167_g101 := BlkO.evo (by decide) hE167 b165_g101
    have b167_g126 := BlkO.evo (by decide) hE167 b165_g126
    have b167_A137 := RwO.evo rfl hE167 b165_A137
    refine fl_cond e167_77 hs (fun c168 hs => ?_) (fun c168 hs => ?_)
    · refine fl_skip ?_
      refine hn166 _ _ ?_
      refine fl_seq (fun Q169 hn169 hp169 => ?_)
      refine fl_block (fun Q170 hn170 hx170 hp170 => ?_)
      obtain ⟨x171, hx171, hs⟩ := obind hs
      obtain ⟨x172, hx172, hs⟩ := obind hs
      refine rg_draw g_mixed (n := 132) (rs := []) (own0 := own167) (K := [])
          (bs := [0, 1, 3, 3, 15, 31, 3, 127, 255, 511])
          (ds := [⟨[], [16], [], Fct.val 80 (.bool found152)⟩,
          ⟨[0], [], [], Fct.val 81 (.bool found152)⟩,
          ⟨[1], [17], [], Fct.cond (!found152) (some 82) (Fct.val 82 (.slice A137 r136.length cA137))⟩,
          ⟨[1], [18], [], Fct.cond (!found152) (some 83) (Fct.val 83 (.int .i64 i153))⟩,
          ⟨[1, 2, 3], [], [], Fct.cond (!found152) (some 84) (Fct.val 84 (.pointer (some ((adr A137).add ((i153 : Int).toNat * R27.s)))))⟩,
          ⟨[1, 4], [], [], Fct.cond (!found152) (some 85) (Fct.val 85 (.agg #[.int .i64 x171.1, .int .i64 x171.2.1, .int .i64 x171.2.2]))⟩,
          ⟨[1], [9], [], Fct.cond (!found152) (some 86) (Fct.val 86 (.agg #[.int .i64 r100.1.1, .int .i64 r100.1.2.1, .int .i64 r100.1.2.2]))⟩,
          ⟨[1, 5, 6], [], [], Fct.cond (!found152) (some 87) (Fct.val 87 (.bool (decide (x171 = r100.1))))⟩,
          ⟨[1, 7], [], [], Fct.val 88 (.bool x172)⟩,
          ⟨[8], [], [], Fct.val 16 (.bool x172)⟩]) (by kernel_rfl) hz167 hd167 (fun _ h => nomatch h) ?_ ?_
      · refine steps_cons (fun own a wx hf hsl hE => ?_) ?_
        · obtain ⟨s_16, -⟩ := hsl
          exact sg_plain rfl rfl (or_move (s_16.trans e167_16))
        refine steps_cons (fun own a wx hf hsl hE => ?_) ?_
        · obtain ⟨(f_80 : a.eval (.tmp 80) = .bool found152), -⟩ := hf
          exact sg_plain rfl rfl (or_move f_80)
        refine steps_cons (fun own a wx hf hsl hE => ?_) ?_
        · obtain ⟨(f_81 : a.eval (.tmp 81) = .bool found152), -⟩ := hf
          obtain ⟨s_17, -⟩ := hsl
          refine sg_f rfl rfl rfl f_81 (fun hg => ?_)
          exact or_move (s_17.trans e167_17)
        refine steps_cons (fun own a wx hf hsl hE => ?_) ?_
        · obtain ⟨(f_81 : a.eval (.tmp 81) = .bool found152), -⟩ := hf
          obtain ⟨s_18, -⟩ := hsl
          refine sg_f rfl rfl rfl f_81 (fun hg => ?_)
          exact or_move (s_18.trans e167_18)
        refine steps_cons (fun own a wx hf hsl hE => ?_) ?_
        · obtain ⟨(f_81 : a.eval (.tmp 81) = .bool found152), c_82, c_83, -⟩ := hf
          refine sg_f rfl rfl rfl f_81 (fun hg => ?_)
          have f_82 : a.eval (.tmp 82) = .slice A137 r136.length cA137 := c_82.1 hg
          have f_83 : a.eval (.tmp 83) = .int .i64 i153 := c_83.1 hg
          exact or_index (R := R27) (l := r136) tl35 f_82 f_83 (RdO.some_ (RwO.rd b167_A137) (gd_t hx171 hg)) (gd_t hx171 hg)
        refine steps_cons (fun own a wx hf hsl hE => ?_) ?_
        · obtain ⟨(f_81 : a.eval (.tmp 81) = .bool found152), c_84, -⟩ := hf
          refine sg_f rfl rfl rfl f_81 (fun hg => ?_)
          have f_84 : a.eval (.tmp 84) = .pointer (some ((adr A137).add ((i153 : Int).toNat * R27.s))) := c_84.1 hg
          exact or_load (l := E27.f x171) ta27 f_84 (RdO.cells (F := E27) (RwO.rd (RwO.evo rfl hE b167_A137)) (gd_t hx171 hg)) rfl
        refine steps_cons (fun own a wx hf hsl hE => ?_) ?_
        · obtain ⟨(f_81 : a.eval (.tmp 81) = .bool found152), -⟩ := hf
          obtain ⟨s_9, -⟩ := hsl
          refine sg_f rfl rfl rfl f_81 (fun hg => ?_)
          exact or_load (l := [.int .i64 r100.1.1, .int .i64 r100.1.2.1, .int .i64 r100.1.2.2]) ta27 (s_9.trans e167_9) (Blk.cellsFrom (BlkO.evo (by decide) hE b167_g101).2 0 rfl) rfl
        refine steps_cons (fun own a wx hf hsl hE => ?_) ?_
        · obtain ⟨(f_81 : a.eval (.tmp 81) = .bool found152), c_85, c_86, -⟩ := hf
          refine sg_f rfl rfl rfl f_81 (fun hg => ?_)
          have f_85 : a.eval (.tmp 85) = .agg #[.int .i64 x171.1, .int .i64 x171.2.1, .int .i64 x171.2.2] := c_85.1 hg
          have f_86 : a.eval (.tmp 86) = .agg #[.int .i64 r100.1.1, .int .i64 r100.1.2.1, .int .i64 r100.1.2.2] := c_86.1 hg
          exact or_eqlA sg27 f_85 f_86 (se27 x171.1 x171.2.1 x171.2.2 r100.1.1 r100.1.2.1 r100.1.2.2 _) rfl
        refine steps_cons (fun own a wx hf hsl hE => ?_) ?_
        · obtain ⟨(f_81 : a.eval (.tmp 81) = .bool found152), c_87, -⟩ := hf
          exact sg_plain rfl rfl (or_or f_81 rfl (fun hx => c_87.1 hx) (osome hx172).symm)
        refine steps_cons (fun own a wx hf hsl hE => ?_) ?_
        · obtain ⟨(f_88 : a.eval (.tmp 88) = .bool x172), -⟩ := hf
          exact sg_plain rfl rfl (or_assign f_88)
        exact steps_nil
      intro own173 a173 w173 hd173 hz173 hk173 hf173 hE173
      have e173_6 : a173.eval (.tmp 6) = .pointer (some ⟨g95, 0, none⟩) := (hk173 6 rfl).trans e167_6
      have e173_9 : a173.eval (.tmp 9) = .pointer (some ⟨g101, 0, none⟩) := (hk173 9 rfl).trans e167_9
      have e173_14 : a173.eval (.tmp 14) = .pointer (some ⟨g126, 0, none⟩) := (hk173 14 rfl).trans e167_14
      have e173_17 : a173.eval (.tmp 17) = .slice A137 r136.length cA137 := (hk173 17 rfl).trans e167_17
      have e173_18 : a173.eval (.tmp 18) = .int .i64 i153 := (hk173 18 rfl).trans e167_18
      obtain ⟨(f_16 : a173.eval (.tmp 16) = .bool x172), -⟩ := hf173 [9] rfl
      have e173_16 := f_16
      have hX173 := Evo.step hX167 (fun _ => Nat.le_refl 0) hE173 rfl
      have b173_g95 := BlkO.evo (by decide) hE173 b167_g95
      have b173_g101 := BlkO.evo (by decide) hE173 b167_g101
      have b173_g126 := BlkO.evo (by decide) hE173 b167_g126
      have b173_A137 := RwO.evo rfl hE173 b167_A137
      refine hn170 _ _ ?_
      refine hn169 _ _ ?_
      refine rg_plain (n := 132) (rs := []) (own0 := own173) (K := [])
          (bs := [0, 1, 3])
          (ds := [⟨[], [18], [], Fct.val 78 (.int .i64 i153)⟩,
          ⟨[0], [], [], Fct.val 79 (.int .i64 (ad i153 1))⟩,
          ⟨[1], [], [], Fct.val 18 (.int .i64 (ad i153 1))⟩]) (by kernel_rfl) hz173 hd173 (fun _ h => nomatch h) ?_ ?_
      · refine steps_cons (fun own a wx hf hsl hE => ?_) ?_
        · obtain ⟨s_18, -⟩ := hsl
          exact sg_plain rfl rfl (or_move (s_18.trans e173_18))
        refine steps_cons (fun own a wx hf hsl hE => ?_) ?_
        · obtain ⟨(f_78 : a.eval (.tmp 78) = .int .i64 i153), -⟩ := hf
          exact sg_plain rfl rfl (or_add f_78 rfl rfl)
        refine steps_cons (fun own a wx hf hsl hE => ?_) ?_
        · obtain ⟨(f_79 : a.eval (.tmp 79) = .int .i64 (ad i153 1)), -⟩ := hf
          exact sg_plain rfl rfl (or_assign f_79)
        exact steps_nil
      intro own174 a174 w174 hd174 hz174 hk174 hf174 hE174
      have e174_6 : a174.eval (.tmp 6) = .pointer (some ⟨g95, 0, none⟩) := (hk174 6 rfl).trans e173_6
      have e174_9 : a174.eval (.tmp 9) = .pointer (some ⟨g101, 0, none⟩) := (hk174 9 rfl).trans e173_9
      have e174_14 : a174.eval (.tmp 14) = .pointer (some ⟨g126, 0, none⟩) := (hk174 14 rfl).trans e173_14
      have e174_16 : a174.eval (.tmp 16) = .bool x172 := (hk174 16 rfl).trans e173_16
      have e174_17 : a174.eval (.tmp 17) = .slice A137 r136.length cA137 := (hk174 17 rfl).trans e173_17
      obtain ⟨(f_18 : a174.eval (.tmp 18) = .int .i64 (ad i153 1)), -⟩ := hf174 [2] rfl
      have e174_18 := f_18
      have hX174 := Evo.step hX173 (fun _ => Nat.le_refl 0) hE174 rfl
      have b174_g95 := BlkO.evo (by decide) hE174 b173_g95
      have b174_g101 := BlkO.evo (by decide) hE174 b173_g101
      have b174_g126 := BlkO.evo (by decide) hE174 b173_g126
      have b174_A137 := RwO.evo rfl hE174 b173_A137
      exact hn164 _ _ _ hs ⟨own174, hd174, hz174, e174_6, e174_9, e174_14, e174_16, e174_17, e174_18, hX174, b174_g95, b174_g101, b174_g126, b174_A137⟩
    refine fl_exit ?_
    refine hp166 _ _ _ rfl ?_
    replace hs := hz164 _ hs
    refine hp164 _ _ _ rfl ?_
    refine hx142 _ _ ?_
    refine hn140 _ _ ?_
    obtain ⟨x175, hx175, hs⟩ := obind hs
    obtain ⟨x176, hx176, hs⟩ := obind hs
    obtain ⟨x177, hx177, hs⟩ := obind hs
    refine rg_plain_seq (n := 132) (rs := []) (own0 := own167) (K := [])
        (bs := [0, 1, 0, 4, 12, 31, 63, 127, 255, 127, 639, 1663, 4095, 8191, 16383, 32767, 65535, 32767, 163839, 425983, 1048575, 2097151, 4194303, 8388607, 16777215, 8388607, 41943039, 109051903, 268435455, 536870911, 1073741823])
        (ds := [⟨[], [6], [], Fct.val 89 (.pointer (some ⟨g95, 0, none⟩))⟩,
        ⟨[0], [], [], Fct.val 90 (.int .i64 p3.1)⟩,
        ⟨[], [14], [], Fct.val 91 (.pointer (some ⟨g126, 0, none⟩))⟩,
        ⟨[2], [], [], Fct.val 92 (.pointer (some ⟨g126, 0, none⟩))⟩,
        ⟨[3], [], [], Fct.val 93 (.int .i64 r125.1.1.1)⟩,
        ⟨[1, 4], [], [], Fct.val 94 (.bool (decide (r125.1.1.1 < p3.1)))⟩,
        ⟨[5], [], [], Fct.val 95 (.bool (decide (r125.1.1.1 < p3.1)))⟩,
        ⟨[6], [6], [], Fct.cond (decide (r125.1.1.1 < p3.1)) (some 96) (Fct.val 96 (.pointer (some ⟨g95, 0, none⟩)))⟩,
        ⟨[6, 7], [], [], Fct.cond (decide (r125.1.1.1 < p3.1)) (some 97) (Fct.val 97 (.int .i64 p3.1))⟩,
        ⟨[6], [14], [], Fct.cond (decide (r125.1.1.1 < p3.1)) (some 98) (Fct.val 98 (.pointer (some ⟨g126, 2, none⟩)))⟩,
        ⟨[6, 9], [], [], Fct.cond (decide (r125.1.1.1 < p3.1)) (some 99) (Fct.val 99 (.pointer (some ⟨g126, 2, none⟩)))⟩,
        ⟨[6, 10], [], [], Fct.cond (decide (r125.1.1.1 < p3.1)) (some 100) (Fct.val 100 (.int .i64 r125.1.2.1))⟩,
        ⟨[6, 8, 11], [], [], Fct.cond (decide (r125.1.1.1 < p3.1)) (some 101) (Fct.val 101 (.bool (decide (p3.1 < r125.1.2.1))))⟩,
        ⟨[6, 12], [], [], Fct.val 102 (.bool x175)⟩,
        ⟨[13], [], [], Fct.val 103 (.bool x175)⟩,
        ⟨[14], [6], [], Fct.cond x175 (some 104) (Fct.val 104 (.pointer (some ⟨g95, 1, none⟩)))⟩,
        ⟨[14, 15], [], [], Fct.cond x175 (some 105) (Fct.val 105 (.int .i64 p3.2))⟩,
        ⟨[14], [14], [], Fct.cond x175 (some 106) (Fct.val 106 (.pointer (some ⟨g126, 0, none⟩)))⟩,
        ⟨[14, 17], [], [], Fct.cond x175 (some 107) (Fct.val 107 (.pointer (some ⟨g126, 1, none⟩)))⟩,
        ⟨[14, 18], [], [], Fct.cond x175 (some 108) (Fct.val 108 (.int .i64 r125.1.1.2))⟩,
        ⟨[14, 16, 19], [], [], Fct.cond x175 (some 109) (Fct.val 109 (.bool (decide (r125.1.1.2 < p3.2))))⟩,
        ⟨[14, 20], [], [], Fct.val 110 (.bool x176)⟩,
        ⟨[21], [], [], Fct.val 111 (.bool x176)⟩,
        ⟨[22], [6], [], Fct.cond x176 (some 112) (Fct.val 112 (.pointer (some ⟨g95, 1, none⟩)))⟩,
        ⟨[22, 23], [], [], Fct.cond x176 (some 113) (Fct.val 113 (.int .i64 p3.2))⟩,
        ⟨[22], [14], [], Fct.cond x176 (some 114) (Fct.val 114 (.pointer (some ⟨g126, 2, none⟩)))⟩,
        ⟨[22, 25], [], [], Fct.cond x176 (some 115) (Fct.val 115 (.pointer (some ⟨g126, 3, none⟩)))⟩,
        ⟨[22, 26], [], [], Fct.cond x176 (some 116) (Fct.val 116 (.int .i64 r125.1.2.2))⟩,
        ⟨[22, 24, 27], [], [], Fct.cond x176 (some 117) (Fct.val 117 (.bool (decide (p3.2 < r125.1.2.2))))⟩,
        ⟨[22, 28], [], [], Fct.val 118 (.bool x177)⟩,
        ⟨[29], [], [], Fct.val 19 (.bool x177)⟩]) (by kernel_rfl) hz167 hd167 (fun _ h => nomatch h) ?_ ?_
    · refine steps_cons (fun own a wx hf hsl hE => ?_) ?_
      · obtain ⟨s_6, -⟩ := hsl
        exact sg_plain rfl rfl (or_field fo23_0 (s_6.trans e167_6) (by rfl))
      refine steps_cons (fun own a wx hf hsl hE => ?_) ?_
      · obtain ⟨(f_89 : a.eval (.tmp 89) = .pointer (some ⟨g95, 0, none⟩)), -⟩ := hf
        exact sg_plain rfl rfl (or_load1 to3 f_89 (Blk.at_ (BlkO.evo (by decide) hE b167_g95).2 0 rfl))
      refine steps_cons (fun own a wx hf hsl hE => ?_) ?_
      · obtain ⟨s_14, -⟩ := hsl
        exact sg_plain rfl rfl (or_field fo25_0 (s_14.trans e167_14) (by rfl))
      refine steps_cons (fun own a wx hf hsl hE => ?_) ?_
      · obtain ⟨(f_91 : a.eval (.tmp 91) = .pointer (some ⟨g126, 0, none⟩)), -⟩ := hf
        exact sg_plain rfl rfl (or_field fo23_0 f_91 (by rfl))
      refine steps_cons (fun own a wx hf hsl hE => ?_) ?_
      · obtain ⟨(f_92 : a.eval (.tmp 92) = .pointer (some ⟨g126, 0, none⟩)), -⟩ := hf
        exact sg_plain rfl rfl (or_load1 to3 f_92 (Blk.at_ (BlkO.evo (by decide) hE b167_g126).2 0 rfl))
      refine steps_cons (fun own a wx hf hsl hE => ?_) ?_
      · obtain ⟨(f_90 : a.eval (.tmp 90) = .int .i64 p3.1), (f_93 : a.eval (.tmp 93) = .int .i64 r125.1.1.1), -⟩ := hf
        exact sg_plain rfl rfl (or_gtr f_90 f_93 rfl)
      refine steps_cons (fun own a wx hf hsl hE => ?_) ?_
      · obtain ⟨(f_94 : a.eval (.tmp 94) = .bool (decide (r125.1.1.1 < p3.1))), -⟩ := hf
        exact sg_plain rfl rfl (or_move f_94)
      refine steps_cons (fun own a wx hf hsl hE => ?_) ?_
      · obtain ⟨(f_95 : a.eval (.tmp 95) = .bool (decide (r125.1.1.1 < p3.1))), -⟩ := hf
        obtain ⟨s_6, -⟩ := hsl
        refine sg_t rfl rfl rfl f_95 (fun hg => ?_)
        exact or_field fo23_0 (s_6.trans e167_6) (by rfl)
      refine steps_cons (fun own a wx hf hsl hE => ?_) ?_
      · obtain ⟨(f_95 : a.eval (.tmp 95) = .bool (decide (r125.1.1.1 < p3.1))), c_96, -⟩ := hf
        refine sg_t rfl rfl rfl f_95 (fun hg => ?_)
        have f_96 : a.eval (.tmp 96) = .pointer (some ⟨g95, 0, none⟩) := c_96.1 hg
        exact or_load1 to3 f_96 (Blk.at_ (BlkO.evo (by decide) hE b167_g95).2 0 rfl)
      refine steps_cons (fun own a wx hf hsl hE => ?_) ?_
      · obtain ⟨(f_95 : a.eval (.tmp 95) = .bool (decide (r125.1.1.1 < p3.1))), -⟩ := hf
        obtain ⟨s_14, -⟩ := hsl
        refine sg_t rfl rfl rfl f_95 (fun hg => ?_)
        exact or_field fo25_1 (s_14.trans e167_14) (by rfl)
      refine steps_cons (fun own a wx hf hsl hE => ?_) ?_
      · obtain ⟨(f_95 : a.eval (.tmp 95) = .bool (decide (r125.1.1.1 < p3.1))), c_98, -⟩ := hf
        refine sg_t rfl rfl rfl f_95 (fun hg => ?_)
        have f_98 : a.eval (.tmp 98) = .pointer (some ⟨g126, 2, none⟩) := c_98.1 hg
        exact or_field fo23_0 f_98 (by rfl)
      refine steps_cons (fun own a wx hf hsl hE => ?_) ?_
      · obtain ⟨(f_95 : a.eval (.tmp 95) = .bool (decide (r125.1.1.1 < p3.1))), c_99, -⟩ := hf
        refine sg_t rfl rfl rfl f_95 (fun hg => ?_)
        have f_99 : a.eval (.tmp 99) = .pointer (some ⟨g126, 2, none⟩) := c_99.1 hg
        exact or_load1 to3 f_99 (Blk.at_ (BlkO.evo (by decide) hE b167_g126).2 2 rfl)
      refine steps_cons (fun own a wx hf hsl hE => ?_) ?_
      · obtain ⟨(f_95 : a.eval (.tmp 95) = .bool (decide (r125.1.1.1 < p3.1))), c_97, c_100, -⟩ := hf
        refine sg_t rfl rfl rfl f_95 (fun hg => ?_)
        have f_97 : a.eval (.tmp 97) = .int .i64 p3.1 := c_97.1 hg
        have f_100 : a.eval (.tmp 100) = .int .i64 r125.1.2.1 := c_100.1 hg
        exact or_lss f_97 f_100 rfl
      refine steps_cons (fun own a wx hf hsl hE => ?_) ?_
      · obtain ⟨(f_95 : a.eval (.tmp 95) = .bool (decide (r125.1.1.1 < p3.1))), c_101, -⟩ := hf
        exact sg_plain rfl rfl (or_and f_95 (fun hx => c_101.1 hx) rfl (osome hx175).symm)
      refine steps_cons (fun own a wx hf hsl hE => ?_) ?_
      · obtain ⟨(f_102 : a.eval (.tmp 102) = .bool x175), -⟩ := hf
        exact sg_plain rfl rfl (or_move f_102)
      refine steps_cons (fun own a wx hf hsl hE => ?_) ?_
      · obtain ⟨(f_103 : a.eval (.tmp 103) = .bool x175), -⟩ := hf
        obtain ⟨s_6, -⟩ := hsl
        refine sg_t rfl rfl rfl f_103 (fun hg => ?_)
        exact or_field fo23_1 (s_6.trans e167_6) (by rfl)
      refine steps_cons (fun own a wx hf hsl hE => ?_) ?_
      · obtain ⟨(f_103 : a.eval (.tmp 103) = .bool x175), c_104, -⟩ := hf
        refine sg_t rfl rfl rfl f_103 (fun hg => ?_)
        have f_104 : a.eval (.tmp 104) = .pointer (some ⟨g95, 1, none⟩) := c_104.1 hg
        exact or_load1 to3 f_104 (Blk.at_ (BlkO.evo (by decide) hE b167_g95).2 1 rfl)
      refine steps_cons (fun own a wx hf hsl hE => ?_) ?_
      · obtain ⟨(f_103 : a.eval (.tmp 103) = .bool x175), -⟩ := hf
        obtain ⟨s_14, -⟩ := hsl
        refine sg_t rfl rfl rfl f_103 (fun hg => ?_)
        exact or_field fo25_0 (s_14.trans e167_14) (by rfl)
      refine steps_cons (fun own a wx hf hsl hE => ?_) ?_
      · obtain ⟨(f_103 : a.eval (.tmp 103) = .bool x175), c_106, -⟩ := hf
        refine sg_t rfl rfl rfl f_103 (fun hg => ?_)
        have f_106 : a.eval (.tmp 106) = .pointer (some ⟨g126, 0, none⟩) := c_106.1 hg
        exact or_field fo23_1 f_106 (by rfl)
      refine steps_cons (fun own a wx hf hsl hE => ?_) ?_
      · obtain ⟨(f_103 : a.eval (.tmp 103) = .bool x175), c_107, -⟩ := hf
        refine sg_t rfl rfl rfl f_103 (fun hg => ?_)
        have f_107 : a.eval (.tmp 107) = .pointer (some ⟨g126, 1, none⟩) := c_107.1 hg
        exact or_load1 to3 f_107 (Blk.at_ (BlkO.evo (by decide) hE b167_g126).2 1 rfl)
      refine steps_cons (fun own a wx hf hsl hE => ?_) ?_
      · obtain ⟨(f_103 : a.eval (.tmp 103) = .bool x175), c_105, c_108, -⟩ := hf
        refine sg_t rfl rfl rfl f_103 (fun hg => ?_)
        have f_105 : a.eval (.tmp 105) = .int .i64 p3.2 := c_105.1 hg
        have f_108 : a.eval (.tmp 108) = .int .i64 r125.1.1.2 := c_108.1 hg
        exact or_gtr f_105 f_108 rfl
      refine steps_cons (fun own a wx hf hsl hE => ?_) ?_
      · obtain ⟨(f_103 : a.eval (.tmp 103) = .bool x175), c_109, -⟩ := hf
        exact sg_plain rfl rfl (or_and f_103 (fun hx => c_109.1 hx) rfl (osome hx176).symm)
      refine steps_cons (fun own a wx hf hsl hE => ?_) ?_
      · obtain ⟨(f_110 : a.eval (.tmp 110) = .bool x176), -⟩ := hf
        exact sg_plain rfl rfl (or_move f_110)
      refine steps_cons (fun own a wx hf hsl hE => ?_) ?_
      · obtain ⟨(f_111 : a.eval (.tmp 111) = .bool x176), -⟩ := hf
        obtain ⟨s_6, -⟩ := hsl
        refine sg_t rfl rfl rfl f_111 (fun hg => ?_)
        exact or_field fo23_1 (s_6.trans e167_6) (by rfl)
      refine steps_cons (fun own a wx hf hsl hE => ?_) ?_
      · obtain ⟨(f_111 : a.eval (.tmp 111) = .bool x176), c_112, -⟩ := hf
        refine sg_t rfl rfl rfl f_111 (fun hg => ?_)
        have f_112 : a.eval (.tmp 112) = .pointer (some ⟨g95, 1, none⟩) := c_112.1 hg
        exact or_load1 to3 f_112 (Blk.at_ (BlkO.evo (by decide) hE b167_g95).2 1 rfl)
      refine steps_cons (fun own a wx hf hsl hE => ?_) ?_
      · obtain ⟨(f_111 : a.eval (.tmp 111) = .bool x176), -⟩ := hf
        obtain ⟨s_14, -⟩ := hsl
        refine sg_t rfl rfl rfl f_111 (fun hg => ?_)
        exact or_field fo25_1 (s_14.trans e167_14) (by rfl)
      refine steps_cons (fun own a wx hf hsl hE => ?_) ?_
      · obtain ⟨(f_111 : a.eval (.tmp 111) = .bool x176), c_114, -⟩ := hf
        refine sg_t rfl rfl rfl f_111 (fun hg => ?_)
        have f_114 : a.eval (.tmp 114) = .pointer (some ⟨g126, 2, none⟩) := c_114.1 hg
        exact or_field fo23_1 f_114 (by rfl)
      refine steps_cons (fun own a wx hf hsl hE => ?_) ?_
      · obtain ⟨(f_111 : a.eval (.tmp 111) = .bool x176), c_115, -⟩ := hf
        refine sg_t rfl rfl rfl f_111 (fun hg => ?_)
        have f_115 : a.eval (.tmp 115) = .pointer (some ⟨g126, 3, none⟩) := c_115.1 hg
        exact or_load1 to3 f_115 (Blk.at_ (BlkO.evo (by decide) hE b167_g126).2 3 rfl)
      refine steps_cons (fun own a wx hf hsl hE => ?_) ?_
      · obtain ⟨(f_111 : a.eval (.tmp 111) = .bool x176), c_113, c_116, -⟩ := hf
        refine sg_t rfl rfl rfl f_111 (fun hg => ?_)
        have f_113 : a.eval (.tmp 113) = .int .i64 p3.2 := c_113.1 hg
        have f_116 : a.eval (.tmp 116) = .int .i64 r125.1.2.2 := c_116.1 hg
        exact or_lss f_113 f_116 rfl
      refine steps_cons (fun own a wx hf hsl hE => ?_) ?_
      · obtain ⟨(f_111 : a.eval (.tmp 111) = .bool x176), c_117, -⟩ := hf
        exact sg_plain rfl rfl (or_and f_111 (fun hx => c_117.1 hx) rfl (osome hx177).symm)
      refine steps_cons (fun own a wx hf hsl hE => ?_) ?_
      · obtain ⟨(f_118 : a.eval (.tmp 118) = .bool x177), -⟩ := hf
        exact sg_plain rfl rfl (or_assign f_118)
      exact steps_nil
    intro own178 a178 w178 hd178 hz178 hk178 hf178 hE178
    have e178_6 : a178.eval (.tmp 6) = .pointer (some ⟨g95, 0, none⟩) := (hk178 6 rfl).trans e167_6
    have e178_14 : a178.eval (.tmp 14) = .pointer (some ⟨g126, 0, none⟩) := (hk178 14 rfl).trans e167_14
    have e178_16 : a178.eval (.tmp 16) = .bool found152 := (hk178 16 rfl).trans e167_16
    obtain ⟨(f_19 : a178.eval (.tmp 19) = .bool x177), -⟩ := hf178 [30] rfl
    have e178_19 := f_19
    have hX178 := Evo.step hX167 (fun _ => Nat.le_refl 0) hE178 rfl
    have b178_g95 := BlkO.evo (by decide) hE178 b167_g95
    have b178_g126 := BlkO.evo (by decide) hE178 b167_g126
    obtain ⟨r179, hr179, hs⟩ := obind hs
    obtain ⟨r180, hr180, hs⟩ := obind hs
    obtain ⟨x181, hx181, hs⟩ := obind hs
    refine rg_plain_seq (n := 132) (rs := []) (own0 := own178) (K := [])
        (bs := [0, 1, 3, 3, 3, 27, 63, 127, 255, 511, 511, 2047, 4095, 8191])
        (ds := [⟨[], [], [], Fct.val 119 (.bool r179)⟩,
        ⟨[0], [], [], Fct.val 120 (.bool r179)⟩,
        ⟨[1], [14], [], Fct.cond r179 (some 121) (Fct.val 121 (.agg #[.int .i64 r125.1.1.1, .int .i64 r125.1.1.2, .int .i64 r125.1.2.1, .int .i64 r125.1.2.2]))⟩,
        ⟨[1], [6], [], Fct.cond r179 (some 122) (Fct.val 122 (.agg #[.int .i64 p3.1, .int .i64 p3.2]))⟩,
        ⟨[1], [6], [], Fct.cond r179 (some 123) (Fct.val 123 (.agg #[.int .i64 p3.1, .int .i64 p3.2]))⟩,
        ⟨[1, 3, 4], [], [], Fct.cond r179 (some 124) (Fct.val 124 (.agg #[.int .i64 p3.1, .int .i64 p3.2, .int .i64 p3.1, .int .i64 p3.2]))⟩,
        ⟨[1, 2, 5], [], [], Fct.cond r179 (some 125) (Fct.val 125 (.bool r180))⟩,
        ⟨[1, 6], [], [], Fct.val 126 (.bool (r179 && r180))⟩,
        ⟨[7], [], [], Fct.val 127 (.bool (r179 && r180))⟩,
        ⟨[8], [16], [], Fct.cond (r179 && r180) (some 128) (Fct.val 128 (.bool found152))⟩,
        ⟨[8], [19], [], Fct.cond (r179 && r180) (some 129) (Fct.val 129 (.bool x177))⟩,
        ⟨[8, 9, 10], [], [], Fct.cond (r179 && r180) (some 130) (Fct.val 130 (.bool (found152 == x177)))⟩,
        ⟨[8, 11], [], [], Fct.val 131 (.bool x181)⟩,
        ⟨[12], [], [], Fct.val 8 (.bool x181)⟩]) (by kernel_rfl) hz178 hd178 (fun _ h => nomatch h) ?_ ?_
    · refine steps_cons (fun own a wx hf hsl hE => ?_) ?_
      · exact sg_plain rfl rfl (or_call cf15 (args0) (law20_known_w _   r179 hr179) post_val)
      refine steps_cons (fun own a wx hf hsl hE => ?_) ?_
      · obtain ⟨(f_119 : a.eval (.tmp 119) = .bool r179), -⟩ := hf
        exact sg_plain rfl rfl (or_move f_119)
      refine steps_cons (fun own a wx hf hsl hE => ?_) ?_
      · obtain ⟨(f_120 : a.eval (.tmp 120) = .bool r179), -⟩ := hf
        obtain ⟨s_14, -⟩ := hsl
        refine sg_t rfl rfl rfl f_120 (fun hg => ?_)
        exact or_load (l := [.int .i64 r125.1.1.1, .int .i64 r125.1.1.2, .int .i64 r125.1.2.1, .int .i64 r125.1.2.2]) ta25 (s_14.trans e178_14) (Blk.cellsFrom (BlkO.evo (by decide) hE b178_g126).2 0 rfl) rfl
      refine steps_cons (fun own a wx hf hsl hE => ?_) ?_
      · obtain ⟨(f_120 : a.eval (.tmp 120) = .bool r179), -⟩ := hf
        obtain ⟨s_6, -⟩ := hsl
        refine sg_t rfl rfl rfl f_120 (fun hg => ?_)
        exact or_load (l := [.int .i64 p3.1, .int .i64 p3.2]) ta23 (s_6.trans e178_6) (Blk.cellsFrom (BlkO.evo (by decide) hE b178_g95).2 0 rfl) rfl
      refine steps_cons (fun own a wx hf hsl hE => ?_) ?_
      · obtain ⟨(f_120 : a.eval (.tmp 120) = .bool r179), -⟩ := hf
        obtain ⟨s_6, -⟩ := hsl
        refine sg_t rfl rfl rfl f_120 (fun hg => ?_)
        exact or_load (l := [.int .i64 p3.1, .int .i64 p3.2]) ta23 (s_6.trans e178_6) (Blk.cellsFrom (BlkO.evo (by decide) hE b178_g95).2 0 rfl) rfl
      refine steps_cons (fun own a wx hf hsl hE => ?_) ?_
      · obtain ⟨(f_120 : a.eval (.tmp 120) = .bool r179), c_122, c_123, -⟩ := hf
        refine sg_t rfl rfl rfl f_120 (fun hg => ?_)
        have f_122 : a.eval (.tmp 122) = .agg #[.int .i64 p3.1, .int .i64 p3.2] := c_122.1 hg
        have f_123 : a.eval (.tmp 123) = .agg #[.int .i64 p3.1, .int .i64 p3.2] := c_123.1 hg
        exact or_k [(122, .agg #[.int .i64 p3.1, .int .i64 p3.2]), (123, .agg #[.int .i64 p3.1, .int .i64 p3.2])] rfl rfl ⟨f_122, f_123, trivial⟩ (by kernel_rfl)
      refine steps_cons (fun own a wx hf hsl hE => ?_) ?_
      · obtain ⟨(f_120 : a.eval (.tmp 120) = .bool r179), c_121, c_124, -⟩ := hf
        refine sg_t rfl rfl rfl f_120 (fun hg => ?_)
        have f_121 : a.eval (.tmp 121) = .agg #[.int .i64 r125.1.1.1, .int .i64 r125.1.1.2, .int .i64 r125.1.2.1, .int .i64 r125.1.2.2] := c_121.1 hg
        have f_124 : a.eval (.tmp 124) = .agg #[.int .i64 p3.1, .int .i64 p3.2, .int .i64 p3.1, .int .i64 p3.2] := c_124.1 hg
        exact or_call cf16 (args2 f_121 f_124) (rows_Meet_w _ r125.1 (p3, p3)  r180 (gd_t hr180 hg)) post_val
      refine steps_cons (fun own a wx hf hsl hE => ?_) ?_
      · obtain ⟨(f_120 : a.eval (.tmp 120) = .bool r179), c_125, -⟩ := hf
        exact sg_plain rfl rfl (or_and f_120 (fun hx => c_125.1 hx) rfl rfl)
      refine steps_cons (fun own a wx hf hsl hE => ?_) ?_
      · obtain ⟨(f_126 : a.eval (.tmp 126) = .bool (r179 && r180)), -⟩ := hf
        exact sg_plain rfl rfl (or_move f_126)
      refine steps_cons (fun own a wx hf hsl hE => ?_) ?_
      · obtain ⟨(f_127 : a.eval (.tmp 127) = .bool (r179 && r180)), -⟩ := hf
        obtain ⟨s_16, -⟩ := hsl
        refine sg_t rfl rfl rfl f_127 (fun hg => ?_)
        exact or_move (s_16.trans e178_16)
      refine steps_cons (fun own a wx hf hsl hE => ?_) ?_
      · obtain ⟨(f_127 : a.eval (.tmp 127) = .bool (r179 && r180)), -⟩ := hf
        obtain ⟨s_19, -⟩ := hsl
        refine sg_t rfl rfl rfl f_127 (fun hg => ?_)
        exact or_move (s_19.trans e178_19)
      refine steps_cons (fun own a wx hf hsl hE => ?_) ?_
      · obtain ⟨(f_127 : a.eval (.tmp 127) = .bool (r179 && r180)), c_128, c_129, -⟩ := hf
        refine sg_t rfl rfl rfl f_127 (fun hg => ?_)
        have f_128 : a.eval (.tmp 128) = .bool found152 := c_128.1 hg
        have f_129 : a.eval (.tmp 129) = .bool x177 := c_129.1 hg
        exact or_eqlb tb4 f_128 f_129 rfl
      refine steps_cons (fun own a wx hf hsl hE => ?_) ?_
      · obtain ⟨(f_127 : a.eval (.tmp 127) = .bool (r179 && r180)), c_130, -⟩ := hf
        exact sg_plain rfl rfl (or_and f_127 (fun hx => c_130.1 hx) rfl (osome hx181).symm)
      refine steps_cons (fun own a wx hf hsl hE => ?_) ?_
      · obtain ⟨(f_131 : a.eval (.tmp 131) = .bool x181), -⟩ := hf
        exact sg_plain rfl rfl (or_assign f_131)
      exact steps_nil
    intro own182 a182 w182 hd182 hz182 hk182 hf182 hE182
    obtain ⟨(f_8 : a182.eval (.tmp 8) = .bool x181), -⟩ := hf182 [13] rfl
    have e182_8 := f_8
    have hX182 := Evo.step hX178 (fun _ => Nat.le_refl 0) hE182 rfl
    refine fl_ret ?_
    obtain rfl := (osome hs).symm
    exact hret _ _ _ _ (.inl rfl) hd182 (results1_ rfl (RVal.tmp_ e182_8)) ⟨own182, rfl, hX182⟩

end Go.Proofs.Ytehmjkdgakinbaa
