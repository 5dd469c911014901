/-
  Chapter 03. The walks.
-/
import Derived.Test.YthkmkmkcnljmaaaWp1
import Derived.Test.YthkmkmkcnljmaaaSp2
namespace Go.Proofs.Ythkmkmkcnljmaaa
open Go.RowKit
set_option linter.unusedVariables false
set_option maxHeartbeats 2000000 in
theorem seg_Class_w (w : World) (x1 : Int × Int) (b2 : Int × Int) (c3 : Int × Int) (d4 : Int × Int) (r : Int × Int) (hs : seg_Class x1 b2 c3 d4 = some r) :
    Calls Try.prog 36 #[.agg #[.int .i64 x1.1, .int .i64 x1.2], .agg #[.int .i64 b2.1, .int .i64 b2.2], .agg #[.int .i64 c3.1, .int .i64 c3.2], .agg #[.int .i64 d4.1, .int .i64 d4.2]] w fun e w' => ∃ own' : Own, e = .returned (.tuple #[.int .i64 r.1, .int .i64 r.2]) ∧ Evo [] (fun _ => 0) own' w w' := by
  refine fl_enter (n := 103) rfl rfl rfl (Nat.le_of_ble_eq_true rfl) ?_
  intro a0 Q hd0 hz0 harg hret
  have ha0 := harg 0 _ rfl
  have ha1 := harg 1 _ rfl
  have ha2 := harg 2 _ rfl
  have ha3 := harg 3 _ rfl
  clear harg
  have hE0 : Evo [] (fun _ => 0) (fun _ => 0) w w := Evo.refl _ _ _
  refine rg_plain_seq (n := 103) (rs := []) (own0 := (fun _ => 0)) (K := [])
      (bs := [0, 0, 0, 0, 0, 16])
      (ds := [⟨[], [0], [], Fct.blk 78 4 (fun g => .pointer (some ⟨g, 0, none⟩)) 32 #[.int .i64 x1.1, .int .i64 x1.2]⟩,
      ⟨[], [1], [], Fct.blk 80 5 (fun g => .pointer (some ⟨g, 0, none⟩)) 32 #[.int .i64 b2.1, .int .i64 b2.2]⟩,
      ⟨[], [2], [], Fct.blk 82 6 (fun g => .pointer (some ⟨g, 0, none⟩)) 32 #[.int .i64 c3.1, .int .i64 c3.2]⟩,
      ⟨[], [3], [], Fct.blk 84 7 (fun g => .pointer (some ⟨g, 0, none⟩)) 32 #[.int .i64 d4.1, .int .i64 d4.2]⟩,
      ⟨[], [], [], Fct.val 8 (.int .i64 0)⟩,
      ⟨[], [], [], Fct.val 9 (.int .i64 0)⟩]) (by kernel_rfl) hz0 hd0 (fun _ h => nomatch h) ?_ ?_
  · refine steps_cons (fun own a wx hf hsl hE => ?_) ?_
    · obtain ⟨s_0, -⟩ := hsl
      exact sg_plain rfl rfl (or_new [(0, .agg #[.int .i64 x1.1, .int .i64 x1.2])] rfl rfl ⟨(s_0.trans ha0), trivial⟩ (by kernel_rfl))
    refine steps_cons (fun own a wx hf hsl hE => ?_) ?_
    · obtain ⟨s_1, -⟩ := hsl
      exact sg_plain rfl rfl (or_new [(1, .agg #[.int .i64 b2.1, .int .i64 b2.2])] rfl rfl ⟨(s_1.trans ha1), trivial⟩ (by kernel_rfl))
    refine steps_cons (fun own a wx hf hsl hE => ?_) ?_
    · obtain ⟨s_2, -⟩ := hsl
      exact sg_plain rfl rfl (or_new [(2, .agg #[.int .i64 c3.1, .int .i64 c3.2])] rfl rfl ⟨(s_2.trans ha2), trivial⟩ (by kernel_rfl))
    refine steps_cons (fun own a wx hf hsl hE => ?_) ?_
    · obtain ⟨s_3, -⟩ := hsl
      exact sg_plain rfl rfl (or_new [(3, .agg #[.int .i64 d4.1, .int .i64 d4.2])] rfl rfl ⟨(s_3.trans ha3), trivial⟩ (by kernel_rfl))
    refine steps_cons (fun own a wx hf hsl hE => ?_) ?_
    · exact sg_plain rfl rfl (or_assign rfl)
    refine steps_cons (fun own a wx hf hsl hE => ?_) ?_
    · exact sg_plain rfl rfl (or_assign rfl)
    exact steps_nil
  intro own85 a85 w85 hd85 hz85 hk85 hf85 hE85
  obtain ⟨⟨g77, (f_4 : a85.eval (.tmp 4) = .pointer (some ⟨g77, 0, none⟩)), (b_g77 : BlkO own85 78 w85 g77 32 #[.int .i64 x1.1, .int .i64 x1.2])⟩, ⟨g79, (f_5 : a85.eval (.tmp 5) = .pointer (some ⟨g79, 0, none⟩)), (b_g79 : BlkO own85 80 w85 g79 32 #[.int .i64 b2.1, .int .i64 b2.2])⟩, ⟨g81, (f_6 : a85.eval (.tmp 6) = .pointer (some ⟨g81, 0, none⟩)), (b_g81 : BlkO own85 82 w85 g81 32 #[.int .i64 c3.1, .int .i64 c3.2])⟩, ⟨g83, (f_7 : a85.eval (.tmp 7) = .pointer (some ⟨g83, 0, none⟩)), (b_g83 : BlkO own85 84 w85 g83 32 #[.int .i64 d4.1, .int .i64 d4.2])⟩, -⟩ := hf85 [0, 1, 2, 3] rfl
  have e85_4 := f_4
  have e85_5 := f_5
  have e85_6 := f_6
  have e85_7 := f_7
  have hX85 := Evo.step hE0 (fun _ => Nat.le_refl 0) hE85 rfl
  have b85_g77 := b_g77
  have b85_g79 := b_g79
  have b85_g81 := b_g81
  have b85_g83 := b_g83
  refine fl_seq (fun Q86 hn86 hp86 => ?_)
  refine fl_block (fun Q87 hn87 hx87 hp87 => ?_)
  obtain ⟨r90, hr90, hs⟩ := obind hs
  refine rg_plain_seq (n := 103) (rs := []) (own0 := own85) (K := [])
      (bs := [0, 0, 0, 0, 15, 31, 63, 127])
      (ds := [⟨[], [4], [], Fct.val 16 (.agg #[.int .i64 x1.1, .int .i64 x1.2])⟩,
      ⟨[], [5], [], Fct.val 17 (.agg #[.int .i64 b2.1, .int .i64 b2.2])⟩,
      ⟨[], [6], [], Fct.val 18 (.agg #[.int .i64 c3.1, .int .i64 c3.2])⟩,
      ⟨[], [7], [], Fct.val 19 (.agg #[.int .i64 d4.1, .int .i64 d4.2])⟩,
      ⟨[0, 1, 2, 3], [], [], Fct.row 89 [] 20 32 R32 [x1, b2, c3, d4]⟩,
      ⟨[4], [], [], Fct.val 21 (.bool r90)⟩,
      ⟨[5], [], [], Fct.val 22 (.bool (!r90))⟩,
      ⟨[6], [], [], Fct.val 15 (.bool (!r90))⟩]) (by kernel_rfl) hz85 hd85 (fun _ h => nomatch h) ?_ ?_
  · refine steps_cons (fun own a wx hf hsl hE => ?_) ?_
    · obtain ⟨s_4, -⟩ := hsl
      exact sg_plain rfl rfl (or_load (l := [.int .i64 x1.1, .int .i64 x1.2]) ta32 (s_4.trans e85_4) (Blk.cellsFrom (BlkO.evo (by decide) hE b85_g77).2 0 rfl) rfl)
    refine steps_cons (fun own a wx hf hsl hE => ?_) ?_
    · obtain ⟨s_5, -⟩ := hsl
      exact sg_plain rfl rfl (or_load (l := [.int .i64 b2.1, .int .i64 b2.2]) ta32 (s_5.trans e85_5) (Blk.cellsFrom (BlkO.evo (by decide) hE b85_g79).2 0 rfl) rfl)
    refine steps_cons (fun own a wx hf hsl hE => ?_) ?_
    · obtain ⟨s_6, -⟩ := hsl
      exact sg_plain rfl rfl (or_load (l := [.int .i64 c3.1, .int .i64 c3.2]) ta32 (s_6.trans e85_6) (Blk.cellsFrom (BlkO.evo (by decide) hE b85_g81).2 0 rfl) rfl)
    refine steps_cons (fun own a wx hf hsl hE => ?_) ?_
    · obtain ⟨s_7, -⟩ := hsl
      exact sg_plain rfl rfl (or_load (l := [.int .i64 d4.1, .int .i64 d4.2]) ta32 (s_7.trans e85_7) (Blk.cellsFrom (BlkO.evo (by decide) hE b85_g83).2 0 rfl) rfl)
    refine steps_cons (fun own a wx hf hsl hE => ?_) ?_
    · obtain ⟨(f_16 : a.eval (.tmp 16) = .agg #[.int .i64 x1.1, .int .i64 x1.2]), (f_17 : a.eval (.tmp 17) = .agg #[.int .i64 b2.1, .int .i64 b2.2]), (f_18 : a.eval (.tmp 18) = .agg #[.int .i64 c3.1, .int .i64 c3.2]), (f_19 : a.eval (.tmp 19) = .agg #[.int .i64 d4.1, .int .i64 d4.2]), -⟩ := hf
      exact sg_plain rfl rfl (or_lit (lab := 89) (e := 32) (cs := #[.int .i64 x1.1, .int .i64 x1.2, .int .i64 b2.1, .int .i64 b2.2, .int .i64 c3.1, .int .i64 c3.2, .int .i64 d4.1, .int .i64 d4.2]) (F := E32) (or_new [(16, .agg #[.int .i64 x1.1, .int .i64 x1.2]), (17, .agg #[.int .i64 b2.1, .int .i64 b2.2]), (18, .agg #[.int .i64 c3.1, .int .i64 c3.2]), (19, .agg #[.int .i64 d4.1, .int .i64 d4.2])] rfl rfl ⟨f_16, f_17, f_18, f_19, trivial⟩ (by kernel_rfl)) rfl rfl (show 4 ≤ maxLen by decide))
    refine steps_cons (fun own a wx hf hsl hE => ?_) ?_
    · obtain ⟨⟨⟨A88, cA88⟩, (f_20 : a.eval (.tmp 20) = .slice A88 [x1, b2, c3, d4].length cA88), (b_A88 : RwO own 89 [] wx 32 R32 A88 cA88 [x1, b2, c3, d4])⟩, -⟩ := hf
      exact sg_plain rfl rfl (or_call cf33 (args1 f_20) (exact_Right_w _ [x1, b2, c3, d4] A88 cA88 (RdO.zero (RwO.rd b_A88)) r90 hr90) post_val)
    refine steps_cons (fun own a wx hf hsl hE => ?_) ?_
    · obtain ⟨(f_21 : a.eval (.tmp 21) = .bool r90), -⟩ := hf
      exact sg_plain rfl rfl (or_not f_21 rfl)
    refine steps_cons (fun own a wx hf hsl hE => ?_) ?_
    · obtain ⟨(f_22 : a.eval (.tmp 22) = .bool (!r90)), -⟩ := hf
      exact sg_plain rfl rfl (or_assign f_22)
    exact steps_nil
  intro own91 a91 w91 hd91 hz91 hk91 hf91 hE91
  have e91_4 : a91.eval (.tmp 4) = .pointer (some ⟨g77, 0, none⟩) := (hk91 4 rfl).trans e85_4
  have e91_5 : a91.eval (.tmp 5) = .pointer (some ⟨g79, 0, none⟩) := (hk91 5 rfl).trans e85_5
  have e91_6 : a91.eval (.tmp 6) = .pointer (some ⟨g81, 0, none⟩) := (hk91 6 rfl).trans e85_6
  have e91_7 : a91.eval (.tmp 7) = .pointer (some ⟨g83, 0, none⟩) := (hk91 7 rfl).trans e85_7
  obtain ⟨(f_15 : a91.eval (.tmp 15) = .bool (!r90)), -⟩ := hf91 [7] rfl
  have e91_15 := f_15
  have hX91 := Evo.step hX85 (fun _ => Nat.le_refl 0) hE91 rfl
  have b91_g77 := BlkO.evo (by decide) hE91 b85_g77
  have b91_g79 := BlkO.evo (by decide) hE91 b85_g79
  have b91_g81 := BlkO.evo (by decide) hE91 b85_g81
  have b91_g83 := BlkO.evo (by decide) hE91 b85_g83
  refine fl_cond e91_15 hs (fun c92 hs => ?_) (fun c92 hs => ?_)
  · refine rg_plain_seq (n := 103) (rs := []) (own0 := own91) (K := [])
        (bs := [0, 1])
        (ds := [⟨[], [], [], Fct.val 8 (.int .i64 0)⟩,
        ⟨[], [], [], Fct.val 9 (.int .i64 5)⟩]) (by kernel_rfl) hz91 hd91 (fun _ h => nomatch h) ?_ ?_
    · refine steps_cons (fun own a wx hf hsl hE => ?_) ?_
      · exact sg_plain rfl rfl (or_assign rfl)
      refine steps_cons (fun own a wx hf hsl hE => ?_) ?_
      · exact sg_plain rfl rfl (or_assign rfl)
      exact steps_nil
    intro own93 a93 w93 hd93 hz93 hk93 hf93 hE93
    obtain ⟨(f_8 : a93.eval (.tmp 8) = .int .i64 0), (f_9 : a93.eval (.tmp 9) = .int .i64 5), -⟩ := hf93 [0, 1] rfl
    have e93_8 := f_8
    have e93_9 := f_9
    have hX93 := Evo.step hX91 (fun _ => Nat.le_refl 0) hE93 rfl
    refine fl_ret ?_
    refine hp87 _ _ _ rfl ?_
    refine hp86 _ _ _ rfl ?_
    obtain rfl := osome hs
    exact hret _ _ _ _ (.inl rfl) hd93 (results2_ rfl (RVal.tmp_ e93_8) (RVal.tmp_ e93_9)) ⟨own93, rfl, hX93⟩
  obtain ⟨x94, hx94, hs⟩ := obind hs
  refine rg_plain_seq (n := 103) (rs := []) (own0 := own91) (K := [])
      (bs := [0, 0, 3, 7, 15, 15, 63, 127, 255])
      (ds := [⟨[], [4], [], Fct.val 24 (.agg #[.int .i64 x1.1, .int .i64 x1.2])⟩,
      ⟨[], [5], [], Fct.val 25 (.agg #[.int .i64 b2.1, .int .i64 b2.2])⟩,
      ⟨[0, 1], [], [], Fct.val 26 (.bool (decide (x1 = b2)))⟩,
      ⟨[2], [], [], Fct.val 27 (.bool (decide (x1 = b2)))⟩,
      ⟨[3], [6], [], Fct.cond (!(decide (x1 = b2))) (some 28) (Fct.val 28 (.agg #[.int .i64 c3.1, .int .i64 c3.2]))⟩,
      ⟨[3], [7], [], Fct.cond (!(decide (x1 = b2))) (some 29) (Fct.val 29 (.agg #[.int .i64 d4.1, .int .i64 d4.2]))⟩,
      ⟨[3, 4, 5], [], [], Fct.cond (!(decide (x1 = b2))) (some 30) (Fct.val 30 (.bool (decide (c3 = d4))))⟩,
      ⟨[3, 6], [], [], Fct.val 31 (.bool x94)⟩,
      ⟨[7], [], [], Fct.val 23 (.bool x94)⟩]) (by kernel_rfl) hz91 hd91 (fun _ h => nomatch h) ?_ ?_
  · refine steps_cons (fun own a wx hf hsl hE => ?_) ?_
    · obtain ⟨s_4, -⟩ := hsl
      exact sg_plain rfl rfl (or_load (l := [.int .i64 x1.1, .int .i64 x1.2]) ta32 (s_4.trans e91_4) (Blk.cellsFrom (BlkO.evo (by decide) hE b91_g77).2 0 rfl) rfl)
    refine steps_cons (fun own a wx hf hsl hE => ?_) ?_
    · obtain ⟨s_5, -⟩ := hsl
      exact sg_plain rfl rfl (or_load (l := [.int .i64 b2.1, .int .i64 b2.2]) ta32 (s_5.trans e91_5) (Blk.cellsFrom (BlkO.evo (by decide) hE b91_g79).2 0 rfl) rfl)
    refine steps_cons (fun own a wx hf hsl hE => ?_) ?_
    · obtain ⟨(f_24 : a.eval (.tmp 24) = .agg #[.int .i64 x1.1, .int .i64 x1.2]), (f_25 : a.eval (.tmp 25) = .agg #[.int .i64 b2.1, .int .i64 b2.2]), -⟩ := hf
      exact sg_plain rfl rfl (or_eqlA sg32 f_24 f_25 (se32 x1.1 x1.2 b2.1 b2.2 _) rfl)
    refine steps_cons (fun own a wx hf hsl hE => ?_) ?_
    · obtain ⟨(f_26 : a.eval (.tmp 26) = .bool (decide (x1 = b2))), -⟩ := hf
      exact sg_plain rfl rfl (or_move f_26)
    refine steps_cons (fun own a wx hf hsl hE => ?_) ?_
    · obtain ⟨(f_27 : a.eval (.tmp 27) = .bool (decide (x1 = b2))), -⟩ := hf
      obtain ⟨s_6, -⟩ := hsl
      refine sg_f rfl rfl rfl f_27 (fun hg => ?_)
      exact or_load (l := [.int .i64 c3.1, .int .i64 c3.2]) ta32 (s_6.trans e91_6) (Blk.cellsFrom (BlkO.evo (by decide) hE b91_g81).2 0 rfl) rfl
    refine steps_cons (fun own a wx hf hsl hE => ?_) ?_
    · obtain ⟨(f_27 : a.eval (.tmp 27) = .bool (decide (x1 = b2))), -⟩ := hf
      obtain ⟨s_7, -⟩ := hsl
      refine sg_f rfl rfl rfl f_27 (fun hg => ?_)
      exact or_load (l := [.int .i64 d4.1, .int .i64 d4.2]) ta32 (s_7.trans e91_7) (Blk.cellsFrom (BlkO.evo (by decide) hE b91_g83).2 0 rfl) rfl
    refine steps_cons (fun own a wx hf hsl hE => ?_) ?_
    · obtain ⟨(f_27 : a.eval (.tmp 27) = .bool (decide (x1 = b2))), c_28, c_29, -⟩ := hf
      refine sg_f rfl rfl rfl f_27 (fun hg => ?_)
      have f_28 : a.eval (.tmp 28) = .agg #[.int .i64 c3.1, .int .i64 c3.2] := c_28.1 hg
      have f_29 : a.eval (.tmp 29) = .agg #[.int .i64 d4.1, .int .i64 d4.2] := c_29.1 hg
      exact or_eqlA sg32 f_28 f_29 (se32 c3.1 c3.2 d4.1 d4.2 _) rfl
    refine steps_cons (fun own a wx hf hsl hE => ?_) ?_
    · obtain ⟨(f_27 : a.eval (.tmp 27) = .bool (decide (x1 = b2))), c_30, -⟩ := hf
      exact sg_plain rfl rfl (or_or f_27 rfl (fun hx => c_30.1 hx) (osome hx94).symm)
    refine steps_cons (fun own a wx hf hsl hE => ?_) ?_
    · obtain ⟨(f_31 : a.eval (.tmp 31) = .bool x94), -⟩ := hf
      exact sg_plain rfl rfl (or_assign f_31)
    exact steps_nil
  intro own95 a95 w95 hd95 hz95 hk95 hf95 hE95
  have e95_4 : a95.eval (.tmp 4) = .pointer (some ⟨g77, 0, none⟩) := (hk95 4 rfl).trans e91_4
  have e95_5 : a95.eval (.tmp 5) = .pointer (some ⟨g79, 0, none⟩) := (hk95 5 rfl).trans e91_5
  have e95_6 : a95.eval (.tmp 6) = .pointer (some ⟨g81, 0, none⟩) := (hk95 6 rfl).trans e91_6
  have e95_7 : a95.eval (.tmp 7) = .pointer (some ⟨g83, 0, none⟩) := (hk95 7 rfl).trans e91_7
  obtain ⟨(f_23 : a95.eval (.tmp 23) = .bool x94), -⟩ := hf95 [8] rfl
  have e95_23 := f_23
  have hX95 := Evo.step hX91 (fun _ => Nat.le_refl 0) hE95 rfl
  have b95_g77 := BlkO.evo (by decide) hE95 b91_g77
  have b95_g79 := BlkO.evo (by decide) hE95 b91_g79
  have b95_g81 := BlkO.evo (by decide) hE95 b91_g81
  have b95_g83 := BlkO.evo (by decide) hE95 b91_g83
  refine fl_cond e95_23 hs (fun c96 hs => ?_) (fun c96 hs => ?_)
  · refine rg_plain_seq (n := 103) (rs := []) (own0 := own95) (K := [])
        (bs := [0, 1])
        (ds := [⟨[], [], [], Fct.val 8 (.int .i64 0)⟩,
        ⟨[], [], [], Fct.val 9 (.int .i64 1)⟩]) (by kernel_rfl) hz95 hd95 (fun _ h => nomatch h) ?_ ?_
    · refine steps_cons (fun own a wx hf hsl hE => ?_) ?_
      · exact sg_plain rfl rfl (or_assign rfl)
      refine steps_cons (fun own a wx hf hsl hE => ?_) ?_
      · exact sg_plain rfl rfl (or_assign rfl)
      exact steps_nil
    intro own97 a97 w97 hd97 hz97 hk97 hf97 hE97
    obtain ⟨(f_8 : a97.eval (.tmp 8) = .int .i64 0), (f_9 : a97.eval (.tmp 9) = .int .i64 1), -⟩ := hf97 [0, 1] rfl
    have e97_8 := f_8
    have e97_9 := f_9
    have hX97 := Evo.step hX95 (fun _ => Nat.le_refl 0) hE97 rfl
    refine fl_ret ?_
    refine hp87 _ _ _ rfl ?_
    refine hp86 _ _ _ rfl ?_
    obtain rfl := osome hs
    exact hret _ _ _ _ (.inl rfl) hd97 (results2_ rfl (RVal.tmp_ e97_8) (RVal.tmp_ e97_9)) ⟨own97, rfl, hX97⟩
  obtain ⟨x98, hx98, hs⟩ := obind hs
  obtain ⟨x99, hx99, hs⟩ := obind hs
  refine rg_plain_seq (n := 103) (rs := []) (own0 := own95) (K := [])
      (bs := [0, 0, 3, 7, 15, 15, 63, 127, 255, 511, 511, 2047, 4095, 8191, 8191, 32767, 65535, 131071, 262143])
      (ds := [⟨[], [4], [], Fct.val 33 (.agg #[.int .i64 x1.1, .int .i64 x1.2])⟩,
      ⟨[], [6], [], Fct.val 34 (.agg #[.int .i64 c3.1, .int .i64 c3.2])⟩,
      ⟨[0, 1], [], [], Fct.val 35 (.bool (decide (x1 = c3)))⟩,
      ⟨[2], [], [], Fct.val 36 (.bool (decide (x1 = c3)))⟩,
      ⟨[3], [5], [], Fct.cond (decide (x1 = c3)) (some 37) (Fct.val 37 (.agg #[.int .i64 b2.1, .int .i64 b2.2]))⟩,
      ⟨[3], [7], [], Fct.cond (decide (x1 = c3)) (some 38) (Fct.val 38 (.agg #[.int .i64 d4.1, .int .i64 d4.2]))⟩,
      ⟨[3, 4, 5], [], [], Fct.cond (decide (x1 = c3)) (some 39) (Fct.val 39 (.bool (decide (b2 = d4))))⟩,
      ⟨[3, 6], [], [], Fct.val 40 (.bool x98)⟩,
      ⟨[7], [], [], Fct.val 41 (.bool x98)⟩,
      ⟨[8], [4], [], Fct.cond (!x98) (some 42) (Fct.val 42 (.agg #[.int .i64 x1.1, .int .i64 x1.2]))⟩,
      ⟨[8], [7], [], Fct.cond (!x98) (some 43) (Fct.val 43 (.agg #[.int .i64 d4.1, .int .i64 d4.2]))⟩,
      ⟨[8, 9, 10], [], [], Fct.cond (!x98) (some 44) (Fct.val 44 (.bool (decide (x1 = d4))))⟩,
      ⟨[8, 11], [], [], Fct.cond (!x98) (some 45) (Fct.val 45 (.bool (decide (x1 = d4))))⟩,
      ⟨[12], [5], [], Fct.cond ((!x98) && (decide (x1 = d4))) (some 46) (Fct.val 46 (.agg #[.int .i64 b2.1, .int .i64 b2.2]))⟩,
      ⟨[12], [6], [], Fct.cond ((!x98) && (decide (x1 = d4))) (some 47) (Fct.val 47 (.agg #[.int .i64 c3.1, .int .i64 c3.2]))⟩,
      ⟨[12, 13, 14], [], [], Fct.cond ((!x98) && (decide (x1 = d4))) (some 48) (Fct.val 48 (.bool (decide (b2 = c3))))⟩,
      ⟨[8, 12, 15], [], [], Fct.cond (!x98) (some 49) (Fct.val 49 (.bool x99))⟩,
      ⟨[8, 16], [], [], Fct.val 50 (.bool (x98 || x99))⟩,
      ⟨[17], [], [], Fct.val 32 (.bool (x98 || x99))⟩]) (by kernel_rfl) hz95 hd95 (fun _ h => nomatch h) ?_ ?_
  · refine steps_cons (fun own a wx hf hsl hE => ?_) ?_
    · obtain ⟨s_4, -⟩ := hsl
      exact sg_plain rfl rfl (or_load (l := [.int .i64 x1.1, .int .i64 x1.2]) ta32 (s_4.trans e95_4) (Blk.cellsFrom (BlkO.evo (by decide) hE b95_g77).2 0 rfl) rfl)
    refine steps_cons (fun own a wx hf hsl hE => ?_) ?_
    · obtain ⟨s_6, -⟩ := hsl
      exact sg_plain rfl rfl (or_load (l := [.int .i64 c3.1, .int .i64 c3.2]) ta32 (s_6.trans e95_6) (Blk.cellsFrom (BlkO.evo (by decide) hE b95_g81).2 0 rfl) rfl)
    refine steps_cons (fun own a wx hf hsl hE => ?_) ?_
    · obtain ⟨(f_33 : a.eval (.tmp 33) = .agg #[.int .i64 x1.1, .int .i64 x1.2]), (f_34 : a.eval (.tmp 34) = .agg #[.int .i64 c3.1, .int .i64 c3.2]), -⟩ := hf
      exact sg_plain rfl rfl (or_eqlA sg32 f_33 f_34 (se32 x1.1 x1.2 c3.1 c3.2 _) rfl)
    refine steps_cons (fun own a wx hf hsl hE => ?_) ?_
    · obtain ⟨(f_35 : a.eval (.tmp 35) = .bool (decide (x1 = c3))), -⟩ := hf
      exact sg_plain rfl rfl (or_move f_35)
    refine steps_cons (fun own a wx hf hsl hE => ?_) ?_
    · obtain ⟨(f_36 : a.eval (.tmp 36) = .bool (decide (x1 = c3))), -⟩ := hf
      obtain ⟨s_5, -⟩ := hsl
      refine sg_t rfl rfl rfl f_36 (fun hg => ?_)
      exact or_load (l := [.int .i64 b2.1, .int .i64 b2.2]) ta32 (s_5.trans e95_5) (Blk.cellsFrom (BlkO.evo (by decide) hE b95_g79).2 0 rfl) rfl
    refine steps_cons (fun own a wx hf hsl hE => ?_) ?_
    · obtain ⟨(f_36 : a.eval (.tmp 36) = .bool (decide (x1 = c3))), -⟩ := hf
      obtain ⟨s_7, -⟩ := hsl
      refine sg_t rfl rfl rfl f_36 (fun hg => ?_)
      exact or_load (l := [.int .i64 d4.1, .int .i64 d4.2]) ta32 (s_7.trans e95_7) (Blk.cellsFrom (BlkO.evo (by decide) hE b95_g83).2 0 rfl) rfl
    refine steps_cons (fun own a wx hf hsl hE => ?_) ?_
    · obtain ⟨(f_36 : a.eval (.tmp 36) = .bool (decide (x1 = c3))), c_37, c_38, -⟩ := hf
      refine sg_t rfl rfl rfl f_36 (fun hg => ?_)
      have f_37 : a.eval (.tmp 37) = .agg #[.int .i64 b2.1, .int .i64 b2.2] := c_37.1 hg
      have f_38 : a.eval (.tmp 38) = .agg #[.int .i64 d4.1, .int .i64 d4.2] := c_38.1 hg
      exact or_eqlA sg32 f_37 f_38 (se32 b2.1 b2.2 d4.1 d4.2 _) rfl
    refine steps_cons (fun own a wx hf hsl hE => ?_) ?_
    · obtain ⟨(f_36 : a.eval (.tmp 36) = .bool (decide (x1 = c3))), c_39, -⟩ := hf
      exact sg_plain rfl rfl (or_and f_36 (fun hx => c_39.1 hx) rfl (osome hx98).symm)
    refine steps_cons (fun own a wx hf hsl hE => ?_) ?_
    · obtain ⟨(f_40 : a.eval (.tmp 40) = .bool x98), -⟩ := hf
      exact sg_plain rfl rfl (or_move f_40)
    refine steps_cons (fun own a wx hf hsl hE => ?_) ?_
    · obtain ⟨(f_41 : a.eval (.tmp 41) = .bool x98), -⟩ := hf
      obtain ⟨s_4, -⟩ := hsl
      refine sg_f rfl rfl rfl f_41 (fun hg => ?_)
      exact or_load (l := [.int .i64 x1.1, .int .i64 x1.2]) ta32 (s_4.trans e95_4) (Blk.cellsFrom (BlkO.evo (by decide) hE b95_g77).2 0 rfl) rfl
    refine steps_cons (fun own a wx hf hsl hE => ?_) ?_
    · obtain ⟨(f_41 : a.eval (.tmp 41) = .bool x98), -⟩ := hf
      obtain ⟨s_7, -⟩ := hsl
      refine sg_f rfl rfl rfl f_41 (fun hg => ?_)
      exact or_load (l := [.int .i64 d4.1, .int .i64 d4.2]) ta32 (s_7.trans e95_7) (Blk.cellsFrom (BlkO.evo (by decide) hE b95_g83).2 0 rfl) rfl
    refine steps_cons (fun own a wx hf hsl hE => ?_) ?_
    · obtain ⟨(f_41 : a.eval (.tmp 41) = .bool x98), c_42, c_43, -⟩ := hf
      refine sg_f rfl rfl rfl f_41 (fun hg => ?_)
      have f_42 : a.eval (.tmp 42) = .agg #[.int .i64 x1.1, .int .i64 x1.2] := c_42.1 hg
      have f_43 : a.eval (.tmp 43) = .agg #[.int .i64 d4.1, .int .i64 d4.2] := c_43.1 hg
      exact or_eqlA sg32 f_42 f_43 (se32 x1.1 x1.2 d4.1 d4.2 _) rfl
    refine steps_cons (fun own a wx hf hsl hE => ?_) ?_
    · obtain ⟨(f_41 : a.eval (.tmp 41) = .bool x98), c_44, -⟩ := hf
      refine sg_f rfl rfl rfl f_41 (fun hg => ?_)
      have f_44 : a.eval (.tmp 44) = .bool (decide (x1 = d4)) := c_44.1 hg
      exact or_move f_44
    refine steps_cons (fun own a wx hf hsl hE => ?_) ?_
    · obtain ⟨c_45, -⟩ := hf
      obtain ⟨s_5, -⟩ := hsl
      refine sg_tc rfl rfl rfl c_45 (fun hg => ?_)
      have f_45 : a.eval (.tmp 45) = .bool (decide (x1 = d4)) := c_45.1 (gL hg)
      exact or_load (l := [.int .i64 b2.1, .int .i64 b2.2]) ta32 (s_5.trans e95_5) (Blk.cellsFrom (BlkO.evo (by decide) hE b95_g79).2 0 rfl) rfl
    refine steps_cons (fun own a wx hf hsl hE => ?_) ?_
    · obtain ⟨c_45, -⟩ := hf
      obtain ⟨s_6, -⟩ := hsl
      refine sg_tc rfl rfl rfl c_45 (fun hg => ?_)
      have f_45 : a.eval (.tmp 45) = .bool (decide (x1 = d4)) := c_45.1 (gL hg)
      exact or_load (l := [.int .i64 c3.1, .int .i64 c3.2]) ta32 (s_6.trans e95_6) (Blk.cellsFrom (BlkO.evo (by decide) hE b95_g81).2 0 rfl) rfl
    refine steps_cons (fun own a wx hf hsl hE => ?_) ?_
    · obtain ⟨c_45, c_46, c_47, -⟩ := hf
      refine sg_tc rfl rfl rfl c_45 (fun hg => ?_)
      have f_45 : a.eval (.tmp 45) = .bool (decide (x1 = d4)) := c_45.1 (gL hg)
      have f_46 : a.eval (.tmp 46) = .agg #[.int .i64 b2.1, .int .i64 b2.2] := c_46.1 hg
      have f_47 : a.eval (.tmp 47) = .agg #[.int .i64 c3.1, .int .i64 c3.2] := c_47.1 hg
      exact or_eqlA sg32 f_46 f_47 (se32 b2.1 b2.2 c3.1 c3.2 _) rfl
    refine steps_cons (fun own a wx hf hsl hE => ?_) ?_
    · obtain ⟨(f_41 : a.eval (.tmp 41) = .bool x98), c_45, c_48, -⟩ := hf
      refine sg_f rfl rfl rfl f_41 (fun hg => ?_)
      have f_45 : a.eval (.tmp 45) = .bool (decide (x1 = d4)) := c_45.1 hg
      exact or_and f_45 (fun hx => c_48.1 (gI hg hx)) rfl (osome hx99).symm
    refine steps_cons (fun own a wx hf hsl hE => ?_) ?_
    · obtain ⟨(f_41 : a.eval (.tmp 41) = .bool x98), c_49, -⟩ := hf
      exact sg_plain rfl rfl (or_or f_41 rfl (fun hx => c_49.1 hx) rfl)
    refine steps_cons (fun own a wx hf hsl hE => ?_) ?_
    · obtain ⟨(f_50 : a.eval (.tmp 50) = .bool (x98 || x99)), -⟩ := hf
      exact sg_plain rfl rfl (or_assign f_50)
    exact steps_nil
  intro own100 a100 w100 hd100 hz100 hk100 hf100 hE100
  have e100_4 : a100.eval (.tmp 4) = .pointer (some ⟨g77, 0, none⟩) := (hk100 4 rfl).trans e95_4
  have e100_5 : a100.eval (.tmp 5) = .pointer (some ⟨g79, 0, none⟩) := (hk100 5 rfl).trans e95_5
  have e100_6 : a100.eval (.tmp 6) = .pointer (some ⟨g81, 0, none⟩) := (hk100 6 rfl).trans e95_6
  have e100_7 : a100.eval (.tmp 7) = .pointer (some ⟨g83, 0, none⟩) := (hk100 7 rfl).trans e95_7
  obtain ⟨(f_32 : a100.eval (.tmp 32) = .bool (x98 || x99)), -⟩ := hf100 [18] rfl
  have e100_32 := f_32
  have hX100 := Evo.step hX95 (fun _ => Nat.le_refl 0) hE100 rfl
  have b100_g77 := BlkO.evo (by decide) hE100 b95_g77
  have b100_g79 := BlkO.evo (by decide) hE100 b95_g79
  have b100_g81 := BlkO.evo (by decide) hE100 b95_g81
  have b100_g83 := BlkO.evo (by decide) hE100 b95_g83
  refine fl_cond e100_32 hs (fun c101 hs => ?_) (fun c101 hs => ?_)
  · refine rg_plain_seq (n := 103) (rs := []) (own0 := own100) (K := [])
        (bs := [0, 1])
        (ds := [⟨[], [], [], Fct.val 8 (.int .i64 5)⟩,
        ⟨[], [], [], Fct.val 9 (.int .i64 0)⟩]) (by kernel_rfl) hz100 hd100 (fun _ h => nomatch h) ?_ ?_
    · refine steps_cons (fun own a wx hf hsl hE => ?_) ?_
      · exact sg_plain rfl rfl (or_assign rfl)
      refine steps_cons (fun own a wx hf hsl hE => ?_) ?_
      · exact sg_plain rfl rfl (or_assign rfl)
      exact steps_nil
    intro own102 a102 w102 hd102 hz102 hk102 hf102 hE102
    obtain ⟨(f_8 : a102.eval (.tmp 8) = .int .i64 5), (f_9 : a102.eval (.tmp 9) = .int .i64 0), -⟩ := hf102 [0, 1] rfl
    have e102_8 := f_8
    have e102_9 := f_9
    have hX102 := Evo.step hX100 (fun _ => Nat.le_refl 0) hE102 rfl
    refine fl_ret ?_
    refine hp87 _ _ _ rfl ?_
    refine hp86 _ _ _ rfl ?_
    obtain rfl := osome hs
    exact hret _ _ _ _ (.inl rfl) hd102 (results2_ rfl (RVal.tmp_ e102_8) (RVal.tmp_ e102_9)) ⟨own102, rfl, hX102⟩
  refine fl_skip ?_
  refine hn87 _ _ ?_
  refine hn86 _ _ ?_
  obtain ⟨r103, hr103, hs⟩ := obind hs
  obtain ⟨r104, hr104, hs⟩ := obind hs
  refine rg_draw_seq g_mixed (n := 103) (rs := []) (own0 := own100) (K := [])
      (bs := [0, 0, 0, 7, 0, 0, 0, 127, 255, 511])
      (ds := [⟨[], [4], [], Fct.val 51 (.agg #[.int .i64 x1.1, .int .i64 x1.2])⟩,
      ⟨[], [5], [], Fct.val 52 (.agg #[.int .i64 b2.1, .int .i64 b2.2])⟩,
      ⟨[], [6], [], Fct.val 53 (.agg #[.int .i64 c3.1, .int .i64 c3.2])⟩,
      ⟨[0, 1, 2], [], [], Fct.val 54 (.int .i64 r103)⟩,
      ⟨[], [4], [], Fct.val 55 (.agg #[.int .i64 x1.1, .int .i64 x1.2])⟩,
      ⟨[], [5], [], Fct.val 56 (.agg #[.int .i64 b2.1, .int .i64 b2.2])⟩,
      ⟨[], [7], [], Fct.val 57 (.agg #[.int .i64 d4.1, .int .i64 d4.2])⟩,
      ⟨[4, 5, 6], [], [], Fct.val 58 (.int .i64 r104)⟩,
      ⟨[3], [], [], Fct.val 10 (.int .i64 r103)⟩,
      ⟨[7], [], [], Fct.val 11 (.int .i64 r104)⟩]) (by kernel_rfl) hz100 hd100 (fun _ h => nomatch h) ?_ ?_
  · refine steps_cons (fun own a wx hf hsl hE => ?_) ?_
    · obtain ⟨s_4, -⟩ := hsl
      exact sg_plain rfl rfl (or_load (l := [.int .i64 x1.1, .int .i64 x1.2]) ta32 (s_4.trans e100_4) (Blk.cellsFrom (BlkO.evo (by decide) hE b100_g77).2 0 rfl) rfl)
    refine steps_cons (fun own a wx hf hsl hE => ?_) ?_
    · obtain ⟨s_5, -⟩ := hsl
      exact sg_plain rfl rfl (or_load (l := [.int .i64 b2.1, .int .i64 b2.2]) ta32 (s_5.trans e100_5) (Blk.cellsFrom (BlkO.evo (by decide) hE b100_g79).2 0 rfl) rfl)
    refine steps_cons (fun own a wx hf hsl hE => ?_) ?_
    · obtain ⟨s_6, -⟩ := hsl
      exact sg_plain rfl rfl (or_load (l := [.int .i64 c3.1, .int .i64 c3.2]) ta32 (s_6.trans e100_6) (Blk.cellsFrom (BlkO.evo (by decide) hE b100_g81).2 0 rfl) rfl)
    refine steps_cons (fun own a wx hf hsl hE => ?_) ?_
    · obtain ⟨(f_51 : a.eval (.tmp 51) = .agg #[.int .i64 x1.1, .int .i64 x1.2]), (f_52 : a.eval (.tmp 52) = .agg #[.int .i64 b2.1, .int .i64 b2.2]), (f_53 : a.eval (.tmp 53) = .agg #[.int .i64 c3.1, .int .i64 c3.2]), -⟩ := hf
      exact sg_plain rfl rfl (or_call cf38 (args3 f_51 f_52 f_53) (exact_Turn_w _ x1 b2 c3  r103 hr103) post_val)
    refine steps_cons (fun own a wx hf hsl hE => ?_) ?_
    · obtain ⟨s_4, -⟩ := hsl
      exact sg_plain rfl rfl (or_load (l := [.int .i64 x1.1, .int .i64 x1.2]) ta32 (s_4.trans e100_4) (Blk.cellsFrom (BlkO.evo (by decide) hE b100_g77).2 0 rfl) rfl)
    refine steps_cons (fun own a wx hf hsl hE => ?_) ?_
    · obtain ⟨s_5, -⟩ := hsl
      exact sg_plain rfl rfl (or_load (l := [.int .i64 b2.1, .int .i64 b2.2]) ta32 (s_5.trans e100_5) (Blk.cellsFrom (BlkO.evo (by decide) hE b100_g79).2 0 rfl) rfl)
    refine steps_cons (fun own a wx hf hsl hE => ?_) ?_
    · obtain ⟨s_7, -⟩ := hsl
      exact sg_plain rfl rfl (or_load (l := [.int .i64 d4.1, .int .i64 d4.2]) ta32 (s_7.trans e100_7) (Blk.cellsFrom (BlkO.evo (by decide) hE b100_g83).2 0 rfl) rfl)
    refine steps_cons (fun own a wx hf hsl hE => ?_) ?_
    · obtain ⟨(f_55 : a.eval (.tmp 55) = .agg #[.int .i64 x1.1, .int .i64 x1.2]), (f_56 : a.eval (.tmp 56) = .agg #[.int .i64 b2.1, .int .i64 b2.2]), (f_57 : a.eval (.tmp 57) = .agg #[.int .i64 d4.1, .int .i64 d4.2]), -⟩ := hf
      exact sg_plain rfl rfl (or_call cf38 (args3 f_55 f_56 f_57) (exact_Turn_w _ x1 b2 d4  r104 hr104) post_val)
    refine steps_cons (fun own a wx hf hsl hE => ?_) ?_
    · obtain ⟨(f_54 : a.eval (.tmp 54) = .int .i64 r103), -⟩ := hf
      exact sg_plain rfl rfl (or_assign f_54)
    refine steps_cons (fun own a wx hf hsl hE => ?_) ?_
    · obtain ⟨(f_58 : a.eval (.tmp 58) = .int .i64 r104), -⟩ := hf
      exact sg_plain rfl rfl (or_assign f_58)
    exact steps_nil
  intro own105 a105 w105 hd105 hz105 hk105 hf105 hE105
  have e105_4 : a105.eval (.tmp 4) = .pointer (some ⟨g77, 0, none⟩) := (hk105 4 rfl).trans e100_4
  have e105_5 : a105.eval (.tmp 5) = .pointer (some ⟨g79, 0, none⟩) := (hk105 5 rfl).trans e100_5
  have e105_6 : a105.eval (.tmp 6) = .pointer (some ⟨g81, 0, none⟩) := (hk105 6 rfl).trans e100_6
  have e105_7 : a105.eval (.tmp 7) = .pointer (some ⟨g83, 0, none⟩) := (hk105 7 rfl).trans e100_7
  obtain ⟨(f_10 : a105.eval (.tmp 10) = .int .i64 r103), (f_11 : a105.eval (.tmp 11) = .int .i64 r104), -⟩ := hf105 [8, 9] rfl
  have e105_10 := f_10
  have e105_11 := f_11
  have hX105 := Evo.step hX100 (fun _ => Nat.le_refl 0) hE105 rfl
  have b105_g77 := BlkO.evo (by decide) hE105 b100_g77
  have b105_g79 := BlkO.evo (by decide) hE105 b100_g79
  have b105_g81 := BlkO.evo (by decide) hE105 b100_g81
  have b105_g83 := BlkO.evo (by decide) hE105 b100_g83
  obtain ⟨r106, hr106, hs⟩ := obind hs
  obtain ⟨r107, hr107, hs⟩ := obind hs
  refine rg_draw_seq g_mixed (n := 103) (rs := []) (own0 := own105) (K := [])
      (bs := [0, 0, 0, 7, 0, 0, 0, 127, 255, 511])
      (ds := [⟨[], [6], [], Fct.val 59 (.agg #[.int .i64 c3.1, .int .i64 c3.2])⟩,
      ⟨[], [7], [], Fct.val 60 (.agg #[.int .i64 d4.1, .int .i64 d4.2])⟩,
      ⟨[], [4], [], Fct.val 61 (.agg #[.int .i64 x1.1, .int .i64 x1.2])⟩,
      ⟨[0, 1, 2], [], [], Fct.val 62 (.int .i64 r106)⟩,
      ⟨[], [6], [], Fct.val 63 (.agg #[.int .i64 c3.1, .int .i64 c3.2])⟩,
      ⟨[], [7], [], Fct.val 64 (.agg #[.int .i64 d4.1, .int .i64 d4.2])⟩,
      ⟨[], [5], [], Fct.val 65 (.agg #[.int .i64 b2.1, .int .i64 b2.2])⟩,
      ⟨[4, 5, 6], [], [], Fct.val 66 (.int .i64 r107)⟩,
      ⟨[3], [], [], Fct.val 12 (.int .i64 r106)⟩,
      ⟨[7], [], [], Fct.val 13 (.int .i64 r107)⟩]) (by kernel_rfl) hz105 hd105 (fun _ h => nomatch h) ?_ ?_
  · refine steps_cons (fun own a wx hf hsl hE => ?_) ?_
    · obtain ⟨s_6, -⟩ := hsl
      exact sg_plain rfl rfl (or_load (l := [.int .i64 c3.1, .int .i64 c3.2]) ta32 (s_6.trans e105_6) (Blk.cellsFrom (BlkO.evo (by decide) hE b105_g81).2 0 rfl) rfl)
    refine steps_cons (fun own a wx hf hsl hE => ?_) ?_
    · obtain ⟨s_7, -⟩ := hsl
      exact sg_plain rfl rfl (or_load (l := [.int .i64 d4.1, .int .i64 d4.2]) ta32 (s_7.trans e105_7) (Blk.cellsFrom (BlkO.evo (by decide) hE b105_g83).2 0 rfl) rfl)
    refine steps_cons (fun own a wx hf hsl hE => ?_) ?_
    · obtain ⟨s_4, -⟩ := hsl
      exact sg_plain rfl rfl (or_load (l := [.int .i64 x1.1, .int .i64 x1.2]) ta32 (s_4.trans e105_4) (Blk.cellsFrom (BlkO.evo (by decide) hE b105_g77).2 0 rfl) rfl)
    refine steps_cons (fun own a wx hf hsl hE => ?_) ?_
    · obtain ⟨(f_59 : a.eval (.tmp 59) = .agg #[.int .i64 c3.1, .int .i64 c3.2]), (f_60 : a.eval (.tmp 60) = .agg #[.int .i64 d4.1, .int .i64 d4.2]), (f_61 : a.eval (.tmp 61) = .agg #[.int .i64 x1.1, .int .i64 x1.2]), -⟩ := hf
      exact sg_plain rfl rfl (or_call cf38 (args3 f_59 f_60 f_61) (exact_Turn_w _ c3 d4 x1  r106 hr106) post_val)
    refine steps_cons (fun own a wx hf hsl hE => ?_) ?_
    · obtain ⟨s_6, -⟩ := hsl
      exact sg_plain rfl rfl (or_load (l := [.int .i64 c3.1, .int .i64 c3.2]) ta32 (s_6.trans e105_6) (Blk.cellsFrom (BlkO.evo (by decide) hE b105_g81).2 0 rfl) rfl)
    refine steps_cons (fun own a wx hf hsl hE => ?_) ?_
    · obtain ⟨s_7, -⟩ := hsl
      exact sg_plain rfl rfl (or_load (l := [.int .i64 d4.1, .int .i64 d4.2]) ta32 (s_7.trans e105_7) (Blk.cellsFrom (BlkO.evo (by decide) hE b105_g83).2 0 rfl) rfl)
    refine steps_cons (fun own a wx hf hsl hE => ?_) ?_
    · obtain ⟨s_5, -⟩ := hsl
      exact sg_plain rfl rfl (or_load (l := [.int .i64 b2.1, .int .i64 b2.2]) ta32 (s_5.trans e105_5) (Blk.cellsFrom (BlkO.evo (by decide) hE b105_g79).2 0 rfl) rfl)
    refine steps_cons (fun own a wx hf hsl hE => ?_) ?_
    · obtain ⟨(f_63 : a.eval (.tmp 63) = .agg #[.int .i64 c3.1, .int .i64 c3.2]), (f_64 : a.eval (.tmp 64) = .agg #[.int .i64 d4.1, .int .i64 d4.2]), (f_65 : a.eval (.tmp 65) = .agg #[.int .i64 b2.1, .int .i64 b2.2]), -⟩ := hf
      exact sg_plain rfl rfl (or_call cf38 (args3 f_63 f_64 f_65) (exact_Turn_w _ c3 d4 b2  r107 hr107) post_val)
    refine steps_cons (fun own a wx hf hsl hE => ?_) ?_
    · obtain ⟨(f_62 : a.eval (.tmp 62) = .int .i64 r106), -⟩ := hf
      exact sg_plain rfl rfl (or_assign f_62)
    refine steps_cons (fun own a wx hf hsl hE => ?_) ?_
    · obtain ⟨(f_66 : a.eval (.tmp 66) = .int .i64 r107), -⟩ := hf
      exact sg_plain rfl rfl (or_assign f_66)
    exact steps_nil
  intro own108 a108 w108 hd108 hz108 hk108 hf108 hE108
  have e108_4 : a108.eval (.tmp 4) = .pointer (some ⟨g77, 0, none⟩) := (hk108 4 rfl).trans e105_4
  have e108_5 : a108.eval (.tmp 5) = .pointer (some ⟨g79, 0, none⟩) := (hk108 5 rfl).trans e105_5
  have e108_6 : a108.eval (.tmp 6) = .pointer (some ⟨g81, 0, none⟩) := (hk108 6 rfl).trans e105_6
  have e108_7 : a108.eval (.tmp 7) = .pointer (some ⟨g83, 0, none⟩) := (hk108 7 rfl).trans e105_7
  have e108_10 : a108.eval (.tmp 10) = .int .i64 r103 := (hk108 10 rfl).trans e105_10
  have e108_11 : a108.eval (.tmp 11) = .int .i64 r104 := (hk108 11 rfl).trans e105_11
  obtain ⟨(f_12 : a108.eval (.tmp 12) = .int .i64 r106), (f_13 : a108.eval (.tmp 13) = .int .i64 r107), -⟩ := hf108 [8, 9] rfl
  have e108_12 := f_12
  have e108_13 := f_13
  have hX108 := Evo.step hX105 (fun _ => Nat.le_refl 0) hE108 rfl
  have b108_g77 := BlkO.evo (by decide) hE108 b105_g77
  have b108_g79 := BlkO.evo (by decide) hE108 b105_g79
  have b108_g81 := BlkO.evo (by decide) hE108 b105_g81
  have b108_g83 := BlkO.evo (by decide) hE108 b105_g83
  refine fl_seq (fun Q109 hn109 hp109 => ?_)
  obtain ⟨x110, hx110, hs⟩ := obind hs
  refine rg_plain_seq (n := 103) (rs := []) (own0 := own108) (K := [])
      (bs := [0, 1, 3, 7, 15, 31])
      (ds := [⟨[], [10], [], Fct.val 67 (.int .i64 r103)⟩,
      ⟨[0], [], [], Fct.val 68 (.bool (decide (r103 = 0)))⟩,
      ⟨[1], [], [], Fct.val 69 (.bool (decide (r103 = 0)))⟩,
      ⟨[2], [11], [], Fct.cond (decide (r103 = 0)) (some 70) (Fct.val 70 (.int .i64 r104))⟩,
      ⟨[2, 3], [], [], Fct.cond (decide (r103 = 0)) (some 71) (Fct.val 71 (.bool (decide (r104 = 0))))⟩,
      ⟨[2, 4], [], [], Fct.val 72 (.bool x110)⟩]) (by kernel_rfl) hz108 hd108 (fun _ h => nomatch h) ?_ ?_
  · refine steps_cons (fun own a wx hf hsl hE => ?_) ?_
    · obtain ⟨s_10, -⟩ := hsl
      exact sg_plain rfl rfl (or_move (s_10.trans e108_10))
    refine steps_cons (fun own a wx hf hsl hE => ?_) ?_
    · obtain ⟨(f_67 : a.eval (.tmp 67) = .int .i64 r103), -⟩ := hf
      exact sg_plain rfl rfl (or_eql f_67 rfl rfl)
    refine steps_cons (fun own a wx hf hsl hE => ?_) ?_
    · obtain ⟨(f_68 : a.eval (.tmp 68) = .bool (decide (r103 = 0))), -⟩ := hf
      exact sg_plain rfl rfl (or_move f_68)
    refine steps_cons (fun own a wx hf hsl hE => ?_) ?_
    · obtain ⟨(f_69 : a.eval (.tmp 69) = .bool (decide (r103 = 0))), -⟩ := hf
      obtain ⟨s_11, -⟩ := hsl
      refine sg_t rfl rfl rfl f_69 (fun hg => ?_)
      exact or_move (s_11.trans e108_11)
    refine steps_cons (fun own a wx hf hsl hE => ?_) ?_
    · obtain ⟨(f_69 : a.eval (.tmp 69) = .bool (decide (r103 = 0))), c_70, -⟩ := hf
      refine sg_t rfl rfl rfl f_69 (fun hg => ?_)
      have f_70 : a.eval (.tmp 70) = .int .i64 r104 := c_70.1 hg
      exact or_eql f_70 rfl rfl
    refine steps_cons (fun own a wx hf hsl hE => ?_) ?_
    · obtain ⟨(f_69 : a.eval (.tmp 69) = .bool (decide (r103 = 0))), c_71, -⟩ := hf
      exact sg_plain rfl rfl (or_and f_69 (fun hx => c_71.1 hx) rfl (osome hx110).symm)
    exact steps_nil
  intro own111 a111 w111 hd111 hz111 hk111 hf111 hE111
  have e111_4 : a111.eval (.tmp 4) = .pointer (some ⟨g77, 0, none⟩) := (hk111 4 rfl).trans e108_4
  have e111_5 : a111.eval (.tmp 5) = .pointer (some ⟨g79, 0, none⟩) := (hk111 5 rfl).trans e108_5
  have e111_6 : a111.eval (.tmp 6) = .pointer (some ⟨g81, 0, none⟩) := (hk111 6 rfl).trans e108_6
  have e111_7 : a111.eval (.tmp 7) = .pointer (some ⟨g83, 0, none⟩) := (hk111 7 rfl).trans e108_7
  have e111_10 : a111.eval (.tmp 10) = .int .i64 r103 := (hk111 10 rfl).trans e108_10
  have e111_11 : a111.eval (.tmp 11) = .int .i64 r104 := (hk111 11 rfl).trans e108_11
  have e111_12 : a111.eval (.tmp 12) = .int .i64 r106 := (hk111 12 rfl).trans e108_12
  have e111_13 : a111.eval (.tmp 13) = .int .i64 r107 := (hk111 13 rfl).trans e108_13
  obtain ⟨(f_72 : a111.eval (.tmp 72) = .bool x110), -⟩ := hf111 [5] rfl
  have e111_72 := f_72
  have hX111 := Evo.step hX108 (fun _ => Nat.le_refl 0) hE111 rfl
  have b111_g77 := BlkO.evo (by decide) hE111 b108_g77
  have b111_g79 := BlkO.evo (by decide) hE111 b108_g79
  have b111_g81 := BlkO.evo (by decide) hE111 b108_g81
  have b111_g83 := BlkO.evo (by decide) hE111 b108_g83
  refine fl_cond e111_72 hs (fun c112 hs => ?_) (fun c112 hs => ?_)
  · obtain ⟨r113, hr113, hs⟩ := obind hs
    refine rg_plain_seq (n := 103) (rs := []) (own0 := own111) (K := [])
        (bs := [0, 0, 0, 0, 15, 31, 63])
        (ds := [⟨[], [4], [], Fct.val 73 (.agg #[.int .i64 x1.1, .int .i64 x1.2])⟩,
        ⟨[], [5], [], Fct.val 74 (.agg #[.int .i64 b2.1, .int .i64 b2.2])⟩,
        ⟨[], [6], [], Fct.val 75 (.agg #[.int .i64 c3.1, .int .i64 c3.2])⟩,
        ⟨[], [7], [], Fct.val 76 (.agg #[.int .i64 d4.1, .int .i64 d4.2])⟩,
        ⟨[0, 1, 2, 3], [], [], Fct.val 77 (.int .i64 r113)⟩,
        ⟨[4], [], [], Fct.val 8 (.int .i64 r113)⟩,
        ⟨[], [], [], Fct.val 9 (.int .i64 0)⟩]) (by kernel_rfl) hz111 hd111 (fun _ h => nomatch h) ?_ ?_
    · refine steps_cons (fun own a wx hf hsl hE => ?_) ?_
      · obtain ⟨s_4, -⟩ := hsl
        exact sg_plain rfl rfl (or_load (l := [.int .i64 x1.1, .int .i64 x1.2]) ta32 (s_4.trans e111_4) (Blk.cellsFrom (BlkO.evo (by decide) hE b111_g77).2 0 rfl) rfl)
      refine steps_cons (fun own a wx hf hsl hE => ?_) ?_
      · obtain ⟨s_5, -⟩ := hsl
        exact sg_plain rfl rfl (or_load (l := [.int .i64 b2.1, .int .i64 b2.2]) ta32 (s_5.trans e111_5) (Blk.cellsFrom (BlkO.evo (by decide) hE b111_g79).2 0 rfl) rfl)
      refine steps_cons (fun own a wx hf hsl hE => ?_) ?_
      · obtain ⟨s_6, -⟩ := hsl
        exact sg_plain rfl rfl (or_load (l := [.int .i64 c3.1, .int .i64 c3.2]) ta32 (s_6.trans e111_6) (Blk.cellsFrom (BlkO.evo (by decide) hE b111_g81).2 0 rfl) rfl)
      refine steps_cons (fun own a wx hf hsl hE => ?_) ?_
      · obtain ⟨s_7, -⟩ := hsl
        exact sg_plain rfl rfl (or_load (l := [.int .i64 d4.1, .int .i64 d4.2]) ta32 (s_7.trans e111_7) (Blk.cellsFrom (BlkO.evo (by decide) hE b111_g83).2 0 rfl) rfl)
      refine steps_cons (fun own a wx hf hsl hE => ?_) ?_
      · obtain ⟨(f_73 : a.eval (.tmp 73) = .agg #[.int .i64 x1.1, .int .i64 x1.2]), (f_74 : a.eval (.tmp 74) = .agg #[.int .i64 b2.1, .int .i64 b2.2]), (f_75 : a.eval (.tmp 75) = .agg #[.int .i64 c3.1, .int .i64 c3.2]), (f_76 : a.eval (.tmp 76) = .agg #[.int .i64 d4.1, .int .i64 d4.2]), -⟩ := hf
        exact sg_plain rfl rfl (or_call cf56 (args4 f_73 f_74 f_75 f_76) (seg_line_w _ x1 b2 c3 d4  r113 hr113) post_val)
      refine steps_cons (fun own a wx hf hsl hE => ?_) ?_
      · obtain ⟨(f_77 : a.eval (.tmp 77) = .int .i64 r113), -⟩ := hf
        exact sg_plain rfl rfl (or_assign f_77)
      refine steps_cons (fun own a wx hf hsl hE => ?_) ?_
      · exact sg_plain rfl rfl (or_assign rfl)
      exact steps_nil
    intro own114 a114 w114 hd114 hz114 hk114 hf114 hE114
    obtain ⟨(f_8 : a114.eval (.tmp 8) = .int .i64 r113), (f_9 : a114.eval (.tmp 9) = .int .i64 0), -⟩ := hf114 [5, 6] rfl
    have e114_8 := f_8
    have e114_9 := f_9
    have hX114 := Evo.step hX111 (fun _ => Nat.le_refl 0) hE114 rfl
    refine fl_ret ?_
    refine hp109 _ _ _ rfl ?_
    obtain rfl := osome hs
    exact hret _ _ _ _ (.inl rfl) hd114 (results2_ rfl (RVal.tmp_ e114_8) (RVal.tmp_ e114_9)) ⟨own114, rfl, hX114⟩
  refine fl_skip ?_
  refine hn109 _ _ ?_
  refine fl_seq (fun Q115 hn115 hp115 => ?_)
  obtain ⟨x116, hx116, hs⟩ := obind hs
  refine rg_plain_seq (n := 103) (rs := []) (own0 := own111) (K := [])
      (bs := [0, 0, 3, 7, 15, 31, 31, 127, 255, 511])
      (ds := [⟨[], [10], [], Fct.val 78 (.int .i64 r103)⟩,
      ⟨[], [11], [], Fct.val 79 (.int .i64 r104)⟩,
      ⟨[0, 1], [], [], Fct.val 80 (.int .i64 (ml r103 r104))⟩,
      ⟨[2], [], [], Fct.val 81 (.bool (decide (0 < (ml r103 r104))))⟩,
      ⟨[3], [], [], Fct.val 82 (.bool (decide (0 < (ml r103 r104))))⟩,
      ⟨[4], [12], [], Fct.cond (!(decide (0 < (ml r103 r104)))) (some 83) (Fct.val 83 (.int .i64 r106))⟩,
      ⟨[4], [13], [], Fct.cond (!(decide (0 < (ml r103 r104)))) (some 84) (Fct.val 84 (.int .i64 r107))⟩,
      ⟨[4, 5, 6], [], [], Fct.cond (!(decide (0 < (ml r103 r104)))) (some 85) (Fct.val 85 (.int .i64 (ml r106 r107)))⟩,
      ⟨[4, 7], [], [], Fct.cond (!(decide (0 < (ml r103 r104)))) (some 86) (Fct.val 86 (.bool (decide (0 < (ml r106 r107)))))⟩,
      ⟨[4, 8], [], [], Fct.val 87 (.bool x116)⟩]) (by kernel_rfl) hz111 hd111 (fun _ h => nomatch h) ?_ ?_
  · refine steps_cons (fun own a wx hf hsl hE => ?_) ?_
    · obtain ⟨s_10, -⟩ := hsl
      exact sg_plain rfl rfl (or_move (s_10.trans e111_10))
    refine steps_cons (fun own a wx hf hsl hE => ?_) ?_
    · obtain ⟨s_11, -⟩ := hsl
      exact sg_plain rfl rfl (or_move (s_11.trans e111_11))
    refine steps_cons (fun own a wx hf hsl hE => ?_) ?_
    · obtain ⟨(f_78 : a.eval (.tmp 78) = .int .i64 r103), (f_79 : a.eval (.tmp 79) = .int .i64 r104), -⟩ := hf
      exact sg_plain rfl rfl (or_mul f_78 f_79 rfl)
    refine steps_cons (fun own a wx hf hsl hE => ?_) ?_
    · obtain ⟨(f_80 : a.eval (.tmp 80) = .int .i64 (ml r103 r104)), -⟩ := hf
      exact sg_plain rfl rfl (or_gtr f_80 rfl rfl)
    refine steps_cons (fun own a wx hf hsl hE => ?_) ?_
    · obtain ⟨(f_81 : a.eval (.tmp 81) = .bool (decide (0 < (ml r103 r104)))), -⟩ := hf
      exact sg_plain rfl rfl (or_move f_81)
    refine steps_cons (fun own a wx hf hsl hE => ?_) ?_
    · obtain ⟨(f_82 : a.eval (.tmp 82) = .bool (decide (0 < (ml r103 r104)))), -⟩ := hf
      obtain ⟨s_12, -⟩ := hsl
      refine sg_f rfl rfl rfl f_82 (fun hg => ?_)
      exact or_move (s_12.trans e111_12)
    refine steps_cons (fun own a wx hf hsl hE => ?_) ?_
    · obtain ⟨(f_82 : a.eval (.tmp 82) = .bool (decide (0 < (ml r103 r104)))), -⟩ := hf
      obtain ⟨s_13, -⟩ := hsl
      refine sg_f rfl rfl rfl f_82 (fun hg => ?_)
      exact or_move (s_13.trans e111_13)
    refine steps_cons (fun own a wx hf hsl hE => ?_) ?_
    · obtain ⟨(f_82 : a.eval (.tmp 82) = .bool (decide (0 < (ml r103 r104)))), c_83, c_84, -⟩ := hf
      refine sg_f rfl rfl rfl f_82 (fun hg => ?_)
      have f_83 : a.eval (.tmp 83) = .int .i64 r106 := c_83.1 hg
      have f_84 : a.eval (.tmp 84) = .int .i64 r107 := c_84.1 hg
      exact or_mul f_83 f_84 rfl
    refine steps_cons (fun own a wx hf hsl hE => ?_) ?_
    · obtain ⟨(f_82 : a.eval (.tmp 82) = .bool (decide (0 < (ml r103 r104)))), c_85, -⟩ := hf
      refine sg_f rfl rfl rfl f_82 (fun hg => ?_)
      have f_85 : a.eval (.tmp 85) = .int .i64 (ml r106 r107) := c_85.1 hg
      exact or_gtr f_85 rfl rfl
    refine steps_cons (fun own a wx hf hsl hE => ?_) ?_
    · obtain ⟨(f_82 : a.eval (.tmp 82) = .bool (decide (0 < (ml r103 r104)))), c_86, -⟩ := hf
      exact sg_plain rfl rfl (or_or f_82 rfl (fun hx => c_86.1 hx) (osome hx116).symm)
    exact steps_nil
  intro own117 a117 w117 hd117 hz117 hk117 hf117 hE117
  have e117_10 : a117.eval (.tmp 10) = .int .i64 r103 := (hk117 10 rfl).trans e111_10
  have e117_11 : a117.eval (.tmp 11) = .int .i64 r104 := (hk117 11 rfl).trans e111_11
  have e117_12 : a117.eval (.tmp 12) = .int .i64 r106 := (hk117 12 rfl).trans e111_12
  have e117_13 : a117.eval (.tmp 13) = .int .i64 r107 := (hk117 13 rfl).trans e111_13
  obtain ⟨(f_87 : a117.eval (.tmp 87) = .bool x116), -⟩ := hf117 [9] rfl
  have e117_87 := f_87
  have hX117 := Evo.step hX111 (fun _ => Nat.le_refl 0) hE117 rfl
  refine fl_cond e117_87 hs (fun c118 hs => ?_) (fun c118 hs => ?_)
  · refine rg_plain_seq (n := 103) (rs := []) (own0 := own117) (K := [])
        (bs := [0, 1])
        (ds := [⟨[], [], [], Fct.val 8 (.int .i64 0)⟩,
        ⟨[], [], [], Fct.val 9 (.int .i64 0)⟩]) (by kernel_rfl) hz117 hd117 (fun _ h => nomatch h) ?_ ?_
    · refine steps_cons (fun own a wx hf hsl hE => ?_) ?_
      · exact sg_plain rfl rfl (or_assign rfl)
      refine steps_cons (fun own a wx hf hsl hE => ?_) ?_
      · exact sg_plain rfl rfl (or_assign rfl)
      exact steps_nil
    intro own119 a119 w119 hd119 hz119 hk119 hf119 hE119
    obtain ⟨(f_8 : a119.eval (.tmp 8) = .int .i64 0), (f_9 : a119.eval (.tmp 9) = .int .i64 0), -⟩ := hf119 [0, 1] rfl
    have e119_8 := f_8
    have e119_9 := f_9
    have hX119 := Evo.step hX117 (fun _ => Nat.le_refl 0) hE119 rfl
    refine fl_ret ?_
    refine hp115 _ _ _ rfl ?_
    obtain rfl := osome hs
    exact hret _ _ _ _ (.inl rfl) hd119 (results2_ rfl (RVal.tmp_ e119_8) (RVal.tmp_ e119_9)) ⟨own119, rfl, hX119⟩
  refine fl_skip ?_
  refine hn115 _ _ ?_
  refine rg_plain_seq (n := 103) (rs := []) (own0 := own117) (K := [])
      (bs := [0])
      (ds := [⟨[], [], [], Fct.val 14 (.int .i64 0)⟩]) (by kernel_rfl) hz117 hd117 (fun _ h => nomatch h) ?_ ?_
  · refine steps_cons (fun own a wx hf hsl hE => ?_) ?_
    · exact sg_plain rfl rfl (or_assign rfl)
    exact steps_nil
  intro own120 a120 w120 hd120 hz120 hk120 hf120 hE120
  have e120_10 : a120.eval (.tmp 10) = .int .i64 r103 := (hk120 10 rfl).trans e117_10
  have e120_11 : a120.eval (.tmp 11) = .int .i64 r104 := (hk120 11 rfl).trans e117_11
  have e120_12 : a120.eval (.tmp 12) = .int .i64 r106 := (hk120 12 rfl).trans e117_12
  have e120_13 : a120.eval (.tmp 13) = .int .i64 r107 := (hk120 13 rfl).trans e117_13
  obtain ⟨(f_14 : a120.eval (.tmp 14) = .int .i64 0), -⟩ := hf120 [0] rfl
  have e120_14 := f_14
  have hX120 := Evo.step hX117 (fun _ => Nat.le_refl 0) hE120 rfl
  refine fl_seq (fun Q121 hn121 hp121 => ?_)
  have K126 : ∀ (a126 : Act) (w126 : World) (own126 : Own) (ends125 : Int), a126.defers = [] → a126.tmps.size = 103 → a126.eval (.tmp 12) = .int .i64 r106 → a126.eval (.tmp 13) = .int .i64 r107 → a126.eval (.tmp 14) = .int .i64 ends125 → Evo [] (fun _ => 0) own126 w w126 → seg_Class_k1 r106 r107 ends125 = some r → Q121 .normal a126 w126 := by
    intro a126 w126 own126 ends125 hd127 hz127 e127_12 e127_13 e127_14 hE127 hs
    refine hn121 _ _ ?_
    refine fl_seq (fun Q128 hn128 hp128 => ?_)
    have K133 : ∀ (a133 : Act) (w133 : World) (own133 : Own) (ends132 : Int), a133.defers = [] → a133.tmps.size = 103 → a133.eval (.tmp 14) = .int .i64 ends132 → Evo [] (fun _ => 0) own133 w w133 → seg_Class_k2 ends132 = some r → Q128 .normal a133 w133 := by
      intro a133 w133 own133 ends132 hd134 hz134 e134_14 hE134 hs
      refine hn128 _ _ ?_
      obtain ⟨x135, hx135, hs⟩ := obind hs
      refine rg_plain_seq (n := 103) (rs := []) (own0 := own133) (K := [])
          (bs := [0, 0, 3, 7, 15])
          (ds := [⟨[], [], [], Fct.val 100 (.agg #[.int .i64 3, .int .i64 2, .int .i64 1])⟩,
          ⟨[], [14], [], Fct.val 101 (.int .i64 ends132)⟩,
          ⟨[0, 1], [], [], Fct.val 102 (.int .i64 x135)⟩,
          ⟨[2], [], [], Fct.val 8 (.int .i64 x135)⟩,
          ⟨[], [], [], Fct.val 9 (.int .i64 0)⟩]) (by kernel_rfl) hz134 hd134 (fun _ h => nomatch h) ?_ ?_
      · refine steps_cons (fun own a wx hf hsl hE => ?_) ?_
        · exact sg_plain rfl rfl (or_k [] rfl rfl trivial (by kernel_rfl))
        refine steps_cons (fun own a wx hf hsl hE => ?_) ?_
        · obtain ⟨s_14, -⟩ := hsl
          exact sg_plain rfl rfl (or_move (s_14.trans e134_14))
        refine steps_cons (fun own a wx hf hsl hE => ?_) ?_
        · obtain ⟨(f_100 : a.eval (.tmp 100) = .agg #[.int .i64 3, .int .i64 2, .int .i64 1]), (f_101 : a.eval (.tmp 101) = .int .i64 ends132), -⟩ := hf
          exact sg_plain rfl rfl (or_indexA1 (F := E3) (l := [3, 2, 1]) (v := x135) tr74 to3 ts3 rfl rfl rfl f_100 rfl f_101 hx135)
        refine steps_cons (fun own a wx hf hsl hE => ?_) ?_
        · obtain ⟨(f_102 : a.eval (.tmp 102) = .int .i64 x135), -⟩ := hf
          exact sg_plain rfl rfl (or_assign f_102)
        refine steps_cons (fun own a wx hf hsl hE => ?_) ?_
        · exact sg_plain rfl rfl (or_assign rfl)
        exact steps_nil
      intro own136 a136 w136 hd136 hz136 hk136 hf136 hE136
      obtain ⟨(f_8 : a136.eval (.tmp 8) = .int .i64 x135), (f_9 : a136.eval (.tmp 9) = .int .i64 0), -⟩ := hf136 [3, 4] rfl
      have e136_8 := f_8
      have e136_9 := f_9
      have hX136 := Evo.step hE134 (fun _ => Nat.le_refl 0) hE136 rfl
      refine fl_ret ?_
      obtain rfl := osome hs
      exact hret _ _ _ _ (.inl rfl) hd136 (results2_ rfl (RVal.tmp_ e136_8) (RVal.tmp_ e136_9)) ⟨own136, rfl, hX136⟩
    refine rg_plain_seq (n := 103) (rs := []) (own0 := own126) (K := [])
        (bs := [0, 0, 3, 7])
        (ds := [⟨[], [12], [], Fct.val 94 (.int .i64 r106)⟩,
        ⟨[], [13], [], Fct.val 95 (.int .i64 r107)⟩,
        ⟨[0, 1], [], [], Fct.val 96 (.int .i64 (ml r106 r107))⟩,
        ⟨[2], [], [], Fct.val 97 (.bool (decide ((ml r106 r107) = 0)))⟩]) (by kernel_rfl) hz127 hd127 (fun _ h => nomatch h) ?_ ?_
    · refine steps_cons (fun own a wx hf hsl hE => ?_) ?_
      · obtain ⟨s_12, -⟩ := hsl
        exact sg_plain rfl rfl (or_move (s_12.trans e127_12))
      refine steps_cons (fun own a wx hf hsl hE => ?_) ?_
      · obtain ⟨s_13, -⟩ := hsl
        exact sg_plain rfl rfl (or_move (s_13.trans e127_13))
      refine steps_cons (fun own a wx hf hsl hE => ?_) ?_
      · obtain ⟨(f_94 : a.eval (.tmp 94) = .int .i64 r106), (f_95 : a.eval (.tmp 95) = .int .i64 r107), -⟩ := hf
        exact sg_plain rfl rfl (or_mul f_94 f_95 rfl)
      refine steps_cons (fun own a wx hf hsl hE => ?_) ?_
      · obtain ⟨(f_96 : a.eval (.tmp 96) = .int .i64 (ml r106 r107)), -⟩ := hf
        exact sg_plain rfl rfl (or_eql f_96 rfl rfl)
      exact steps_nil
    intro own137 a137 w137 hd137 hz137 hk137 hf137 hE137
    have e137_14 : a137.eval (.tmp 14) = .int .i64 ends125 := (hk137 14 rfl).trans e127_14
    obtain ⟨(f_97 : a137.eval (.tmp 97) = .bool (decide ((ml r106 r107) = 0))), -⟩ := hf137 [3] rfl
    have e137_97 := f_97
    have hX137 := Evo.step hE127 (fun _ => Nat.le_refl 0) hE137 rfl
    refine fl_cond e137_97 hs (fun c138 hs => ?_) (fun c138 hs => ?_)
    · refine rg_plain (n := 103) (rs := []) (own0 := own137) (K := [])
          (bs := [0, 1, 3])
          (ds := [⟨[], [14], [], Fct.val 98 (.int .i64 ends125)⟩,
          ⟨[0], [], [], Fct.val 99 (.int .i64 (ad ends125 1))⟩,
          ⟨[1], [], [], Fct.val 14 (.int .i64 (ad ends125 1))⟩]) (by kernel_rfl) hz137 hd137 (fun _ h => nomatch h) ?_ ?_
      · refine steps_cons (fun own a wx hf hsl hE => ?_) ?_
        · obtain ⟨s_14, -⟩ := hsl
          exact sg_plain rfl rfl (or_move (s_14.trans e137_14))
        refine steps_cons (fun own a wx hf hsl hE => ?_) ?_
        · obtain ⟨(f_98 : a.eval (.tmp 98) = .int .i64 ends125), -⟩ := hf
          exact sg_plain rfl rfl (or_add f_98 rfl rfl)
        refine steps_cons (fun own a wx hf hsl hE => ?_) ?_
        · obtain ⟨(f_99 : a.eval (.tmp 99) = .int .i64 (ad ends125 1)), -⟩ := hf
          exact sg_plain rfl rfl (or_assign f_99)
        exact steps_nil
      intro own139 a139 w139 hd139 hz139 hk139 hf139 hE139
      obtain ⟨(f_14 : a139.eval (.tmp 14) = .int .i64 (ad ends125 1)), -⟩ := hf139 [2] rfl
      have e139_14 := f_14
      have hX139 := Evo.step hX137 (fun _ => Nat.le_refl 0) hE139 rfl
      exact (K133 _ _ own139 _ hd139 hz139 e139_14 hX139 hs)
    refine fl_skip ?_
    exact (K133 _ _ own137 _ hd137 hz137 e137_14 hX137 hs)
  refine rg_plain_seq (n := 103) (rs := []) (own0 := own120) (K := [])
      (bs := [0, 0, 3, 7])
      (ds := [⟨[], [10], [], Fct.val 88 (.int .i64 r103)⟩,
      ⟨[], [11], [], Fct.val 89 (.int .i64 r104)⟩,
      ⟨[0, 1], [], [], Fct.val 90 (.int .i64 (ml r103 r104))⟩,
      ⟨[2], [], [], Fct.val 91 (.bool (decide ((ml r103 r104) = 0)))⟩]) (by kernel_rfl) hz120 hd120 (fun _ h => nomatch h) ?_ ?_
  · refine steps_cons (fun own a wx hf hsl hE => ?_) ?_
    · obtain ⟨s_10, -⟩ := hsl
      exact sg_plain rfl rfl (or_move (s_10.trans e120_10))
    refine steps_cons (fun own a wx hf hsl hE => ?_) ?_
    · obtain ⟨s_11, -⟩ := hsl
      exact sg_plain rfl rfl (or_move (s_11.trans e120_11))
    refine steps_cons (fun own a wx hf hsl hE => ?_) ?_
    · obtain ⟨(f_88 : a.eval (.tmp 88) = .int .i64 r103), (f_89 : a.eval (.tmp 89) = .int .i64 r104), -⟩ := hf
      exact sg_plain rfl rfl (or_mul f_88 f_89 rfl)
    refine steps_cons (fun own a wx hf hsl hE => ?_) ?_
    · obtain ⟨(f_90 : a.eval (.tmp 90) = .int .i64 (ml r103 r104)), -⟩ := hf
      exact sg_plain rfl rfl (or_eql f_90 rfl rfl)
    exact steps_nil
  intro own140 a140 w140 hd140 hz140 hk140 hf140 hE140
  have e140_12 : a140.eval (.tmp 12) = .int .i64 r106 := (hk140 12 rfl).trans e120_12
  have e140_13 : a140.eval (.tmp 13) = .int .i64 r107 := (hk140 13 rfl).trans e120_13
  have e140_14 : a140.eval (.tmp 14) = .int .i64 0 := (hk140 14 rfl).trans e120_14
  obtain ⟨(f_91 : a140.eval (.tmp 91) = .bool (decide ((ml r103 r104) = 0))), -⟩ := hf140 [3] rfl
  have e140_91 := f_91
  have hX140 := Evo.step hX120 (fun _ => Nat.le_refl 0) hE140 rfl
  refine fl_cond e140_91 hs (fun c141 hs => ?_) (fun c141 hs => ?_)
  · refine rg_plain (n := 103) (rs := []) (own0 := own140) (K := [])
        (bs := [0, 1, 3])
        (ds := [⟨[], [14], [], Fct.val 92 (.int .i64 0)⟩,
        ⟨[0], [], [], Fct.val 93 (.int .i64 1)⟩,
        ⟨[1], [], [], Fct.val 14 (.int .i64 1)⟩]) (by kernel_rfl) hz140 hd140 (fun _ h => nomatch h) ?_ ?_
    · refine steps_cons (fun own a wx hf hsl hE => ?_) ?_
      · obtain ⟨s_14, -⟩ := hsl
        exact sg_plain rfl rfl (or_move (s_14.trans e140_14))
      refine steps_cons (fun own a wx hf hsl hE => ?_) ?_
      · obtain ⟨(f_92 : a.eval (.tmp 92) = .int .i64 0), -⟩ := hf
        exact sg_plain rfl rfl (or_add f_92 rfl (by decide))
      refine steps_cons (fun own a wx hf hsl hE => ?_) ?_
      · obtain ⟨(f_93 : a.eval (.tmp 93) = .int .i64 1), -⟩ := hf
        exact sg_plain rfl rfl (or_assign f_93)
      exact steps_nil
    intro own142 a142 w142 hd142 hz142 hk142 hf142 hE142
    have e142_12 : a142.eval (.tmp 12) = .int .i64 r106 := (hk142 12 rfl).trans e140_12
    have e142_13 : a142.eval (.tmp 13) = .int .i64 r107 := (hk142 13 rfl).trans e140_13
    obtain ⟨(f_14 : a142.eval (.tmp 14) = .int .i64 1), -⟩ := hf142 [2] rfl
    have e142_14 := f_14
    have hX142 := Evo.step hX140 (fun _ => Nat.le_refl 0) hE142 rfl
    exact (K126 _ _ own142 _ hd142 hz142 e142_12 e142_13 e142_14 hX142 hs)
  refine fl_skip ?_
  exact (K126 _ _ own140 _ hd140 hz140 e140_12 e140_13 e140_14 hX140 hs)

set_option maxHeartbeats 2000000 in
theorem ring_Simple_w (w : World) (l1 : List (Int × Int)) (Al1 : Option Addr) (cl1 : Nat) (hl1 : RdO (fun _ => 0) [0] w R32 Al1 cl1 l1) (r : Bool) (hs : ring_Simple l1 = some r) :
    Calls Try.prog 14 #[.slice Al1 l1.length cl1] w fun e w' => ∃ own' : Own, e = .returned (.bool r) ∧ Evo [] (fun _ => 0) own' w w' := by
  refine fl_enter (n := 99) rfl rfl rfl (Nat.le_of_ble_eq_true rfl) ?_
  intro a0 Q hd0 hz0 harg hret
  have ha0 := harg 0 _ rfl
  clear harg
  have hE0 : Evo [] (fun _ => 0) (fun _ => 0) w w := Evo.refl _ _ _
  refine rg_plain_seq (n := 99) (rs := []) (own0 := (fun _ => 0)) (K := [])
      (bs := [0])
      (ds := [⟨[], [], [], Fct.val 2 (.bool false)⟩]) (by kernel_rfl) hz0 hd0 (fun _ h => nomatch h) ?_ ?_
  · refine steps_cons (fun own a wx hf hsl hE => ?_) ?_
    · exact sg_plain rfl rfl (or_assign rfl)
    exact steps_nil
  intro own626 a626 w626 hd626 hz626 hk626 hf626 hE626
  have e626_0 : a626.eval (.tmp 0) = .slice Al1 l1.length cl1 := (hk626 0 rfl).trans ha0
  have hX626 := Evo.step hE0 (fun _ => Nat.le_refl 0) hE626 rfl
  have b626_Al1 := RdO.evo rfl hE626 hl1
  refine fl_fwd (l := 0) rfl ?_
  intro Q627 hj627 hp627
  have K932 : ∀ (a932 : Act) (w932 : World) (own932 : Own), a932.defers = [] → a932.tmps.size = 99 → Evo [] (fun _ => 0) own932 w w932 → ring_Simple_k1 = some r → Q627 (.goto 0) a932 w932 := by
    intro a932 w932 own932  hd933 hz933 hE933 hs
    refine hj627 _ _ (fun Q934 hp934 => ?_)
    refine fl_seq (fun Q935 hn935 hp935 => ?_)
    refine fl_skip ?_
    refine hn935 _ _ ?_
    refine rg_plain_seq (n := 99) (rs := []) (own0 := own932) (K := [])
        (bs := [0])
        (ds := [⟨[], [], [], Fct.val 2 (.bool false)⟩]) (by kernel_rfl) hz933 hd933 (fun _ h => nomatch h) ?_ ?_
    · refine steps_cons (fun own a wx hf hsl hE => ?_) ?_
      · exact sg_plain rfl rfl (or_assign rfl)
      exact steps_nil
    intro own936 a936 w936 hd936 hz936 hk936 hf936 hE936
    obtain ⟨(f_2 : a936.eval (.tmp 2) = .bool false), -⟩ := hf936 [0] rfl
    have e936_2 := f_2
    have hX936 := Evo.step hE933 (fun _ => Nat.le_refl 0) hE936 rfl
    refine fl_ret ?_
    refine hp934.leaves _ _ _ rfl ?_
    obtain rfl := osome hs
    exact hret _ _ _ _ (.inl rfl) hd936 (results1_ rfl (RVal.tmp_ e936_2)) ⟨own936, rfl, hX936⟩
  refine rg_plain_seq (n := 99) (rs := []) (own0 := own626) (K := [])
      (bs := [0, 1, 3])
      (ds := [⟨[], [0], [], Fct.val 12 (.slice Al1 l1.length cl1)⟩,
      ⟨[0], [], [], Fct.val 13 (.int .i64 (l1.length : Int))⟩,
      ⟨[1], [], [], Fct.val 3 (.int .i64 (l1.length : Int))⟩]) (by kernel_rfl) hz626 hd626 (fun _ h => nomatch h) ?_ ?_
  · refine steps_cons (fun own a wx hf hsl hE => ?_) ?_
    · obtain ⟨s_0, -⟩ := hsl
      exact sg_plain rfl rfl (or_move (s_0.trans e626_0))
    refine steps_cons (fun own a wx hf hsl hE => ?_) ?_
    · obtain ⟨(f_12 : a.eval (.tmp 12) = .slice Al1 l1.length cl1), -⟩ := hf
      exact sg_plain rfl rfl (or_len tu22 f_12 rfl)
    refine steps_cons (fun own a wx hf hsl hE => ?_) ?_
    · obtain ⟨(f_13 : a.eval (.tmp 13) = .int .i64 (l1.length : Int)), -⟩ := hf
      exact sg_plain rfl rfl (or_assign f_13)
    exact steps_nil
  intro own937 a937 w937 hd937 hz937 hk937 hf937 hE937
  have e937_0 : a937.eval (.tmp 0) = .slice Al1 l1.length cl1 := (hk937 0 rfl).trans e626_0
  obtain ⟨(f_3 : a937.eval (.tmp 3) = .int .i64 (l1.length : Int)), -⟩ := hf937 [2] rfl
  have e937_3 := f_3
  have hX937 := Evo.step hX626 (fun _ => Nat.le_refl 0) hE937 rfl
  have b937_Al1 := RdO.evo rfl hE937 b626_Al1
  refine fl_seq (fun Q938 hn938 hp938 => ?_)
  obtain ⟨r939, hr939, hs⟩ := obind hs
  obtain ⟨x940, hx940, hs⟩ := obind hs
  refine rg_plain_seq (n := 99) (rs := []) (own0 := own937) (K := [])
      (bs := [0, 1, 3, 7, 15, 31, 63])
      (ds := [⟨[], [3], [], Fct.val 14 (.int .i64 (l1.length : Int))⟩,
      ⟨[0], [], [], Fct.val 15 (.bool (decide ((l1.length : Int) < 3)))⟩,
      ⟨[1], [], [], Fct.val 16 (.bool (decide ((l1.length : Int) < 3)))⟩,
      ⟨[2], [0], [], Fct.cond (!(decide ((l1.length : Int) < 3))) (some 17) (Fct.val 17 (.slice Al1 l1.length cl1))⟩,
      ⟨[2, 3], [], [], Fct.cond (!(decide ((l1.length : Int) < 3))) (some 18) (Fct.val 18 (.bool r939))⟩,
      ⟨[2, 4], [], [], Fct.cond (!(decide ((l1.length : Int) < 3))) (some 19) (Fct.val 19 (.bool (!r939)))⟩,
      ⟨[2, 5], [], [], Fct.val 20 (.bool x940)⟩]) (by kernel_rfl) hz937 hd937 (fun _ h => nomatch h) ?_ ?_
  · refine steps_cons (fun own a wx hf hsl hE => ?_) ?_
    · obtain ⟨s_3, -⟩ := hsl
      exact sg_plain rfl rfl (or_move (s_3.trans e937_3))
    refine steps_cons (fun own a wx hf hsl hE => ?_) ?_
    · obtain ⟨(f_14 : a.eval (.tmp 14) = .int .i64 (l1.length : Int)), -⟩ := hf
      exact sg_plain rfl rfl (or_lss f_14 rfl rfl)
    refine steps_cons (fun own a wx hf hsl hE => ?_) ?_
    · obtain ⟨(f_15 : a.eval (.tmp 15) = .bool (decide ((l1.length : Int) < 3))), -⟩ := hf
      exact sg_plain rfl rfl (or_move f_15)
    refine steps_cons (fun own a wx hf hsl hE => ?_) ?_
    · obtain ⟨(f_16 : a.eval (.tmp 16) = .bool (decide ((l1.length : Int) < 3))), -⟩ := hf
      obtain ⟨s_0, -⟩ := hsl
      refine sg_f rfl rfl rfl f_16 (fun hg => ?_)
      exact or_move (s_0.trans e937_0)
    refine steps_cons (fun own a wx hf hsl hE => ?_) ?_
    · obtain ⟨(f_16 : a.eval (.tmp 16) = .bool (decide ((l1.length : Int) < 3))), c_17, -⟩ := hf
      refine sg_f rfl rfl rfl f_16 (fun hg => ?_)
      have f_17 : a.eval (.tmp 17) = .slice Al1 l1.length cl1 := c_17.1 hg
      exact or_call cf33 (args1 f_17) (exact_Right_w _ l1 Al1 cl1 (RdO.zero (RdO.evo rfl hE b937_Al1)) r939 (gd_t hr939 hg)) post_val
    refine steps_cons (fun own a wx hf hsl hE => ?_) ?_
    · obtain ⟨(f_16 : a.eval (.tmp 16) = .bool (decide ((l1.length : Int) < 3))), c_18, -⟩ := hf
      refine sg_f rfl rfl rfl f_16 (fun hg => ?_)
      have f_18 : a.eval (.tmp 18) = .bool r939 := c_18.1 hg
      exact or_not f_18 rfl
    refine steps_cons (fun own a wx hf hsl hE => ?_) ?_
    · obtain ⟨(f_16 : a.eval (.tmp 16) = .bool (decide ((l1.length : Int) < 3))), c_19, -⟩ := hf
      exact sg_plain rfl rfl (or_or f_16 rfl (fun hx => c_19.1 hx) (osome hx940).symm)
    exact steps_nil
  intro own941 a941 w941 hd941 hz941 hk941 hf941 hE941
  have e941_0 : a941.eval (.tmp 0) = .slice Al1 l1.length cl1 := (hk941 0 rfl).trans e937_0
  have e941_3 : a941.eval (.tmp 3) = .int .i64 (l1.length : Int) := (hk941 3 rfl).trans e937_3
  obtain ⟨(f_20 : a941.eval (.tmp 20) = .bool x940), -⟩ := hf941 [6] rfl
  have e941_20 := f_20
  have hX941 := Evo.step hX937 (fun _ => Nat.le_refl 0) hE941 rfl
  have b941_Al1 := RdO.evo rfl hE941 b937_Al1
  refine fl_cond e941_20 hs (fun c942 hs => ?_) (fun c942 hs => ?_)
  · refine rg_plain_seq (n := 99) (rs := []) (own0 := own941) (K := [])
        (bs := [0])
        (ds := [⟨[], [], [], Fct.val 2 (.bool false)⟩]) (by kernel_rfl) hz941 hd941 (fun _ h => nomatch h) ?_ ?_
    · refine steps_cons (fun own a wx hf hsl hE => ?_) ?_
      · exact sg_plain rfl rfl (or_assign rfl)
      exact steps_nil
    intro own943 a943 w943 hd943 hz943 hk943 hf943 hE943
    obtain ⟨(f_2 : a943.eval (.tmp 2) = .bool false), -⟩ := hf943 [0] rfl
    have e943_2 := f_2
    have hX943 := Evo.step hX941 (fun _ => Nat.le_refl 0) hE943 rfl
    refine fl_ret ?_
    refine hp938 _ _ _ rfl ?_
    refine hp627.leaves _ _ _ rfl ?_
    obtain rfl := osome hs
    exact hret _ _ _ _ (.inl rfl) hd943 (results1_ rfl (RVal.tmp_ e943_2)) ⟨own943, rfl, hX943⟩
  refine fl_skip ?_
  refine hn938 _ _ ?_
  refine rg_plain_seq (n := 99) (rs := []) (own0 := own941) (K := [])
      (bs := [0, 1])
      (ds := [⟨[], [], [], Fct.map_ 945 21 vv32 vv4 ([] : List ((Int × Int) × Bool))⟩,
      ⟨[0], [], [], Fct.rel [4, 21] (fun l => ∀ (g944 : Nat), l.getD 1 undef = .map (some g944) → l.getD 0 undef = .map (some g944))⟩]) (by kernel_rfl) hz941 hd941 (fun _ h => nomatch h) ?_ ?_
  · refine steps_cons (fun own a wx hf hsl hE => ?_) ?_
    · exact sg_plain rfl rfl (or_makeMap)
    refine steps_cons (fun own a wx hf hsl hE => ?_) ?_
    · obtain ⟨⟨g944, (f_21 : a.eval (.tmp 21) = .map (some g944)), (b_g944 : MpO own 945 wx g944 vv32 vv4 ([] : List ((Int × Int) × Bool)))⟩, -⟩ := hf
      exact sg_plain rfl rfl (or_mono (f := Fct.val 4 (.map (some g944))) (or_assign f_21) (fun own' a' w' v' hp h => fun _ h0' => by cases (f_21.symm.trans ((hp.2 21 (by decide)).symm.trans h0')); exact h))
    exact steps_nil
  intro own946 a946 w946 hd946 hz946 hk946 hf946 hE946
  have e946_0 : a946.eval (.tmp 0) = .slice Al1 l1.length cl1 := (hk946 0 rfl).trans e941_0
  have e946_3 : a946.eval (.tmp 3) = .int .i64 (l1.length : Int) := (hk946 3 rfl).trans e941_3
  obtain ⟨⟨g944, (f_21 : a946.eval (.tmp 21) = .map (some g944)), (b_g944 : MpO own946 945 w946 g944 vv32 vv4 ([] : List ((Int × Int) × Bool)))⟩, (q_4 : ∀ (g944 : Nat), a946.eval (.tmp 21) = .map (some g944) → a946.eval (.tmp 4) = .map (some g944)), -⟩ := hf946 [0, 1] rfl
  have f_4 := q_4 _ f_21
  have e946_4 := f_4
  have hX946 := Evo.step hX941 (fun _ => Nat.le_refl 0) hE946 rfl
  have b946_Al1 := RdO.evo rfl hE946 b941_Al1
  have b946_g944 := b_g944
  refine fl_seq (fun Q947 hn947 hp947 => ?_)
  refine rg_plain_seq (n := 99) (rs := []) (own0 := own946) (K := [])
      (bs := [0, 1, 0])
      (ds := [⟨[], [0], [], Fct.val 22 (.slice Al1 l1.length cl1)⟩,
      ⟨[0], [], [], Fct.val 23 (.int .i64 (l1.length : Int))⟩,
      ⟨[], [], [], Fct.val 24 (.int .i64 0)⟩]) (by kernel_rfl) hz946 hd946 (fun _ h => nomatch h) ?_ ?_
  · refine steps_cons (fun own a wx hf hsl hE => ?_) ?_
    · obtain ⟨s_0, -⟩ := hsl
      exact sg_plain rfl rfl (or_move (s_0.trans e946_0))
    refine steps_cons (fun own a wx hf hsl hE => ?_) ?_
    · obtain ⟨(f_22 : a.eval (.tmp 22) = .slice Al1 l1.length cl1), -⟩ := hf
      exact sg_plain rfl rfl (or_len tu22 f_22 rfl)
    refine steps_cons (fun own a wx hf hsl hE => ?_) ?_
    · exact sg_plain rfl rfl (or_move rfl)
    exact steps_nil
  intro own948 a948 w948 hd948 hz948 hk948 hf948 hE948
  have e948_0 : a948.eval (.tmp 0) = .slice Al1 l1.length cl1 := (hk948 0 rfl).trans e946_0
  have e948_3 : a948.eval (.tmp 3) = .int .i64 (l1.length : Int) := (hk948 3 rfl).trans e946_3
  have e948_4 : a948.eval (.tmp 4) = .map (some g944) := (hk948 4 rfl).trans e946_4
  obtain ⟨(f_22 : a948.eval (.tmp 22) = .slice Al1 l1.length cl1), (f_23 : a948.eval (.tmp 23) = .int .i64 (l1.length : Int)), (f_24 : a948.eval (.tmp 24) = .int .i64 0), -⟩ := hf948 [0, 1, 2] rfl
  have e948_22 := f_22
  have e948_23 := f_23
  have e948_24 := f_24
  have hX948 := Evo.step hX946 (fun _ => Nat.le_refl 0) hE948 rfl
  have b948_Al1 := RdO.evo rfl hE948 b946_Al1
  have b948_g944 := MpO.evo (by decide) hE948 b946_g944
  refine fl_block (fun Q949 hn949 hx949 hp949 => ?_)
  refine fl_loop (body := (fun s => ring_Simple_b2 l1 s.1 s.2)) (z := r) (show loopO _ _ = _ from hs) (fun (s : (List ((Int × Int) × Bool)) × Int) a wx => match s with | (met970, x971) => ∃ (ox : Own), a.defers = [] ∧ a.tmps.size = 99 ∧ a.eval (.tmp 0) = .slice Al1 l1.length cl1 ∧ a.eval (.tmp 3) = .int .i64 (l1.length : Int) ∧ a.eval (.tmp 4) = .map (some g944) ∧ a.eval (.tmp 22) = .slice Al1 l1.length cl1 ∧ a.eval (.tmp 23) = .int .i64 (l1.length : Int) ∧ a.eval (.tmp 24) = .int .i64 x971 ∧ Evo [] (fun _ => 0) ox w wx ∧ RdO ox [0] wx R32 Al1 cl1 l1 ∧ MpO ox 969 wx g944 vv32 vv4 met970) ?_ ?_
  · exact ⟨(rl [(945, 969)] own948), hd948, hz948, e948_0, e948_3, e948_4, e948_22, e948_23, e948_24, (Evo.rl_ hX948 (fun _ => Nat.le_refl 0) rfl), (RdO.rl_ (mm := [(945, 969)]) b948_Al1), (MpO.rl_ (mm := [(945, 969)]) b948_g944)⟩
  · rintro ⟨met970, x971⟩ zz990 a990 w990 ⟨own990, hd991, hz991, e991_0, e991_3, e991_4, e991_22, e991_23, e991_24, hE991, b991_Al1, b991_g944⟩ hs Q990 hn990 hp990 hz990
    have hs : ring_Simple_b2 l1 met970 x971 = some zz990 := hs
    refine rg_plain_seq (n := 99) (rs := []) (own0 := own990) (K := [])
        (bs := [0])
        (ds := [⟨[], [24, 23], [], Fct.val 25 (.bool (decide (x971 < (l1.length : Int))))⟩]) (by kernel_rfl) hz991 hd991 (fun _ h => nomatch h) ?_ ?_
    · refine steps_cons (fun own a wx hf hsl hE => ?_) ?_
      · obtain ⟨s_24, s_23, -⟩ := hsl
        exact sg_plain rfl rfl (or_lss (s_24.trans e991_24) (s_23.trans e991_23) rfl)
      exact steps_nil
    intro own992 a992 w992 hd992 hz992 hk992 hf992 hE992
    have e992_0 : a992.eval (.tmp 0) = .slice Al1 l1.length cl1 := (hk992 0 rfl).trans e991_0
    have e992_3 : a992.eval (.tmp 3) = .int .i64 (l1.length : Int) := (hk992 3 rfl).trans e991_3
    have e992_4 : a992.eval (.tmp 4) = .map (some g944) := (hk992 4 rfl).trans e991_4
    have e992_22 : a992.eval (.tmp 22) = .slice Al1 l1.length cl1 := (hk992 22 rfl).trans e991_22
    have e992_23 : a992.eval (.tmp 23) = .int .i64 (l1.length : Int) := (hk992 23 rfl).trans e991_23
    have e992_24 : a992.eval (.tmp 24) = .int .i64 x971 := (hk992 24 rfl).trans e991_24
    obtain ⟨(f_25 : a992.eval (.tmp 25) = .bool (decide (x971 < (l1.length : Int)))), -⟩ := hf992 [0] rfl
    have e992_25 := f_25
    have hX992 := Evo.step hE991 (fun _ => Nat.le_refl 0) hE992 rfl
    have b992_Al1 := RdO.evo rfl hE992 b991_Al1
    have b992_g944 := MpO.evo (by decide) hE992 b991_g944
    refine fl_seq (fun Q993 hn993 hp993 => ?_)
    refine fl_cond e992_25 hs (fun c994 hs => ?_) (fun c994 hs => ?_)
    · refine fl_skip ?_
      refine hn993 _ _ ?_
      refine fl_seq (fun Q995 hn995 hp995 => ?_)
      refine fl_block (fun Q996 hn996 hx996 hp996 => ?_)
      obtain ⟨x997, hx997, hs⟩ := obind hs
      refine rg_plain_seq (n := 99) (rs := []) (own0 := own992) (K := [999])
          (bs := [0, 1, 0, 7])
          (ds := [⟨[], [22, 24], [], Fct.val 26 (.pointer (some ((adr Al1).add ((x971 : Int).toNat * R32.s))))⟩,
          ⟨[0], [], [], Fct.val 27 (.agg #[.int .i64 x997.1, .int .i64 x997.2])⟩,
          ⟨[], [], [], Fct.blk 999 6 (fun g => .pointer (some ⟨g, 0, none⟩)) 32 #[.int .i64 0, .int .i64 0]⟩,
          ⟨[2, 1], [], [999], Fct.blk 1000 6 (fun g => .pointer (some ⟨g, 0, none⟩)) 32 #[.int .i64 x997.1, .int .i64 x997.2]⟩]) (by kernel_rfl) hz992 hd992 (fun _ h => nomatch h) ?_ ?_
      · refine steps_cons (fun own a wx hf hsl hE => ?_) ?_
        · obtain ⟨s_22, s_24, -⟩ := hsl
          exact sg_plain rfl rfl (or_index (R := R32) (l := l1) tl22 (s_22.trans e992_22) (s_24.trans e992_24) (RdO.some_ b992_Al1 hx997) hx997)
        refine steps_cons (fun own a wx hf hsl hE => ?_) ?_
        · obtain ⟨(f_26 : a.eval (.tmp 26) = .pointer (some ((adr Al1).add ((x971 : Int).toNat * R32.s)))), -⟩ := hf
          exact sg_plain rfl rfl (or_load (l := E32.f x997) ta32 f_26 (RdO.cells (F := E32) (RdO.evo rfl hE b992_Al1) hx997) rfl)
        refine steps_cons (fun own a wx hf hsl hE => ?_) ?_
        · exact sg_plain rfl rfl (or_new [] rfl rfl trivial (by kernel_rfl))
        refine steps_cons (fun own a wx hf hsl hE => ?_) ?_
        · obtain ⟨⟨g998, (f_6 : a.eval (.tmp 6) = .pointer (some ⟨g998, 0, none⟩)), (b_g998 : BlkO own 999 wx g998 32 #[.int .i64 0, .int .i64 0])⟩, (f_27 : a.eval (.tmp 27) = .agg #[.int .i64 x997.1, .int .i64 x997.2]), -⟩ := hf
          exact sg_plain rfl rfl (or_store (l := #[.int .i64 x997.1, .int .i64 x997.2]) (lab := 999) (lab2 := 1000) ts32 f_6 f_27 b_g998 (by simp) (by kernel_rfl) (mem_of rfl) (by decide) (by kernel_rfl) (fun own' a' w' ha hb => ⟨_, (ha 6).trans f_6, hb⟩))
        exact steps_nil
      intro own1001 a1001 w1001 hd1001 hz1001 hk1001 hf1001 hE1001
      have e1001_0 : a1001.eval (.tmp 0) = .slice Al1 l1.length cl1 := (hk1001 0 rfl).trans e992_0
      have e1001_3 : a1001.eval (.tmp 3) = .int .i64 (l1.length : Int) := (hk1001 3 rfl).trans e992_3
      have e1001_4 : a1001.eval (.tmp 4) = .map (some g944) := (hk1001 4 rfl).trans e992_4
      have e1001_22 : a1001.eval (.tmp 22) = .slice Al1 l1.length cl1 := (hk1001 22 rfl).trans e992_22
      have e1001_23 : a1001.eval (.tmp 23) = .int .i64 (l1.length : Int) := (hk1001 23 rfl).trans e992_23
      have e1001_24 : a1001.eval (.tmp 24) = .int .i64 x971 := (hk1001 24 rfl).trans e992_24
      obtain ⟨⟨g998, (f_6 : a1001.eval (.tmp 6) = .pointer (some ⟨g998, 0, none⟩)), (b_g998 : BlkO own1001 1000 w1001 g998 32 #[.int .i64 x997.1, .int .i64 x997.2])⟩, -⟩ := hf1001 [3] rfl
      have e1001_6 := f_6
      have hX1001 := Evo.step hX992 (fun _ => Nat.le_refl 0) hE1001 rfl
      have b1001_Al1 := RdO.evo rfl hE1001 b992_Al1
      have b1001_g944 := MpO.evo (by decide) hE1001 b992_g944
      have b1001_g998 := b_g998
      refine fl_seq (fun Q1002 hn1002 hp1002 => ?_)
      refine rg_plain_seq (n := 99) (rs := []) (own0 := own1001) (K := [])
          (bs := [0, 0, 3])
          (ds := [⟨[], [4], [], Fct.val 28 (.map (some g944))⟩,
          ⟨[], [6], [], Fct.val 29 (.agg #[.int .i64 x997.1, .int .i64 x997.2])⟩,
          ⟨[0, 1], [], [], Fct.val 30 (.bool ((lkM met970 x997).getD false))⟩]) (by kernel_rfl) hz1001 hd1001 (fun _ h => nomatch h) ?_ ?_
      · refine steps_cons (fun own a wx hf hsl hE => ?_) ?_
        · obtain ⟨s_4, -⟩ := hsl
          exact sg_plain rfl rfl (or_move (s_4.trans e1001_4))
        refine steps_cons (fun own a wx hf hsl hE => ?_) ?_
        · obtain ⟨s_6, -⟩ := hsl
          exact sg_plain rfl rfl (or_load (l := [.int .i64 x997.1, .int .i64 x997.2]) ta32 (s_6.trans e1001_6) (Blk.cellsFrom (BlkO.evo (by decide) hE b1001_g998).2 0 rfl) rfl)
        refine steps_cons (fun own a wx hf hsl hE => ?_) ?_
        · obtain ⟨(f_28 : a.eval (.tmp 28) = .map (some g944)), (f_29 : a.eval (.tmp 29) = .agg #[.int .i64 x997.1, .int .i64 x997.2]), -⟩ := hf
          exact sg_plain rfl rfl (or_lookupE (kf := vv32) (vf := vv4) (k := x997) (dv := false) ko32 tm57 tzv57 f_28 f_29 (MpO.evo (by decide) hE b1001_g944) rfl)
        exact steps_nil
      intro own1003 a1003 w1003 hd1003 hz1003 hk1003 hf1003 hE1003
      have e1003_0 : a1003.eval (.tmp 0) = .slice Al1 l1.length cl1 := (hk1003 0 rfl).trans e1001_0
      have e1003_3 : a1003.eval (.tmp 3) = .int .i64 (l1.length : Int) := (hk1003 3 rfl).trans e1001_3
      have e1003_4 : a1003.eval (.tmp 4) = .map (some g944) := (hk1003 4 rfl).trans e1001_4
      have e1003_6 : a1003.eval (.tmp 6) = .pointer (some ⟨g998, 0, none⟩) := (hk1003 6 rfl).trans e1001_6
      have e1003_22 : a1003.eval (.tmp 22) = .slice Al1 l1.length cl1 := (hk1003 22 rfl).trans e1001_22
      have e1003_23 : a1003.eval (.tmp 23) = .int .i64 (l1.length : Int) := (hk1003 23 rfl).trans e1001_23
      have e1003_24 : a1003.eval (.tmp 24) = .int .i64 x971 := (hk1003 24 rfl).trans e1001_24
      obtain ⟨(f_30 : a1003.eval (.tmp 30) = .bool ((lkM met970 x997).getD false)), -⟩ := hf1003 [2] rfl
      have e1003_30 := f_30
      have hX1003 := Evo.step hX1001 (fun _ => Nat.le_refl 0) hE1003 rfl
      have b1003_Al1 := RdO.evo rfl hE1003 b1001_Al1
      have b1003_g944 := MpO.evo (by decide) hE1003 b1001_g944
      have b1003_g998 := BlkO.evo (by decide) hE1003 b1001_g998
      refine fl_cond e1003_30 hs (fun c1004 hs => ?_) (fun c1004 hs => ?_)
      · refine fl_goto ?_
        refine hp1002 _ _ _ rfl ?_
        refine hp996 _ _ _ rfl ?_
        refine hp995 _ _ _ rfl ?_
        replace hs := hz990 _ hs
        refine hp990 _ _ _ rfl ?_
        refine hp949 _ _ _ rfl ?_
        refine hp947 _ _ _ rfl ?_
        exact (K932 _ _ own1003  hd1003 hz1003 hX1003 hs)
      refine fl_skip ?_
      refine hn1002 _ _ ?_
      obtain ⟨D1005, hD1005, hs⟩ := obind hs
      refine rg_plain (n := 99) (rs := [Fct.mapAt 969 g944 vv32 vv4 met970]) (own0 := own1003) (K := [969])
          (bs := [0, 0, 3])
          (ds := [⟨[], [4], [], Fct.val 31 (.map (some g944))⟩,
          ⟨[], [6], [], Fct.val 32 (.agg #[.int .i64 x997.1, .int .i64 x997.2])⟩,
          ⟨[0, 1, 3], [], [969], Fct.mapAt 1006 g944 vv32 vv4 D1005⟩]) (by kernel_rfl) hz1003 hd1003 (by simp only [List.forall_mem_cons]; exact ⟨b1003_g944, fun _ h => nomatch h⟩) ?_ ?_
      · refine steps_cons (fun own a wx hf hsl hE => ?_) ?_
        · obtain ⟨s_4, -⟩ := hsl
          exact sg_plain rfl rfl (or_move (s_4.trans e1003_4))
        refine steps_cons (fun own a wx hf hsl hE => ?_) ?_
        · obtain ⟨s_6, -⟩ := hsl
          exact sg_plain rfl rfl (or_load (l := [.int .i64 x997.1, .int .i64 x997.2]) ta32 (s_6.trans e1003_6) (Blk.cellsFrom (BlkO.evo (by decide) hE b1003_g998).2 0 rfl) rfl)
        refine steps_cons (fun own a wx hf hsl hE => ?_) ?_
        · obtain ⟨(f_31 : a.eval (.tmp 31) = .map (some g944)), (f_32 : a.eval (.tmp 32) = .agg #[.int .i64 x997.1, .int .i64 x997.2]), (b_g944 : MpO own 969 wx g944 vv32 vv4 met970), -⟩ := hf
          exact sg_plain rfl rfl (or_mapUpdate (kf := vv32) (vf := vv4) (k := x997) (v := true) (lab := 969) (lab2 := 1006) ko32 tm57 f_31 f_32 rfl b_g944 (osome hD1005).symm (mem_of rfl) (by decide) (fun own' a' w' hb => hb))
        exact steps_nil
      intro own1007 a1007 w1007 hd1007 hz1007 hk1007 hf1007 hE1007
      have e1007_0 : a1007.eval (.tmp 0) = .slice Al1 l1.length cl1 := (hk1007 0 rfl).trans e1003_0
      have e1007_3 : a1007.eval (.tmp 3) = .int .i64 (l1.length : Int) := (hk1007 3 rfl).trans e1003_3
      have e1007_4 : a1007.eval (.tmp 4) = .map (some g944) := (hk1007 4 rfl).trans e1003_4
      have e1007_22 : a1007.eval (.tmp 22) = .slice Al1 l1.length cl1 := (hk1007 22 rfl).trans e1003_22
      have e1007_23 : a1007.eval (.tmp 23) = .int .i64 (l1.length : Int) := (hk1007 23 rfl).trans e1003_23
      have e1007_24 : a1007.eval (.tmp 24) = .int .i64 x971 := (hk1007 24 rfl).trans e1003_24
      obtain ⟨(b_g944 : MpO own1007 1006 w1007 g944 vv32 vv4 D1005), -⟩ := hf1007 [2] rfl
      have hX1007 := Evo.step hX1003 (fun _ => Nat.le_refl 0) hE1007 rfl
      have b1007_Al1 := RdO.evo rfl hE1007 b1003_Al1
      have b1007_g944 := b_g944
      refine hn996 _ _ ?_
      refine hn995 _ _ ?_
      refine rg_plain (n := 99) (rs := []) (own0 := own1007) (K := [])
          (bs := [0, 1])
          (ds := [⟨[], [24], [], Fct.val 33 (.int .i64 (ad x971 1))⟩,
          ⟨[0], [], [], Fct.val 24 (.int .i64 (ad x971 1))⟩]) (by kernel_rfl) hz1007 hd1007 (fun _ h => nomatch h) ?_ ?_
      · refine steps_cons (fun own a wx hf hsl hE => ?_) ?_
        · obtain ⟨s_24, -⟩ := hsl
          exact sg_plain rfl rfl (or_add (s_24.trans e1007_24) rfl rfl)
        refine steps_cons (fun own a wx hf hsl hE => ?_) ?_
        · obtain ⟨(f_33 : a.eval (.tmp 33) = .int .i64 (ad x971 1)), -⟩ := hf
          exact sg_plain rfl rfl (or_move f_33)
        exact steps_nil
      intro own1008 a1008 w1008 hd1008 hz1008 hk1008 hf1008 hE1008
      have e1008_0 : a1008.eval (.tmp 0) = .slice Al1 l1.length cl1 := (hk1008 0 rfl).trans e1007_0
      have e1008_3 : a1008.eval (.tmp 3) = .int .i64 (l1.length : Int) := (hk1008 3 rfl).trans e1007_3
      have e1008_4 : a1008.eval (.tmp 4) = .map (some g944) := (hk1008 4 rfl).trans e1007_4
      have e1008_22 : a1008.eval (.tmp 22) = .slice Al1 l1.length cl1 := (hk1008 22 rfl).trans e1007_22
      have e1008_23 : a1008.eval (.tmp 23) = .int .i64 (l1.length : Int) := (hk1008 23 rfl).trans e1007_23
      obtain ⟨(f_24 : a1008.eval (.tmp 24) = .int .i64 (ad x971 1)), -⟩ := hf1008 [1] rfl
      have e1008_24 := f_24
      have hX1008 := Evo.step hX1007 (fun _ => Nat.le_refl 0) hE1008 rfl
      have b1008_Al1 := RdO.evo rfl hE1008 b1007_Al1
      have b1008_g944 := MpO.evo (by decide) hE1008 b1007_g944
      exact hn990 _ _ _ hs ⟨(rl [(1006, 969)] own1008), hd1008, hz1008, e1008_0, e1008_3, e1008_4, e1008_22, e1008_23, e1008_24, (Evo.rl_ hX1008 (fun _ => Nat.le_refl 0) rfl), (RdO.rl_ (mm := [(1006, 969)]) b1008_Al1), (MpO.rl_ (mm := [(1006, 969)]) b1008_g944)⟩
    refine fl_exit ?_
    refine hp993 _ _ _ rfl ?_
    replace hs := hz990 _ hs
    refine hp990 _ _ _ rfl ?_
    refine hx949 _ _ ?_
    refine hn947 _ _ ?_
    refine fl_seq (fun Q1009 hn1009 hp1009 => ?_)
    refine rg_plain_seq (n := 99) (rs := []) (own0 := own992) (K := [])
        (bs := [0, 0])
        (ds := [⟨[], [3], [], Fct.val 34 (.int .i64 (l1.length : Int))⟩,
        ⟨[], [], [], Fct.val 35 (.int .i64 0)⟩]) (by kernel_rfl) hz992 hd992 (fun _ h => nomatch h) ?_ ?_
    · refine steps_cons (fun own a wx hf hsl hE => ?_) ?_
      · obtain ⟨s_3, -⟩ := hsl
        exact sg_plain rfl rfl (or_move (s_3.trans e992_3))
      refine steps_cons (fun own a wx hf hsl hE => ?_) ?_
      · exact sg_plain rfl rfl (or_move rfl)
      exact steps_nil
    intro own1010 a1010 w1010 hd1010 hz1010 hk1010 hf1010 hE1010
    have e1010_0 : a1010.eval (.tmp 0) = .slice Al1 l1.length cl1 := (hk1010 0 rfl).trans e992_0
    have e1010_3 : a1010.eval (.tmp 3) = .int .i64 (l1.length : Int) := (hk1010 3 rfl).trans e992_3
    obtain ⟨(f_34 : a1010.eval (.tmp 34) = .int .i64 (l1.length : Int)), (f_35 : a1010.eval (.tmp 35) = .int .i64 0), -⟩ := hf1010 [0, 1] rfl
    have e1010_34 := f_34
    have e1010_35 := f_35
    have hX1010 := Evo.step hX992 (fun _ => Nat.le_refl 0) hE1010 rfl
    have b1010_Al1 := RdO.evo rfl hE1010 b992_Al1
    refine fl_block (fun Q1011 hn1011 hx1011 hp1011 => ?_)
    refine fl_loop (body := (fun s => ring_Simple_b3 l1 s)) (z := r) (show loopO _ _ = _ from hs) (fun (x1087 : Int) a wx => ∃ (ox : Own), a.defers = [] ∧ a.tmps.size = 99 ∧ a.eval (.tmp 0) = .slice Al1 l1.length cl1 ∧ a.eval (.tmp 3) = .int .i64 (l1.length : Int) ∧ a.eval (.tmp 34) = .int .i64 (l1.length : Int) ∧ a.eval (.tmp 35) = .int .i64 x1087 ∧ Evo [] (fun _ => 0) ox w wx ∧ RdO ox [0] wx R32 Al1 cl1 l1) ?_ ?_
    · exact ⟨own1010, hd1010, hz1010, e1010_0, e1010_3, e1010_34, e1010_35, hX1010, b1010_Al1⟩
    · rintro x1087 zz1166 a1166 w1166 ⟨own1166, hd1167, hz1167, e1167_0, e1167_3, e1167_34, e1167_35, hE1167, b1167_Al1⟩ hs Q1166 hn1166 hp1166 hz1166
      have hs : ring_Simple_b3 l1 x1087 = some zz1166 := hs
      refine rg_plain_seq (n := 99) (rs := []) (own0 := own1166) (K := [])
          (bs := [0])
          (ds := [⟨[], [35, 34], [], Fct.val 36 (.bool (decide (x1087 < (l1.length : Int))))⟩]) (by kernel_rfl) hz1167 hd1167 (fun _ h => nomatch h) ?_ ?_
      · refine steps_cons (fun own a wx hf hsl hE => ?_) ?_
        · obtain ⟨s_35, s_34, -⟩ := hsl
          exact sg_plain rfl rfl (or_lss (s_35.trans e1167_35) (s_34.trans e1167_34) rfl)
        exact steps_nil
      intro own1168 a1168 w1168 hd1168 hz1168 hk1168 hf1168 hE1168
      have e1168_0 : a1168.eval (.tmp 0) = .slice Al1 l1.length cl1 := (hk1168 0 rfl).trans e1167_0
      have e1168_3 : a1168.eval (.tmp 3) = .int .i64 (l1.length : Int) := (hk1168 3 rfl).trans e1167_3
      have e1168_34 : a1168.eval (.tmp 34) = .int .i64 (l1.length : Int) := (hk1168 34 rfl).trans e1167_34
      have e1168_35 : a1168.eval (.tmp 35) = .int .i64 x1087 := (hk1168 35 rfl).trans e1167_35
      obtain ⟨(f_36 : a1168.eval (.tmp 36) = .bool (decide (x1087 < (l1.length : Int)))), -⟩ := hf1168 [0] rfl
      have e1168_36 := f_36
      have hX1168 := Evo.step hE1167 (fun _ => Nat.le_refl 0) hE1168 rfl
      have b1168_Al1 := RdO.evo rfl hE1168 b1167_Al1
      refine fl_seq (fun Q1169 hn1169 hp1169 => ?_)
      refine fl_cond e1168_36 hs (fun c1170 hs => ?_) (fun c1170 hs => ?_)
      · refine fl_skip ?_
        refine hn1169 _ _ ?_
        refine fl_seq (fun Q1171 hn1171 hp1171 => ?_)
        refine fl_block (fun Q1172 hn1172 hx1172 hp1172 => ?_)
        refine rg_plain_seq (n := 99) (rs := []) (own0 := own1168) (K := [])
            (bs := [0, 1])
            (ds := [⟨[], [35], [], Fct.val 37 (.int .i64 x1087)⟩,
            ⟨[0], [], [], Fct.val 7 (.int .i64 x1087)⟩]) (by kernel_rfl) hz1168 hd1168 (fun _ h => nomatch h) ?_ ?_
        · refine steps_cons (fun own a wx hf hsl hE => ?_) ?_
          · obtain ⟨s_35, -⟩ := hsl
            exact sg_plain rfl rfl (or_move (s_35.trans e1168_35))
          refine steps_cons (fun own a wx hf hsl hE => ?_) ?_
          · obtain ⟨(f_37 : a.eval (.tmp 37) = .int .i64 x1087), -⟩ := hf
            exact sg_plain rfl rfl (or_assign f_37)
          exact steps_nil
        intro own1173 a1173 w1173 hd1173 hz1173 hk1173 hf1173 hE1173
        have e1173_0 : a1173.eval (.tmp 0) = .slice Al1 l1.length cl1 := (hk1173 0 rfl).trans e1168_0
        have e1173_3 : a1173.eval (.tmp 3) = .int .i64 (l1.length : Int) := (hk1173 3 rfl).trans e1168_3
        have e1173_34 : a1173.eval (.tmp 34) = .int .i64 (l1.length : Int) := (hk1173 34 rfl).trans e1168_34
        have e1173_35 : a1173.eval (.tmp 35) = .int .i64 x1087 := (hk1173 35 rfl).trans e1168_35
        obtain ⟨(f_7 : a1173.eval (.tmp 7) = .int .i64 x1087), -⟩ := hf1173 [1] rfl
        have e1173_7 := f_7
        have hX1173 := Evo.step hX1168 (fun _ => Nat.le_refl 0) hE1173 rfl
        have b1173_Al1 := RdO.evo rfl hE1173 b1168_Al1
        refine rg_plain_seq (n := 99) (rs := []) (own0 := own1173) (K := [])
            (bs := [0, 1, 3])
            (ds := [⟨[], [7], [], Fct.val 38 (.int .i64 x1087)⟩,
            ⟨[0], [], [], Fct.val 39 (.int .i64 (ad x1087 1))⟩,
            ⟨[1], [], [], Fct.val 8 (.int .i64 (ad x1087 1))⟩]) (by kernel_rfl) hz1173 hd1173 (fun _ h => nomatch h) ?_ ?_
        · refine steps_cons (fun own a wx hf hsl hE => ?_) ?_
          · obtain ⟨s_7, -⟩ := hsl
            exact sg_plain rfl rfl (or_move (s_7.trans e1173_7))
          refine steps_cons (fun own a wx hf hsl hE => ?_) ?_
          · obtain ⟨(f_38 : a.eval (.tmp 38) = .int .i64 x1087), -⟩ := hf
            exact sg_plain rfl rfl (or_add f_38 rfl rfl)
          refine steps_cons (fun own a wx hf hsl hE => ?_) ?_
          · obtain ⟨(f_39 : a.eval (.tmp 39) = .int .i64 (ad x1087 1)), -⟩ := hf
            exact sg_plain rfl rfl (or_assign f_39)
          exact steps_nil
        intro own1174 a1174 w1174 hd1174 hz1174 hk1174 hf1174 hE1174
        have e1174_0 : a1174.eval (.tmp 0) = .slice Al1 l1.length cl1 := (hk1174 0 rfl).trans e1173_0
        have e1174_3 : a1174.eval (.tmp 3) = .int .i64 (l1.length : Int) := (hk1174 3 rfl).trans e1173_3
        have e1174_7 : a1174.eval (.tmp 7) = .int .i64 x1087 := (hk1174 7 rfl).trans e1173_7
        have e1174_34 : a1174.eval (.tmp 34) = .int .i64 (l1.length : Int) := (hk1174 34 rfl).trans e1173_34
        have e1174_35 : a1174.eval (.tmp 35) = .int .i64 x1087 := (hk1174 35 rfl).trans e1173_35
        obtain ⟨(f_8 : a1174.eval (.tmp 8) = .int .i64 (ad x1087 1)), -⟩ := hf1174 [2] rfl
        have e1174_8 := f_8
        have hX1174 := Evo.step hX1173 (fun _ => Nat.le_refl 0) hE1174 rfl
        have b1174_Al1 := RdO.evo rfl hE1174 b1173_Al1
        refine fl_block (fun Q1175 hn1175 hx1175 hp1175 => ?_)
        refine fl_loop (body := (fun s => ring_Simple_b4 l1 x1087 s)) (z := zz1166) (show loopO _ _ = _ from hs) (fun (k1198 : Int) a wx => ∃ (ox : Own), a.defers = [] ∧ a.tmps.size = 99 ∧ a.eval (.tmp 0) = .slice Al1 l1.length cl1 ∧ a.eval (.tmp 3) = .int .i64 (l1.length : Int) ∧ a.eval (.tmp 7) = .int .i64 x1087 ∧ a.eval (.tmp 8) = .int .i64 k1198 ∧ a.eval (.tmp 34) = .int .i64 (l1.length : Int) ∧ a.eval (.tmp 35) = .int .i64 x1087 ∧ Evo [] (fun _ => 0) ox w wx ∧ RdO ox [0] wx R32 Al1 cl1 l1) ?_ ?_
        · exact ⟨own1174, hd1174, hz1174, e1174_0, e1174_3, e1174_7, e1174_8, e1174_34, e1174_35, hX1174, b1174_Al1⟩
        · rintro k1198 zz1221 a1221 w1221 ⟨own1221, hd1222, hz1222, e1222_0, e1222_3, e1222_7, e1222_8, e1222_34, e1222_35, hE1222, b1222_Al1⟩ hs Q1221 hn1221 hp1221 hz1221
          have hs : ring_Simple_b4 l1 x1087 k1198 = some zz1221 := hs
          refine fl_seq (fun Q1223 hn1223 hp1223 => ?_)
          refine rg_plain_seq (n := 99) (rs := []) (own0 := own1221) (K := [])
              (bs := [0, 0, 3])
              (ds := [⟨[], [8], [], Fct.val 40 (.int .i64 k1198)⟩,
              ⟨[], [3], [], Fct.val 41 (.int .i64 (l1.length : Int))⟩,
              ⟨[0, 1], [], [], Fct.val 42 (.bool (decide (k1198 < (l1.length : Int))))⟩]) (by kernel_rfl) hz1222 hd1222 (fun _ h => nomatch h) ?_ ?_
          · refine steps_cons (fun own a wx hf hsl hE => ?_) ?_
            · obtain ⟨s_8, -⟩ := hsl
              exact sg_plain rfl rfl (or_move (s_8.trans e1222_8))
            refine steps_cons (fun own a wx hf hsl hE => ?_) ?_
            · obtain ⟨s_3, -⟩ := hsl
              exact sg_plain rfl rfl (or_move (s_3.trans e1222_3))
            refine steps_cons (fun own a wx hf hsl hE => ?_) ?_
            · obtain ⟨(f_40 : a.eval (.tmp 40) = .int .i64 k1198), (f_41 : a.eval (.tmp 41) = .int .i64 (l1.length : Int)), -⟩ := hf
              exact sg_plain rfl rfl (or_lss f_40 f_41 rfl)
            exact steps_nil
          intro own1224 a1224 w1224 hd1224 hz1224 hk1224 hf1224 hE1224
          have e1224_0 : a1224.eval (.tmp 0) = .slice Al1 l1.length cl1 := (hk1224 0 rfl).trans e1222_0
          have e1224_3 : a1224.eval (.tmp 3) = .int .i64 (l1.length : Int) := (hk1224 3 rfl).trans e1222_3
          have e1224_7 : a1224.eval (.tmp 7) = .int .i64 x1087 := (hk1224 7 rfl).trans e1222_7
          have e1224_8 : a1224.eval (.tmp 8) = .int .i64 k1198 := (hk1224 8 rfl).trans e1222_8
          have e1224_34 : a1224.eval (.tmp 34) = .int .i64 (l1.length : Int) := (hk1224 34 rfl).trans e1222_34
          have e1224_35 : a1224.eval (.tmp 35) = .int .i64 x1087 := (hk1224 35 rfl).trans e1222_35
          obtain ⟨(f_42 : a1224.eval (.tmp 42) = .bool (decide (k1198 < (l1.length : Int)))), -⟩ := hf1224 [2] rfl
          have e1224_42 := f_42
          have hX1224 := Evo.step hE1222 (fun _ => Nat.le_refl 0) hE1224 rfl
          have b1224_Al1 := RdO.evo rfl hE1224 b1222_Al1
          refine fl_cond e1224_42 hs (fun c1225 hs => ?_) (fun c1225 hs => ?_)
          · refine fl_skip ?_
            refine hn1223 _ _ ?_
            refine fl_seq (fun Q1226 hn1226 hp1226 => ?_)
            refine fl_block (fun Q1227 hn1227 hx1227 hp1227 => ?_)
            obtain ⟨x1228, hx1228, hs⟩ := obind hs
            obtain ⟨x1229, hx1229, hs⟩ := obind hs
            obtain ⟨x1230, hx1230, hs⟩ := obind hs
            obtain ⟨x1231, hx1231, hs⟩ := obind hs
            obtain ⟨x1232, hx1232, hs⟩ := obind hs
            obtain ⟨x1233, hx1233, hs⟩ := obind hs
            obtain ⟨r1234, hr1234, hs⟩ := obind hs
            refine rg_draw_seq g_mixed (n := 99) (rs := []) (own0 := own1224) (K := [])
                (bs := [0, 0, 3, 7, 0, 0, 32, 0, 224, 496, 1008, 0, 0, 6144, 14336, 0, 0, 65536, 0, 458752, 1015808, 2064384, 4194303, 8388607, 16777215, 16777215, 33554431, 134217727])
                (ds := [⟨[], [0], [], Fct.val 46 (.slice Al1 l1.length cl1)⟩,
                ⟨[], [7], [], Fct.val 47 (.int .i64 x1087)⟩,
                ⟨[0, 1], [], [], Fct.val 48 (.pointer (some ((adr Al1).add ((x1087 : Int).toNat * R32.s))))⟩,
                ⟨[2], [], [], Fct.val 49 (.agg #[.int .i64 x1228.1, .int .i64 x1228.2])⟩,
                ⟨[], [0], [], Fct.val 50 (.slice Al1 l1.length cl1)⟩,
                ⟨[], [7], [], Fct.val 51 (.int .i64 x1087)⟩,
                ⟨[5], [], [], Fct.val 52 (.int .i64 (ad x1087 1))⟩,
                ⟨[], [3], [], Fct.val 53 (.int .i64 (l1.length : Int))⟩,
                ⟨[6, 7], [], [], Fct.val 54 (.int .i64 x1229)⟩,
                ⟨[4, 8], [], [], Fct.val 55 (.pointer (some ((adr Al1).add ((x1229 : Int).toNat * R32.s))))⟩,
                ⟨[9], [], [], Fct.val 56 (.agg #[.int .i64 x1230.1, .int .i64 x1230.2])⟩,
                ⟨[], [0], [], Fct.val 57 (.slice Al1 l1.length cl1)⟩,
                ⟨[], [8], [], Fct.val 58 (.int .i64 k1198)⟩,
                ⟨[11, 12], [], [], Fct.val 59 (.pointer (some ((adr Al1).add ((k1198 : Int).toNat * R32.s))))⟩,
                ⟨[13], [], [], Fct.val 60 (.agg #[.int .i64 x1231.1, .int .i64 x1231.2])⟩,
                ⟨[], [0], [], Fct.val 61 (.slice Al1 l1.length cl1)⟩,
                ⟨[], [8], [], Fct.val 62 (.int .i64 k1198)⟩,
                ⟨[16], [], [], Fct.val 63 (.int .i64 (ad k1198 1))⟩,
                ⟨[], [3], [], Fct.val 64 (.int .i64 (l1.length : Int))⟩,
                ⟨[17, 18], [], [], Fct.val 65 (.int .i64 x1232)⟩,
                ⟨[15, 19], [], [], Fct.val 66 (.pointer (some ((adr Al1).add ((x1232 : Int).toNat * R32.s))))⟩,
                ⟨[20], [], [], Fct.val 67 (.agg #[.int .i64 x1233.1, .int .i64 x1233.2])⟩,
                ⟨[3, 10, 14, 21], [], [], Fct.val 68 (.tuple #[.int .i64 r1234.1, .int .i64 r1234.2])⟩,
                ⟨[22], [], [], Fct.val 45 (.tuple #[.int .i64 r1234.1, .int .i64 r1234.2])⟩,
                ⟨[23], [], [], Fct.val 69 (.int .i64 r1234.1)⟩,
                ⟨[23], [], [], Fct.val 70 (.int .i64 r1234.2)⟩,
                ⟨[24], [], [], Fct.val 9 (.int .i64 r1234.1)⟩,
                ⟨[25], [], [], Fct.val 10 (.int .i64 r1234.2)⟩]) (by kernel_rfl) hz1224 hd1224 (fun _ h => nomatch h) ?_ ?_
            · refine steps_cons (fun own a wx hf hsl hE => ?_) ?_
              · obtain ⟨s_0, -⟩ := hsl
                exact sg_plain rfl rfl (or_move (s_0.trans e1224_0))
              refine steps_cons (fun own a wx hf hsl hE => ?_) ?_
              · obtain ⟨s_7, -⟩ := hsl
                exact sg_plain rfl rfl (or_move (s_7.trans e1224_7))
              refine steps_cons (fun own a wx hf hsl hE => ?_) ?_
              · obtain ⟨(f_46 : a.eval (.tmp 46) = .slice Al1 l1.length cl1), (f_47 : a.eval (.tmp 47) = .int .i64 x1087), -⟩ := hf
                exact sg_plain rfl rfl (or_index (R := R32) (l := l1) tl22 f_46 f_47 (RdO.some_ b1224_Al1 hx1228) hx1228)
              refine steps_cons (fun own a wx hf hsl hE => ?_) ?_
              · obtain ⟨(f_48 : a.eval (.tmp 48) = .pointer (some ((adr Al1).add ((x1087 : Int).toNat * R32.s)))), -⟩ := hf
                exact sg_plain rfl rfl (or_load (l := E32.f x1228) ta32 f_48 (RdO.cells (F := E32) (RdO.evo rfl hE b1224_Al1) hx1228) rfl)
              refine steps_cons (fun own a wx hf hsl hE => ?_) ?_
              · obtain ⟨s_0, -⟩ := hsl
                exact sg_plain rfl rfl (or_move (s_0.trans e1224_0))
              refine steps_cons (fun own a wx hf hsl hE => ?_) ?_
              · obtain ⟨s_7, -⟩ := hsl
                exact sg_plain rfl rfl (or_move (s_7.trans e1224_7))
              refine steps_cons (fun own a wx hf hsl hE => ?_) ?_
              · obtain ⟨(f_51 : a.eval (.tmp 51) = .int .i64 x1087), -⟩ := hf
                exact sg_plain rfl rfl (or_add f_51 rfl rfl)
              refine steps_cons (fun own a wx hf hsl hE => ?_) ?_
              · obtain ⟨s_3, -⟩ := hsl
                exact sg_plain rfl rfl (or_move (s_3.trans e1224_3))
              refine steps_cons (fun own a wx hf hsl hE => ?_) ?_
              · obtain ⟨(f_52 : a.eval (.tmp 52) = .int .i64 (ad x1087 1)), (f_53 : a.eval (.tmp 53) = .int .i64 (l1.length : Int)), -⟩ := hf
                exact sg_plain rfl rfl (or_rem f_52 f_53 hx1229)
              refine steps_cons (fun own a wx hf hsl hE => ?_) ?_
              · obtain ⟨(f_50 : a.eval (.tmp 50) = .slice Al1 l1.length cl1), (f_54 : a.eval (.tmp 54) = .int .i64 x1229), -⟩ := hf
                exact sg_plain rfl rfl (or_index (R := R32) (l := l1) tl22 f_50 f_54 (RdO.some_ b1224_Al1 hx1230) hx1230)
              refine steps_cons (fun own a wx hf hsl hE => ?_) ?_
              · obtain ⟨(f_55 : a.eval (.tmp 55) = .pointer (some ((adr Al1).add ((x1229 : Int).toNat * R32.s)))), -⟩ := hf
                exact sg_plain rfl rfl (or_load (l := E32.f x1230) ta32 f_55 (RdO.cells (F := E32) (RdO.evo rfl hE b1224_Al1) hx1230) rfl)
              refine steps_cons (fun own a wx hf hsl hE => ?_) ?_
              · obtain ⟨s_0, -⟩ := hsl
                exact sg_plain rfl rfl (or_move (s_0.trans e1224_0))
              refine steps_cons (fun own a wx hf hsl hE => ?_) ?_
              · obtain ⟨s_8, -⟩ := hsl
                exact sg_plain rfl rfl (or_move (s_8.trans e1224_8))
              refine steps_cons (fun own a wx hf hsl hE => ?_) ?_
              · obtain ⟨(f_57 : a.eval (.tmp 57) = .slice Al1 l1.length cl1), (f_58 : a.eval (.tmp 58) = .int .i64 k1198), -⟩ := hf
                exact sg_plain rfl rfl (or_index (R := R32) (l := l1) tl22 f_57 f_58 (RdO.some_ b1224_Al1 hx1231) hx1231)
              refine steps_cons (fun own a wx hf hsl hE => ?_) ?_
              · obtain ⟨(f_59 : a.eval (.tmp 59) = .pointer (some ((adr Al1).add ((k1198 : Int).toNat * R32.s)))), -⟩ := hf
                exact sg_plain rfl rfl (or_load (l := E32.f x1231) ta32 f_59 (RdO.cells (F := E32) (RdO.evo rfl hE b1224_Al1) hx1231) rfl)
              refine steps_cons (fun own a wx hf hsl hE => ?_) ?_
              · obtain ⟨s_0, -⟩ := hsl
                exact sg_plain rfl rfl (or_move (s_0.trans e1224_0))
              refine steps_cons (fun own a wx hf hsl hE => ?_) ?_
              · obtain ⟨s_8, -⟩ := hsl
                exact sg_plain rfl rfl (or_move (s_8.trans e1224_8))
              refine steps_cons (fun own a wx hf hsl hE => ?_) ?_
              · obtain ⟨(f_62 : a.eval (.tmp 62) = .int .i64 k1198), -⟩ := hf
                exact sg_plain rfl rfl (or_add f_62 rfl rfl)
              refine steps_cons (fun own a wx hf hsl hE => ?_) ?_
              · obtain ⟨s_3, -⟩ := hsl
                exact sg_plain rfl rfl (or_move (s_3.trans e1224_3))
              refine steps_cons (fun own a wx hf hsl hE => ?_) ?_
              · obtain ⟨(f_63 : a.eval (.tmp 63) = .int .i64 (ad k1198 1)), (f_64 : a.eval (.tmp 64) = .int .i64 (l1.length : Int)), -⟩ := hf
                exact sg_plain rfl rfl (or_rem f_63 f_64 hx1232)
              refine steps_cons (fun own a wx hf hsl hE => ?_) ?_
              · obtain ⟨(f_61 : a.eval (.tmp 61) = .slice Al1 l1.length cl1), (f_65 : a.eval (.tmp 65) = .int .i64 x1232), -⟩ := hf
                exact sg_plain rfl rfl (or_index (R := R32) (l := l1) tl22 f_61 f_65 (RdO.some_ b1224_Al1 hx1233) hx1233)
              refine steps_cons (fun own a wx hf hsl hE => ?_) ?_
              · obtain ⟨(f_66 : a.eval (.tmp 66) = .pointer (some ((adr Al1).add ((x1232 : Int).toNat * R32.s)))), -⟩ := hf
                exact sg_plain rfl rfl (or_load (l := E32.f x1233) ta32 f_66 (RdO.cells (F := E32) (RdO.evo rfl hE b1224_Al1) hx1233) rfl)
              refine steps_cons (fun own a wx hf hsl hE => ?_) ?_
              · obtain ⟨(f_49 : a.eval (.tmp 49) = .agg #[.int .i64 x1228.1, .int .i64 x1228.2]), (f_56 : a.eval (.tmp 56) = .agg #[.int .i64 x1230.1, .int .i64 x1230.2]), (f_60 : a.eval (.tmp 60) = .agg #[.int .i64 x1231.1, .int .i64 x1231.2]), (f_67 : a.eval (.tmp 67) = .agg #[.int .i64 x1233.1, .int .i64 x1233.2]), -⟩ := hf
                exact sg_plain rfl rfl (or_call cf36 (args4 f_49 f_56 f_60 f_67) (seg_Class_w _ x1228 x1230 x1231 x1233  r1234 hr1234) post_val)
              refine steps_cons (fun own a wx hf hsl hE => ?_) ?_
              · obtain ⟨(f_68 : a.eval (.tmp 68) = .tuple #[.int .i64 r1234.1, .int .i64 r1234.2]), -⟩ := hf
                exact sg_plain rfl rfl (or_move f_68)
              refine steps_cons (fun own a wx hf hsl hE => ?_) ?_
              · obtain ⟨(f_45 : a.eval (.tmp 45) = .tuple #[.int .i64 r1234.1, .int .i64 r1234.2]), -⟩ := hf
                exact sg_plain rfl rfl (or_k [(45, .tuple #[.int .i64 r1234.1, .int .i64 r1234.2])] rfl rfl ⟨f_45, trivial⟩ (by kernel_rfl))
              refine steps_cons (fun own a wx hf hsl hE => ?_) ?_
              · obtain ⟨(f_45 : a.eval (.tmp 45) = .tuple #[.int .i64 r1234.1, .int .i64 r1234.2]), -⟩ := hf
                exact sg_plain rfl rfl (or_k [(45, .tuple #[.int .i64 r1234.1, .int .i64 r1234.2])] rfl rfl ⟨f_45, trivial⟩ (by kernel_rfl))
              refine steps_cons (fun own a wx hf hsl hE => ?_) ?_
              · obtain ⟨(f_69 : a.eval (.tmp 69) = .int .i64 r1234.1), -⟩ := hf
                exact sg_plain rfl rfl (or_assign f_69)
              refine steps_cons (fun own a wx hf hsl hE => ?_) ?_
              · obtain ⟨(f_70 : a.eval (.tmp 70) = .int .i64 r1234.2), -⟩ := hf
                exact sg_plain rfl rfl (or_assign f_70)
              exact steps_nil
            intro own1235 a1235 w1235 hd1235 hz1235 hk1235 hf1235 hE1235
            have e1235_0 : a1235.eval (.tmp 0) = .slice Al1 l1.length cl1 := (hk1235 0 rfl).trans e1224_0
            have e1235_3 : a1235.eval (.tmp 3) = .int .i64 (l1.length : Int) := (hk1235 3 rfl).trans e1224_3
            have e1235_7 : a1235.eval (.tmp 7) = .int .i64 x1087 := (hk1235 7 rfl).trans e1224_7
            have e1235_8 : a1235.eval (.tmp 8) = .int .i64 k1198 := (hk1235 8 rfl).trans e1224_8
            have e1235_34 : a1235.eval (.tmp 34) = .int .i64 (l1.length : Int) := (hk1235 34 rfl).trans e1224_34
            have e1235_35 : a1235.eval (.tmp 35) = .int .i64 x1087 := (hk1235 35 rfl).trans e1224_35
            obtain ⟨(f_9 : a1235.eval (.tmp 9) = .int .i64 r1234.1), -⟩ := hf1235 [26] rfl
            have e1235_9 := f_9
            have hX1235 := Evo.step hX1224 (fun _ => Nat.le_refl 0) hE1235 rfl
            have b1235_Al1 := RdO.evo rfl hE1235 b1224_Al1
            obtain ⟨x1236, hx1236, hs⟩ := obind hs
            obtain ⟨x1237, hx1237, hs⟩ := obind hs
            refine rg_plain_seq (n := 99) (rs := []) (own0 := own1235) (K := [])
                (bs := [0, 0, 2, 7, 15, 31, 63, 127, 255, 255, 767, 2047, 4095, 8191, 16383])
                (ds := [⟨[], [8], [], Fct.val 71 (.int .i64 k1198)⟩,
                ⟨[], [7], [], Fct.val 72 (.int .i64 x1087)⟩,
                ⟨[1], [], [], Fct.val 73 (.int .i64 (ad x1087 1))⟩,
                ⟨[0, 2], [], [], Fct.val 74 (.bool (decide (k1198 = (ad x1087 1))))⟩,
                ⟨[3], [], [], Fct.val 75 (.bool (decide (k1198 = (ad x1087 1))))⟩,
                ⟨[4], [7], [], Fct.cond (!(decide (k1198 = (ad x1087 1)))) (some 76) (Fct.val 76 (.int .i64 x1087))⟩,
                ⟨[4, 5], [], [], Fct.cond (!(decide (k1198 = (ad x1087 1)))) (some 77) (Fct.val 77 (.bool (decide (x1087 = 0))))⟩,
                ⟨[4, 6], [], [], Fct.cond (!(decide (k1198 = (ad x1087 1)))) (some 78) (Fct.val 78 (.bool (decide (x1087 = 0))))⟩,
                ⟨[7], [8], [], Fct.cond ((!(decide (k1198 = (ad x1087 1)))) && (decide (x1087 = 0))) (some 79) (Fct.val 79 (.int .i64 k1198))⟩,
                ⟨[7], [3], [], Fct.cond ((!(decide (k1198 = (ad x1087 1)))) && (decide (x1087 = 0))) (some 80) (Fct.val 80 (.int .i64 (l1.length : Int)))⟩,
                ⟨[7, 9], [], [], Fct.cond ((!(decide (k1198 = (ad x1087 1)))) && (decide (x1087 = 0))) (some 81) (Fct.val 81 (.int .i64 (sb (l1.length : Int) 1)))⟩,
                ⟨[7, 8, 10], [], [], Fct.cond ((!(decide (k1198 = (ad x1087 1)))) && (decide (x1087 = 0))) (some 82) (Fct.val 82 (.bool (decide (k1198 = (sb (l1.length : Int) 1)))))⟩,
                ⟨[4, 7, 11], [], [], Fct.cond (!(decide (k1198 = (ad x1087 1)))) (some 83) (Fct.val 83 (.bool x1236))⟩,
                ⟨[4, 12], [], [], Fct.val 84 (.bool x1237)⟩,
                ⟨[13], [], [], Fct.val 11 (.bool x1237)⟩]) (by kernel_rfl) hz1235 hd1235 (fun _ h => nomatch h) ?_ ?_
            · refine steps_cons (fun own a wx hf hsl hE => ?_) ?_
              · obtain ⟨s_8, -⟩ := hsl
                exact sg_plain rfl rfl (or_move (s_8.trans e1235_8))
              refine steps_cons (fun own a wx hf hsl hE => ?_) ?_
              · obtain ⟨s_7, -⟩ := hsl
                exact sg_plain rfl rfl (or_move (s_7.trans e1235_7))
              refine steps_cons (fun own a wx hf hsl hE => ?_) ?_
              · obtain ⟨(f_72 : a.eval (.tmp 72) = .int .i64 x1087), -⟩ := hf
                exact sg_plain rfl rfl (or_add f_72 rfl rfl)
              refine steps_cons (fun own a wx hf hsl hE => ?_) ?_
              · obtain ⟨(f_71 : a.eval (.tmp 71) = .int .i64 k1198), (f_73 : a.eval (.tmp 73) = .int .i64 (ad x1087 1)), -⟩ := hf
                exact sg_plain rfl rfl (or_eql f_71 f_73 rfl)
              refine steps_cons (fun own a wx hf hsl hE => ?_) ?_
              · obtain ⟨(f_74 : a.eval (.tmp 74) = .bool (decide (k1198 = (ad x1087 1)))), -⟩ := hf
                exact sg_plain rfl rfl (or_move f_74)
              refine steps_cons (fun own a wx hf hsl hE => ?_) ?_
              · obtain ⟨(f_75 : a.eval (.tmp 75) = .bool (decide (k1198 = (ad x1087 1)))), -⟩ := hf
                obtain ⟨s_7, -⟩ := hsl
                refine sg_f rfl rfl rfl f_75 (fun hg => ?_)
                exact or_move (s_7.trans e1235_7)
              refine steps_cons (fun own a wx hf hsl hE => ?_) ?_
              · obtain ⟨(f_75 : a.eval (.tmp 75) = .bool (decide (k1198 = (ad x1087 1)))), c_76, -⟩ := hf
                refine sg_f rfl rfl rfl f_75 (fun hg => ?_)
                have f_76 : a.eval (.tmp 76) = .int .i64 x1087 := c_76.1 hg
                exact or_eql f_76 rfl rfl
              refine steps_cons (fun own a wx hf hsl hE => ?_) ?_
              · obtain ⟨(f_75 : a.eval (.tmp 75) = .bool (decide (k1198 = (ad x1087 1)))), c_77, -⟩ := hf
                refine sg_f rfl rfl rfl f_75 (fun hg => ?_)
                have f_77 : a.eval (.tmp 77) = .bool (decide (x1087 = 0)) := c_77.1 hg
                exact or_move f_77
              refine steps_cons (fun own a wx hf hsl hE => ?_) ?_
              · obtain ⟨c_78, -⟩ := hf
                obtain ⟨s_8, -⟩ := hsl
                refine sg_tc rfl rfl rfl c_78 (fun hg => ?_)
                have f_78 : a.eval (.tmp 78) = .bool (decide (x1087 = 0)) := c_78.1 (gL hg)
                exact or_move (s_8.trans e1235_8)
              refine steps_cons (fun own a wx hf hsl hE => ?_) ?_
              · obtain ⟨c_78, -⟩ := hf
                obtain ⟨s_3, -⟩ := hsl
                refine sg_tc rfl rfl rfl c_78 (fun hg => ?_)
                have f_78 : a.eval (.tmp 78) = .bool (decide (x1087 = 0)) := c_78.1 (gL hg)
                exact or_move (s_3.trans e1235_3)
              refine steps_cons (fun own a wx hf hsl hE => ?_) ?_
              · obtain ⟨c_78, c_80, -⟩ := hf
                refine sg_tc rfl rfl rfl c_78 (fun hg => ?_)
                have f_78 : a.eval (.tmp 78) = .bool (decide (x1087 = 0)) := c_78.1 (gL hg)
                have f_80 : a.eval (.tmp 80) = .int .i64 (l1.length : Int) := c_80.1 hg
                exact or_sub f_80 rfl rfl
              refine steps_cons (fun own a wx hf hsl hE => ?_) ?_
              · obtain ⟨c_78, c_79, c_81, -⟩ := hf
                refine sg_tc rfl rfl rfl c_78 (fun hg => ?_)
                have f_78 : a.eval (.tmp 78) = .bool (decide (x1087 = 0)) := c_78.1 (gL hg)
                have f_79 : a.eval (.tmp 79) = .int .i64 k1198 := c_79.1 hg
                have f_81 : a.eval (.tmp 81) = .int .i64 (sb (l1.length : Int) 1) := c_81.1 hg
                exact or_eql f_79 f_81 rfl
              refine steps_cons (fun own a wx hf hsl hE => ?_) ?_
              · obtain ⟨(f_75 : a.eval (.tmp 75) = .bool (decide (k1198 = (ad x1087 1)))), c_78, c_82, -⟩ := hf
                refine sg_f rfl rfl rfl f_75 (fun hg => ?_)
                have f_78 : a.eval (.tmp 78) = .bool (decide (x1087 = 0)) := c_78.1 hg
                exact or_and f_78 (fun hx => c_82.1 (gI hg hx)) rfl (osome hx1236).symm
              refine steps_cons (fun own a wx hf hsl hE => ?_) ?_
              · obtain ⟨(f_75 : a.eval (.tmp 75) = .bool (decide (k1198 = (ad x1087 1)))), c_83, -⟩ := hf
                exact sg_plain rfl rfl (or_or f_75 rfl (fun hx => c_83.1 hx) (osome hx1237).symm)
              refine steps_cons (fun own a wx hf hsl hE => ?_) ?_
              · obtain ⟨(f_84 : a.eval (.tmp 84) = .bool x1237), -⟩ := hf
                exact sg_plain rfl rfl (or_assign f_84)
              exact steps_nil
            intro own1238 a1238 w1238 hd1238 hz1238 hk1238 hf1238 hE1238
            have e1238_0 : a1238.eval (.tmp 0) = .slice Al1 l1.length cl1 := (hk1238 0 rfl).trans e1235_0
            have e1238_3 : a1238.eval (.tmp 3) = .int .i64 (l1.length : Int) := (hk1238 3 rfl).trans e1235_3
            have e1238_7 : a1238.eval (.tmp 7) = .int .i64 x1087 := (hk1238 7 rfl).trans e1235_7
            have e1238_8 : a1238.eval (.tmp 8) = .int .i64 k1198 := (hk1238 8 rfl).trans e1235_8
            have e1238_9 : a1238.eval (.tmp 9) = .int .i64 r1234.1 := (hk1238 9 rfl).trans e1235_9
            have e1238_34 : a1238.eval (.tmp 34) = .int .i64 (l1.length : Int) := (hk1238 34 rfl).trans e1235_34
            have e1238_35 : a1238.eval (.tmp 35) = .int .i64 x1087 := (hk1238 35 rfl).trans e1235_35
            obtain ⟨(f_11 : a1238.eval (.tmp 11) = .bool x1237), -⟩ := hf1238 [14] rfl
            have e1238_11 := f_11
            have hX1238 := Evo.step hX1235 (fun _ => Nat.le_refl 0) hE1238 rfl
            have b1238_Al1 := RdO.evo rfl hE1238 b1235_Al1
            obtain ⟨x1239, hx1239, hs⟩ := obind hs
            obtain ⟨x1240, hx1240, hs⟩ := obind hs
            refine rg_plain_seq (n := 99) (rs := []) (own0 := own1238) (K := [])
                (bs := [0, 1, 3, 7, 15, 31, 63, 127, 255, 511, 1023, 2047, 4095])
                (ds := [⟨[], [11], [], Fct.val 85 (.bool x1237)⟩,
                ⟨[0], [], [], Fct.val 86 (.bool x1237)⟩,
                ⟨[1], [9], [], Fct.cond x1237 (some 87) (Fct.val 87 (.int .i64 r1234.1))⟩,
                ⟨[1, 2], [], [], Fct.cond x1237 (some 88) (Fct.val 88 (.bool (!decide (r1234.1 = 1))))⟩,
                ⟨[1, 3], [], [], Fct.val 89 (.bool (x1237 && (!decide (r1234.1 = 1))))⟩,
                ⟨[4], [], [], Fct.val 90 (.bool (x1237 && (!decide (r1234.1 = 1))))⟩,
                ⟨[5], [11], [], Fct.cond (!(x1237 && (!decide (r1234.1 = 1)))) (some 91) (Fct.val 91 (.bool x1237))⟩,
                ⟨[5, 6], [], [], Fct.cond (!(x1237 && (!decide (r1234.1 = 1)))) (some 92) (Fct.val 92 (.bool (!x1237)))⟩,
                ⟨[5, 7], [], [], Fct.cond (!(x1237 && (!decide (r1234.1 = 1)))) (some 93) (Fct.val 93 (.bool (!x1237)))⟩,
                ⟨[8], [9], [], Fct.cond ((!(x1237 && (!decide (r1234.1 = 1)))) && (!x1237)) (some 94) (Fct.val 94 (.int .i64 r1234.1))⟩,
                ⟨[8, 9], [], [], Fct.cond ((!(x1237 && (!decide (r1234.1 = 1)))) && (!x1237)) (some 95) (Fct.val 95 (.bool (!decide (r1234.1 = 0))))⟩,
                ⟨[5, 8, 10], [], [], Fct.cond (!(x1237 && (!decide (r1234.1 = 1)))) (some 96) (Fct.val 96 (.bool x1239))⟩,
                ⟨[5, 11], [], [], Fct.val 97 (.bool x1240)⟩]) (by kernel_rfl) hz1238 hd1238 (fun _ h => nomatch h) ?_ ?_
            · refine steps_cons (fun own a wx hf hsl hE => ?_) ?_
              · obtain ⟨s_11, -⟩ := hsl
                exact sg_plain rfl rfl (or_move (s_11.trans e1238_11))
              refine steps_cons (fun own a wx hf hsl hE => ?_) ?_
              · obtain ⟨(f_85 : a.eval (.tmp 85) = .bool x1237), -⟩ := hf
                exact sg_plain rfl rfl (or_move f_85)
              refine steps_cons (fun own a wx hf hsl hE => ?_) ?_
              · obtain ⟨(f_86 : a.eval (.tmp 86) = .bool x1237), -⟩ := hf
                obtain ⟨s_9, -⟩ := hsl
                refine sg_t rfl rfl rfl f_86 (fun hg => ?_)
                exact or_move (s_9.trans e1238_9)
              refine steps_cons (fun own a wx hf hsl hE => ?_) ?_
              · obtain ⟨(f_86 : a.eval (.tmp 86) = .bool x1237), c_87, -⟩ := hf
                refine sg_t rfl rfl rfl f_86 (fun hg => ?_)
                have f_87 : a.eval (.tmp 87) = .int .i64 r1234.1 := c_87.1 hg
                exact or_neq f_87 rfl rfl
              refine steps_cons (fun own a wx hf hsl hE => ?_) ?_
              · obtain ⟨(f_86 : a.eval (.tmp 86) = .bool x1237), c_88, -⟩ := hf
                exact sg_plain rfl rfl (or_and f_86 (fun hx => c_88.1 hx) rfl rfl)
              refine steps_cons (fun own a wx hf hsl hE => ?_) ?_
              · obtain ⟨(f_89 : a.eval (.tmp 89) = .bool (x1237 && (!decide (r1234.1 = 1)))), -⟩ := hf
                exact sg_plain rfl rfl (or_move f_89)
              refine steps_cons (fun own a wx hf hsl hE => ?_) ?_
              · obtain ⟨(f_90 : a.eval (.tmp 90) = .bool (x1237 && (!decide (r1234.1 = 1)))), -⟩ := hf
                obtain ⟨s_11, -⟩ := hsl
                refine sg_f rfl rfl rfl f_90 (fun hg => ?_)
                exact or_move (s_11.trans e1238_11)
              refine steps_cons (fun own a wx hf hsl hE => ?_) ?_
              · obtain ⟨(f_90 : a.eval (.tmp 90) = .bool (x1237 && (!decide (r1234.1 = 1)))), c_91, -⟩ := hf
                refine sg_f rfl rfl rfl f_90 (fun hg => ?_)
                have f_91 : a.eval (.tmp 91) = .bool x1237 := c_91.1 hg
                exact or_not f_91 rfl
              refine steps_cons (fun own a wx hf hsl hE => ?_) ?_
              · obtain ⟨(f_90 : a.eval (.tmp 90) = .bool (x1237 && (!decide (r1234.1 = 1)))), c_92, -⟩ := hf
                refine sg_f rfl rfl rfl f_90 (fun hg => ?_)
                have f_92 : a.eval (.tmp 92) = .bool (!x1237) := c_92.1 hg
                exact or_move f_92
              refine steps_cons (fun own a wx hf hsl hE => ?_) ?_
              · obtain ⟨c_93, -⟩ := hf
                obtain ⟨s_9, -⟩ := hsl
                refine sg_tc rfl rfl rfl c_93 (fun hg => ?_)
                have f_93 : a.eval (.tmp 93) = .bool (!x1237) := c_93.1 (gL hg)
                exact or_move (s_9.trans e1238_9)
              refine steps_cons (fun own a wx hf hsl hE => ?_) ?_
              · obtain ⟨c_93, c_94, -⟩ := hf
                refine sg_tc rfl rfl rfl c_93 (fun hg => ?_)
                have f_93 : a.eval (.tmp 93) = .bool (!x1237) := c_93.1 (gL hg)
                have f_94 : a.eval (.tmp 94) = .int .i64 r1234.1 := c_94.1 hg
                exact or_neq f_94 rfl rfl
              refine steps_cons (fun own a wx hf hsl hE => ?_) ?_
              · obtain ⟨(f_90 : a.eval (.tmp 90) = .bool (x1237 && (!decide (r1234.1 = 1)))), c_93, c_95, -⟩ := hf
                refine sg_f rfl rfl rfl f_90 (fun hg => ?_)
                have f_93 : a.eval (.tmp 93) = .bool (!x1237) := c_93.1 hg
                exact or_and f_93 (fun hx => c_95.1 (gI hg hx)) rfl (osome hx1239).symm
              refine steps_cons (fun own a wx hf hsl hE => ?_) ?_
              · obtain ⟨(f_90 : a.eval (.tmp 90) = .bool (x1237 && (!decide (r1234.1 = 1)))), c_96, -⟩ := hf
                exact sg_plain rfl rfl (or_or f_90 rfl (fun hx => c_96.1 hx) (osome hx1240).symm)
              exact steps_nil
            intro own1241 a1241 w1241 hd1241 hz1241 hk1241 hf1241 hE1241
            have e1241_0 : a1241.eval (.tmp 0) = .slice Al1 l1.length cl1 := (hk1241 0 rfl).trans e1238_0
            have e1241_3 : a1241.eval (.tmp 3) = .int .i64 (l1.length : Int) := (hk1241 3 rfl).trans e1238_3
            have e1241_7 : a1241.eval (.tmp 7) = .int .i64 x1087 := (hk1241 7 rfl).trans e1238_7
            have e1241_8 : a1241.eval (.tmp 8) = .int .i64 k1198 := (hk1241 8 rfl).trans e1238_8
            have e1241_34 : a1241.eval (.tmp 34) = .int .i64 (l1.length : Int) := (hk1241 34 rfl).trans e1238_34
            have e1241_35 : a1241.eval (.tmp 35) = .int .i64 x1087 := (hk1241 35 rfl).trans e1238_35
            obtain ⟨(f_97 : a1241.eval (.tmp 97) = .bool x1240), -⟩ := hf1241 [12] rfl
            have e1241_97 := f_97
            have hX1241 := Evo.step hX1238 (fun _ => Nat.le_refl 0) hE1241 rfl
            have b1241_Al1 := RdO.evo rfl hE1241 b1238_Al1
            refine fl_cond e1241_97 hs (fun c1242 hs => ?_) (fun c1242 hs => ?_)
            · refine fl_goto ?_
              refine hp1227 _ _ _ rfl ?_
              refine hp1226 _ _ _ rfl ?_
              replace hs := hz1221 _ hs
              refine hp1221 _ _ _ rfl ?_
              refine hp1175 _ _ _ rfl ?_
              refine hp1172 _ _ _ rfl ?_
              refine hp1171 _ _ _ rfl ?_
              replace hs := hz1166 _ hs
              refine hp1166 _ _ _ rfl ?_
              refine hp1011 _ _ _ rfl ?_
              refine hp1009 _ _ _ rfl ?_
              exact (K932 _ _ own1241  hd1241 hz1241 hX1241 hs)
            refine fl_skip ?_
            refine hn1227 _ _ ?_
            refine hn1226 _ _ ?_
            refine rg_plain (n := 99) (rs := []) (own0 := own1241) (K := [])
                (bs := [0, 1, 3])
                (ds := [⟨[], [8], [], Fct.val 43 (.int .i64 k1198)⟩,
                ⟨[0], [], [], Fct.val 44 (.int .i64 (ad k1198 1))⟩,
                ⟨[1], [], [], Fct.val 8 (.int .i64 (ad k1198 1))⟩]) (by kernel_rfl) hz1241 hd1241 (fun _ h => nomatch h) ?_ ?_
            · refine steps_cons (fun own a wx hf hsl hE => ?_) ?_
              · obtain ⟨s_8, -⟩ := hsl
                exact sg_plain rfl rfl (or_move (s_8.trans e1241_8))
              refine steps_cons (fun own a wx hf hsl hE => ?_) ?_
              · obtain ⟨(f_43 : a.eval (.tmp 43) = .int .i64 k1198), -⟩ := hf
                exact sg_plain rfl rfl (or_add f_43 rfl rfl)
              refine steps_cons (fun own a wx hf hsl hE => ?_) ?_
              · obtain ⟨(f_44 : a.eval (.tmp 44) = .int .i64 (ad k1198 1)), -⟩ := hf
                exact sg_plain rfl rfl (or_assign f_44)
              exact steps_nil
            intro own1243 a1243 w1243 hd1243 hz1243 hk1243 hf1243 hE1243
            have e1243_0 : a1243.eval (.tmp 0) = .slice Al1 l1.length cl1 := (hk1243 0 rfl).trans e1241_0
            have e1243_3 : a1243.eval (.tmp 3) = .int .i64 (l1.length : Int) := (hk1243 3 rfl).trans e1241_3
            have e1243_7 : a1243.eval (.tmp 7) = .int .i64 x1087 := (hk1243 7 rfl).trans e1241_7
            have e1243_34 : a1243.eval (.tmp 34) = .int .i64 (l1.length : Int) := (hk1243 34 rfl).trans e1241_34
            have e1243_35 : a1243.eval (.tmp 35) = .int .i64 x1087 := (hk1243 35 rfl).trans e1241_35
            obtain ⟨(f_8 : a1243.eval (.tmp 8) = .int .i64 (ad k1198 1)), -⟩ := hf1243 [2] rfl
            have e1243_8 := f_8
            have hX1243 := Evo.step hX1241 (fun _ => Nat.le_refl 0) hE1243 rfl
            have b1243_Al1 := RdO.evo rfl hE1243 b1241_Al1
            exact hn1221 _ _ _ hs ⟨own1243, hd1243, hz1243, e1243_0, e1243_3, e1243_7, e1243_8, e1243_34, e1243_35, hX1243, b1243_Al1⟩
          refine fl_exit ?_
          refine hp1223 _ _ _ rfl ?_
          replace hs := hz1221 _ hs
          refine hp1221 _ _ _ rfl ?_
          refine hx1175 _ _ ?_
          refine hn1172 _ _ ?_
          refine hn1171 _ _ ?_
          refine rg_plain (n := 99) (rs := []) (own0 := own1224) (K := [])
              (bs := [0, 1])
              (ds := [⟨[], [35], [], Fct.val 98 (.int .i64 (ad x1087 1))⟩,
              ⟨[0], [], [], Fct.val 35 (.int .i64 (ad x1087 1))⟩]) (by kernel_rfl) hz1224 hd1224 (fun _ h => nomatch h) ?_ ?_
          · refine steps_cons (fun own a wx hf hsl hE => ?_) ?_
            · obtain ⟨s_35, -⟩ := hsl
              exact sg_plain rfl rfl (or_add (s_35.trans e1224_35) rfl rfl)
            refine steps_cons (fun own a wx hf hsl hE => ?_) ?_
            · obtain ⟨(f_98 : a.eval (.tmp 98) = .int .i64 (ad x1087 1)), -⟩ := hf
              exact sg_plain rfl rfl (or_move f_98)
            exact steps_nil
          intro own1244 a1244 w1244 hd1244 hz1244 hk1244 hf1244 hE1244
          have e1244_0 : a1244.eval (.tmp 0) = .slice Al1 l1.length cl1 := (hk1244 0 rfl).trans e1224_0
          have e1244_3 : a1244.eval (.tmp 3) = .int .i64 (l1.length : Int) := (hk1244 3 rfl).trans e1224_3
          have e1244_34 : a1244.eval (.tmp 34) = .int .i64 (l1.length : Int) := (hk1244 34 rfl).trans e1224_34
          obtain ⟨(f_35 : a1244.eval (.tmp 35) = .int .i64 (ad x1087 1)), -⟩ := hf1244 [1] rfl
          have e1244_35 := f_35
          have hX1244 := Evo.step hX1224 (fun _ => Nat.le_refl 0) hE1244 rfl
          have b1244_Al1 := RdO.evo rfl hE1244 b1224_Al1
          exact hn1166 _ _ _ hs ⟨own1244, hd1244, hz1244, e1244_0, e1244_3, e1244_34, e1244_35, hX1244, b1244_Al1⟩
      refine fl_exit ?_
      refine hp1169 _ _ _ rfl ?_
      replace hs := hz1166 _ hs
      refine hp1166 _ _ _ rfl ?_
      refine hx1011 _ _ ?_
      refine hn1009 _ _ ?_
      refine fl_seq (fun Q1245 hn1245 hp1245 => ?_)
      refine rg_plain_seq (n := 99) (rs := []) (own0 := own1168) (K := [])
          (bs := [0])
          (ds := [⟨[], [], [], Fct.val 2 (.bool true)⟩]) (by kernel_rfl) hz1168 hd1168 (fun _ h => nomatch h) ?_ ?_
      · refine steps_cons (fun own a wx hf hsl hE => ?_) ?_
        · exact sg_plain rfl rfl (or_assign rfl)
        exact steps_nil
      intro own1246 a1246 w1246 hd1246 hz1246 hk1246 hf1246 hE1246
      obtain ⟨(f_2 : a1246.eval (.tmp 2) = .bool true), -⟩ := hf1246 [0] rfl
      have e1246_2 := f_2
      have hX1246 := Evo.step hX1168 (fun _ => Nat.le_refl 0) hE1246 rfl
      refine fl_ret ?_
      refine hp1245 _ _ _ rfl ?_
      refine hp627.leaves _ _ _ rfl ?_
      obtain rfl := osome hs
      exact hret _ _ _ _ (.inl rfl) hd1246 (results1_ rfl (RVal.tmp_ e1246_2)) ⟨own1246, rfl, hX1246⟩

end Go.Proofs.Ythkmkmkcnljmaaa
