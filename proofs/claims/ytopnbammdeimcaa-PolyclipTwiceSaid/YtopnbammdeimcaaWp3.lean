/-
  Chapter 21. The walks.
-/
import Derived.Test.YtopnbammdeimcaaWp2
import Derived.Test.YtopnbammdeimcaaSp3
namespace Go.Proofs.Ytopnbammdeimcaa
open Go.RowKit
set_option linter.unusedVariables false
theorem rows_Right_w (w : World) (b1 : (Int × Int) × (Int × Int)) (r : Bool) (hs : rows_Right b1 = some r) :
    Calls Try.prog 14 #[.agg #[.int .i64 b1.1.1, .int .i64 b1.1.2, .int .i64 b1.2.1, .int .i64 b1.2.2]] w fun e w' => ∃ own' : Own, e = .returned (.bool r) ∧ Evo [] (fun _ => 0) own' w w' := by
  refine fl_enter (n := 27) rfl rfl rfl (Nat.le_of_ble_eq_true rfl) ?_
  intro a0 Q hd0 hz0 harg hret
  have ha0 := harg 0 _ rfl
  clear harg
  have hE0 : Evo [] (fun _ => 0) (fun _ => 0) w w := Evo.refl _ _ _
  refine rg_plain_seq (n := 27) (rs := []) (own0 := (fun _ => 0)) (K := [])
      (bs := [0, 0])
      (ds := [⟨[], [0], [], Fct.blk 20 1 (fun g => .pointer (some ⟨g, 0, none⟩)) 31 #[.int .i64 b1.1.1, .int .i64 b1.1.2, .int .i64 b1.2.1, .int .i64 b1.2.2]⟩,
      ⟨[], [], [], Fct.val 2 (.bool false)⟩]) (by kernel_rfl) hz0 hd0 (fun _ h => nomatch h) ?_ ?_
  · refine steps_cons (fun own a wx hf hsl hE => ?_) ?_
    · obtain ⟨s_0, -⟩ := hsl
      exact sg_plain rfl rfl (or_new [(0, .agg #[.int .i64 b1.1.1, .int .i64 b1.1.2, .int .i64 b1.2.1, .int .i64 b1.2.2])] rfl rfl ⟨(s_0.trans ha0), trivial⟩ (by kernel_rfl))
    refine steps_cons (fun own a wx hf hsl hE => ?_) ?_
    · exact sg_plain rfl rfl (or_assign rfl)
    exact steps_nil
  intro own21 a21 w21 hd21 hz21 hk21 hf21 hE21
  obtain ⟨⟨g19, (f_1 : a21.eval (.tmp 1) = .pointer (some ⟨g19, 0, none⟩)), (b_g19 : BlkO own21 20 w21 g19 31 #[.int .i64 b1.1.1, .int .i64 b1.1.2, .int .i64 b1.2.1, .int .i64 b1.2.2])⟩, -⟩ := hf21 [0] rfl
  have e21_1 := f_1
  have hX21 := Evo.step hE0 (fun _ => Nat.le_refl 0) hE21 rfl
  have b21_g19 := b_g19
  obtain ⟨r24, hr24, hs⟩ := obind hs
  obtain ⟨x25, hx25, hs⟩ := obind hs
  refine rg_plain_seq (n := 27) (rs := []) (own0 := own21) (K := [])
      (bs := [0, 1, 0, 4, 15, 31, 63, 127, 255, 511, 127, 1151, 3199, 8191, 16383, 32767, 65535, 131071, 262143, 65535, 589823, 1638399, 4194303, 8388607, 16777215])
      (ds := [⟨[], [1], [], Fct.val 3 (.pointer (some ⟨g19, 0, none⟩))⟩,
      ⟨[0], [], [], Fct.val 4 (.agg #[.int .i64 b1.1.1, .int .i64 b1.1.2])⟩,
      ⟨[], [1], [], Fct.val 5 (.pointer (some ⟨g19, 2, none⟩))⟩,
      ⟨[2], [], [], Fct.val 6 (.agg #[.int .i64 b1.2.1, .int .i64 b1.2.2])⟩,
      ⟨[1, 3], [], [], Fct.row 23 [] 7 25 R25 [b1.1, b1.2]⟩,
      ⟨[4], [], [], Fct.val 8 (.bool r24)⟩,
      ⟨[5], [], [], Fct.val 9 (.bool r24)⟩,
      ⟨[6], [1], [], Fct.cond r24 (some 10) (Fct.val 10 (.pointer (some ⟨g19, 0, none⟩)))⟩,
      ⟨[6, 7], [], [], Fct.cond r24 (some 11) (Fct.val 11 (.pointer (some ⟨g19, 0, none⟩)))⟩,
      ⟨[6, 8], [], [], Fct.cond r24 (some 12) (Fct.val 12 (.int .i64 b1.1.1))⟩,
      ⟨[6], [1], [], Fct.cond r24 (some 13) (Fct.val 13 (.pointer (some ⟨g19, 2, none⟩)))⟩,
      ⟨[6, 10], [], [], Fct.cond r24 (some 14) (Fct.val 14 (.pointer (some ⟨g19, 2, none⟩)))⟩,
      ⟨[6, 11], [], [], Fct.cond r24 (some 15) (Fct.val 15 (.int .i64 b1.2.1))⟩,
      ⟨[6, 9, 12], [], [], Fct.cond r24 (some 16) (Fct.val 16 (.bool (decide (b1.1.1 ≤ b1.2.1))))⟩,
      ⟨[6, 13], [], [], Fct.val 17 (.bool (r24 && (decide (b1.1.1 ≤ b1.2.1))))⟩,
      ⟨[14], [], [], Fct.val 18 (.bool (r24 && (decide (b1.1.1 ≤ b1.2.1))))⟩,
      ⟨[15], [1], [], Fct.cond (r24 && (decide (b1.1.1 ≤ b1.2.1))) (some 19) (Fct.val 19 (.pointer (some ⟨g19, 0, none⟩)))⟩,
      ⟨[15, 16], [], [], Fct.cond (r24 && (decide (b1.1.1 ≤ b1.2.1))) (some 20) (Fct.val 20 (.pointer (some ⟨g19, 1, none⟩)))⟩,
      ⟨[15, 17], [], [], Fct.cond (r24 && (decide (b1.1.1 ≤ b1.2.1))) (some 21) (Fct.val 21 (.int .i64 b1.1.2))⟩,
      ⟨[15], [1], [], Fct.cond (r24 && (decide (b1.1.1 ≤ b1.2.1))) (some 22) (Fct.val 22 (.pointer (some ⟨g19, 2, none⟩)))⟩,
      ⟨[15, 19], [], [], Fct.cond (r24 && (decide (b1.1.1 ≤ b1.2.1))) (some 23) (Fct.val 23 (.pointer (some ⟨g19, 3, none⟩)))⟩,
      ⟨[15, 20], [], [], Fct.cond (r24 && (decide (b1.1.1 ≤ b1.2.1))) (some 24) (Fct.val 24 (.int .i64 b1.2.2))⟩,
      ⟨[15, 18, 21], [], [], Fct.cond (r24 && (decide (b1.1.1 ≤ b1.2.1))) (some 25) (Fct.val 25 (.bool (decide (b1.1.2 ≤ b1.2.2))))⟩,
      ⟨[15, 22], [], [], Fct.val 26 (.bool x25)⟩,
      ⟨[23], [], [], Fct.val 2 (.bool x25)⟩]) (by kernel_rfl) hz21 hd21 (fun _ h => nomatch h) ?_ ?_
  · refine steps_cons (fun own a wx hf hsl hE => ?_) ?_
    · obtain ⟨s_1, -⟩ := hsl
      exact sg_plain rfl rfl (or_field fo31_0 (s_1.trans e21_1) (by rfl))
    refine steps_cons (fun own a wx hf hsl hE => ?_) ?_
    · obtain ⟨(f_3 : a.eval (.tmp 3) = .pointer (some ⟨g19, 0, none⟩)), -⟩ := hf
      exact sg_plain rfl rfl (or_load (l := [.int .i64 b1.1.1, .int .i64 b1.1.2]) ta25 f_3 (Blk.cellsFrom (BlkO.evo (by decide) hE b21_g19).2 0 rfl) rfl)
    refine steps_cons (fun own a wx hf hsl hE => ?_) ?_
    · obtain ⟨s_1, -⟩ := hsl
      exact sg_plain rfl rfl (or_field fo31_1 (s_1.trans e21_1) (by rfl))
    refine steps_cons (fun own a wx hf hsl hE => ?_) ?_
    · obtain ⟨(f_5 : a.eval (.tmp 5) = .pointer (some ⟨g19, 2, none⟩)), -⟩ := hf
      exact sg_plain rfl rfl (or_load (l := [.int .i64 b1.2.1, .int .i64 b1.2.2]) ta25 f_5 (Blk.cellsFrom (BlkO.evo (by decide) hE b21_g19).2 2 rfl) rfl)
    refine steps_cons (fun own a wx hf hsl hE => ?_) ?_
    · obtain ⟨(f_4 : a.eval (.tmp 4) = .agg #[.int .i64 b1.1.1, .int .i64 b1.1.2]), (f_6 : a.eval (.tmp 6) = .agg #[.int .i64 b1.2.1, .int .i64 b1.2.2]), -⟩ := hf
      exact sg_plain rfl rfl (or_lit (lab := 23) (e := 25) (cs := #[.int .i64 b1.1.1, .int .i64 b1.1.2, .int .i64 b1.2.1, .int .i64 b1.2.2]) (F := E25) (or_new [(4, .agg #[.int .i64 b1.1.1, .int .i64 b1.1.2]), (6, .agg #[.int .i64 b1.2.1, .int .i64 b1.2.2])] rfl rfl ⟨f_4, f_6, trivial⟩ (by kernel_rfl)) rfl rfl (show 2 ≤ maxLen by decide))
    refine steps_cons (fun own a wx hf hsl hE => ?_) ?_
    · obtain ⟨⟨⟨A22, cA22⟩, (f_7 : a.eval (.tmp 7) = .slice A22 [b1.1, b1.2].length cA22), (b_A22 : RwO own 23 [] wx 25 R25 A22 cA22 [b1.1, b1.2])⟩, -⟩ := hf
      exact sg_plain rfl rfl (or_call cf24 (args1 f_7) (exact_Right_w _ [b1.1, b1.2] A22 cA22 (RdO.zero (RwO.rd b_A22)) r24 hr24) post_val)
    refine steps_cons (fun own a wx hf hsl hE => ?_) ?_
    · obtain ⟨(f_8 : a.eval (.tmp 8) = .bool r24), -⟩ := hf
      exact sg_plain rfl rfl (or_move f_8)
    refine steps_cons (fun own a wx hf hsl hE => ?_) ?_
    · obtain ⟨(f_9 : a.eval (.tmp 9) = .bool r24), -⟩ := hf
      obtain ⟨s_1, -⟩ := hsl
      refine sg_t rfl rfl rfl f_9 (fun hg => ?_)
      exact or_field fo31_0 (s_1.trans e21_1) (by rfl)
    refine steps_cons (fun own a wx hf hsl hE => ?_) ?_
    · obtain ⟨(f_9 : a.eval (.tmp 9) = .bool r24), c_10, -⟩ := hf
      refine sg_t rfl rfl rfl f_9 (fun hg => ?_)
      have f_10 : a.eval (.tmp 10) = .pointer (some ⟨g19, 0, none⟩) := c_10.1 hg
      exact or_field fo25_0 f_10 (by rfl)
    refine steps_cons (fun own a wx hf hsl hE => ?_) ?_
    · obtain ⟨(f_9 : a.eval (.tmp 9) = .bool r24), c_11, -⟩ := hf
      refine sg_t rfl rfl rfl f_9 (fun hg => ?_)
      have f_11 : a.eval (.tmp 11) = .pointer (some ⟨g19, 0, none⟩) := c_11.1 hg
      exact or_load1 to3 f_11 (Blk.at_ (BlkO.evo (by decide) hE b21_g19).2 0 rfl)
    refine steps_cons (fun own a wx hf hsl hE => ?_) ?_
    · obtain ⟨(f_9 : a.eval (.tmp 9) = .bool r24), -⟩ := hf
      obtain ⟨s_1, -⟩ := hsl
      refine sg_t rfl rfl rfl f_9 (fun hg => ?_)
      exact or_field fo31_1 (s_1.trans e21_1) (by rfl)
    refine steps_cons (fun own a wx hf hsl hE => ?_) ?_
    · obtain ⟨(f_9 : a.eval (.tmp 9) = .bool r24), c_13, -⟩ := hf
      refine sg_t rfl rfl rfl f_9 (fun hg => ?_)
      have f_13 : a.eval (.tmp 13) = .pointer (some ⟨g19, 2, none⟩) := c_13.1 hg
      exact or_field fo25_0 f_13 (by rfl)
    refine steps_cons (fun own a wx hf hsl hE => ?_) ?_
    · obtain ⟨(f_9 : a.eval (.tmp 9) = .bool r24), c_14, -⟩ := hf
      refine sg_t rfl rfl rfl f_9 (fun hg => ?_)
      have f_14 : a.eval (.tmp 14) = .pointer (some ⟨g19, 2, none⟩) := c_14.1 hg
      exact or_load1 to3 f_14 (Blk.at_ (BlkO.evo (by decide) hE b21_g19).2 2 rfl)
    refine steps_cons (fun own a wx hf hsl hE => ?_) ?_
    · obtain ⟨(f_9 : a.eval (.tmp 9) = .bool r24), c_12, c_15, -⟩ := hf
      refine sg_t rfl rfl rfl f_9 (fun hg => ?_)
      have f_12 : a.eval (.tmp 12) = .int .i64 b1.1.1 := c_12.1 hg
      have f_15 : a.eval (.tmp 15) = .int .i64 b1.2.1 := c_15.1 hg
      exact or_leq f_12 f_15 rfl
    refine steps_cons (fun own a wx hf hsl hE => ?_) ?_
    · obtain ⟨(f_9 : a.eval (.tmp 9) = .bool r24), c_16, -⟩ := hf
      exact sg_plain rfl rfl (or_and f_9 (fun hx => c_16.1 hx) rfl rfl)
    refine steps_cons (fun own a wx hf hsl hE => ?_) ?_
    · obtain ⟨(f_17 : a.eval (.tmp 17) = .bool (r24 && (decide (b1.1.1 ≤ b1.2.1)))), -⟩ := hf
      exact sg_plain rfl rfl (or_move f_17)
    refine steps_cons (fun own a wx hf hsl hE => ?_) ?_
    · obtain ⟨(f_18 : a.eval (.tmp 18) = .bool (r24 && (decide (b1.1.1 ≤ b1.2.1)))), -⟩ := hf
      obtain ⟨s_1, -⟩ := hsl
      refine sg_t rfl rfl rfl f_18 (fun hg => ?_)
      exact or_field fo31_0 (s_1.trans e21_1) (by rfl)
    refine steps_cons (fun own a wx hf hsl hE => ?_) ?_
    · obtain ⟨(f_18 : a.eval (.tmp 18) = .bool (r24 && (decide (b1.1.1 ≤ b1.2.1)))), c_19, -⟩ := hf
      refine sg_t rfl rfl rfl f_18 (fun hg => ?_)
      have f_19 : a.eval (.tmp 19) = .pointer (some ⟨g19, 0, none⟩) := c_19.1 hg
      exact or_field fo25_1 f_19 (by rfl)
    refine steps_cons (fun own a wx hf hsl hE => ?_) ?_
    · obtain ⟨(f_18 : a.eval (.tmp 18) = .bool (r24 && (decide (b1.1.1 ≤ b1.2.1)))), c_20, -⟩ := hf
      refine sg_t rfl rfl rfl f_18 (fun hg => ?_)
      have f_20 : a.eval (.tmp 20) = .pointer (some ⟨g19, 1, none⟩) := c_20.1 hg
      exact or_load1 to3 f_20 (Blk.at_ (BlkO.evo (by decide) hE b21_g19).2 1 rfl)
    refine steps_cons (fun own a wx hf hsl hE => ?_) ?_
    · obtain ⟨(f_18 : a.eval (.tmp 18) = .bool (r24 && (decide (b1.1.1 ≤ b1.2.1)))), -⟩ := hf
      obtain ⟨s_1, -⟩ := hsl
      refine sg_t rfl rfl rfl f_18 (fun hg => ?_)
      exact or_field fo31_1 (s_1.trans e21_1) (by rfl)
    refine steps_cons (fun own a wx hf hsl hE => ?_) ?_
    · obtain ⟨(f_18 : a.eval (.tmp 18) = .bool (r24 && (decide (b1.1.1 ≤ b1.2.1)))), c_22, -⟩ := hf
      refine sg_t rfl rfl rfl f_18 (fun hg => ?_)
      have f_22 : a.eval (.tmp 22) = .pointer (some ⟨g19, 2, none⟩) := c_22.1 hg
      exact or_field fo25_1 f_22 (by rfl)
    refine steps_cons (fun own a wx hf hsl hE => ?_) ?_
    · obtain ⟨(f_18 : a.eval (.tmp 18) = .bool (r24 && (decide (b1.1.1 ≤ b1.2.1)))), c_23, -⟩ := hf
      refine sg_t rfl rfl rfl f_18 (fun hg => ?_)
      have f_23 : a.eval (.tmp 23) = .pointer (some ⟨g19, 3, none⟩) := c_23.1 hg
      exact or_load1 to3 f_23 (Blk.at_ (BlkO.evo (by decide) hE b21_g19).2 3 rfl)
    refine steps_cons (fun own a wx hf hsl hE => ?_) ?_
    · obtain ⟨(f_18 : a.eval (.tmp 18) = .bool (r24 && (decide (b1.1.1 ≤ b1.2.1)))), c_21, c_24, -⟩ := hf
      refine sg_t rfl rfl rfl f_18 (fun hg => ?_)
      have f_21 : a.eval (.tmp 21) = .int .i64 b1.1.2 := c_21.1 hg
      have f_24 : a.eval (.tmp 24) = .int .i64 b1.2.2 := c_24.1 hg
      exact or_leq f_21 f_24 rfl
    refine steps_cons (fun own a wx hf hsl hE => ?_) ?_
    · obtain ⟨(f_18 : a.eval (.tmp 18) = .bool (r24 && (decide (b1.1.1 ≤ b1.2.1)))), c_25, -⟩ := hf
      exact sg_plain rfl rfl (or_and f_18 (fun hx => c_25.1 hx) rfl (osome hx25).symm)
    refine steps_cons (fun own a wx hf hsl hE => ?_) ?_
    · obtain ⟨(f_26 : a.eval (.tmp 26) = .bool x25), -⟩ := hf
      exact sg_plain rfl rfl (or_assign f_26)
    exact steps_nil
  intro own26 a26 w26 hd26 hz26 hk26 hf26 hE26
  obtain ⟨(f_2 : a26.eval (.tmp 2) = .bool x25), -⟩ := hf26 [24] rfl
  have e26_2 := f_2
  have hX26 := Evo.step hX21 (fun _ => Nat.le_refl 0) hE26 rfl
  refine fl_ret ?_
  obtain rfl := (osome hs).symm
  exact hret _ _ _ _ (.inl rfl) hd26 (results1_ rfl (RVal.tmp_ e26_2)) ⟨own26, rfl, hX26⟩

set_option maxHeartbeats 2000000 in
theorem slices_Compact_api_Point_api_Point_w (w : World) (own : Own) (s1 : List (Int × Int)) (As1 : Option Addr) (cs1 : Nat) (hown : ∀ b, own b ≤ 1) (hs1 : RwO own 1 [] w 25 R25 As1 cs1 s1) (r : List (Int × Int)) (hs : slices_Compact_api_Point_api_Point s1 = some r) :
    Calls Try.prog 29 #[.slice As1 s1.length cs1] w fun e w' => ∃ (own' : Own) (x : Option Addr × Nat), e = .returned (.slice x.1 r.length x.2) ∧ Evo [1] own own' w w' ∧ RwO own' 2 [] w' 25 R25 x.1 x.2 r := by
  refine fl_enter (n := 61) rfl rfl rfl (Nat.le_of_ble_eq_true rfl) ?_
  intro a0 Q hd0 hz0 harg hret
  have ha0 := harg 0 _ rfl
  clear harg
  have hE0 : Evo [1] own own w w := Evo.refl _ _ _
  refine rg_plain_seq (n := 61) (rs := []) (own0 := own) (K := [])
      (bs := [0])
      (ds := [⟨[], [], [], Fct.val 2 (.slice none 0 0)⟩]) (by kernel_rfl) hz0 hd0 (fun _ h => nomatch h) ?_ ?_
  · refine steps_cons (fun own a wx hf hsl hE => ?_) ?_
    · exact sg_plain rfl rfl (or_assign rfl)
    exact steps_nil
  intro own914 a914 w914 hd914 hz914 hk914 hf914 hE914
  have e914_0 : a914.eval (.tmp 0) = .slice As1 s1.length cs1 := (hk914 0 rfl).trans ha0
  have hX914 := Evo.step hE0 hown hE914 rfl
  have b914_As1 := RwO.evo rfl hE914 hs1
  refine fl_seq (fun Q915 hn915 hp915 => ?_)
  refine rg_plain_seq (n := 61) (rs := []) (own0 := own914) (K := [])
      (bs := [0, 1, 3])
      (ds := [⟨[], [0], [], Fct.val 6 (.slice As1 s1.length cs1)⟩,
      ⟨[0], [], [], Fct.val 7 (.int .i64 (s1.length : Int))⟩,
      ⟨[1], [], [], Fct.val 8 (.bool (decide ((s1.length : Int) < 2)))⟩]) (by kernel_rfl) hz914 hd914 (fun _ h => nomatch h) ?_ ?_
  · refine steps_cons (fun own a wx hf hsl hE => ?_) ?_
    · obtain ⟨s_0, -⟩ := hsl
      exact sg_plain rfl rfl (or_move (s_0.trans e914_0))
    refine steps_cons (fun own a wx hf hsl hE => ?_) ?_
    · obtain ⟨(f_6 : a.eval (.tmp 6) = .slice As1 s1.length cs1), -⟩ := hf
      exact sg_plain rfl rfl (or_len tu22 f_6 rfl)
    refine steps_cons (fun own a wx hf hsl hE => ?_) ?_
    · obtain ⟨(f_7 : a.eval (.tmp 7) = .int .i64 (s1.length : Int)), -⟩ := hf
      exact sg_plain rfl rfl (or_lss f_7 rfl rfl)
    exact steps_nil
  intro own916 a916 w916 hd916 hz916 hk916 hf916 hE916
  have e916_0 : a916.eval (.tmp 0) = .slice As1 s1.length cs1 := (hk916 0 rfl).trans e914_0
  obtain ⟨(f_8 : a916.eval (.tmp 8) = .bool (decide ((s1.length : Int) < 2))), -⟩ := hf916 [2] rfl
  have e916_8 := f_8
  have hX916 := Evo.step hX914 hown hE916 rfl
  have b916_As1 := RwO.evo rfl hE916 b914_As1
  refine fl_cond e916_8 hs (fun c917 hs => ?_) (fun c917 hs => ?_)
  · refine rg_plain_seq (n := 61) (rs := []) (own0 := own916) (K := [])
        (bs := [0, 1])
        (ds := [⟨[], [0], [], Fct.val 9 (.slice As1 s1.length cs1)⟩,
        ⟨[0], [], [], Fct.val 2 (.slice As1 s1.length cs1)⟩]) (by kernel_rfl) hz916 hd916 (fun _ h => nomatch h) ?_ ?_
    · refine steps_cons (fun own a wx hf hsl hE => ?_) ?_
      · obtain ⟨s_0, -⟩ := hsl
        exact sg_plain rfl rfl (or_move (s_0.trans e916_0))
      refine steps_cons (fun own a wx hf hsl hE => ?_) ?_
      · obtain ⟨(f_9 : a.eval (.tmp 9) = .slice As1 s1.length cs1), -⟩ := hf
        exact sg_plain rfl rfl (or_assign f_9)
      exact steps_nil
    intro own918 a918 w918 hd918 hz918 hk918 hf918 hE918
    obtain ⟨(f_2 : a918.eval (.tmp 2) = .slice As1 s1.length cs1), -⟩ := hf918 [1] rfl
    have e918_2 := f_2
    have hX918 := Evo.step hX916 hown hE918 rfl
    have b918_As1 := RwO.evo rfl hE918 b916_As1
    refine fl_ret ?_
    refine hp915 _ _ _ rfl ?_
    obtain rfl := (osome hs).symm
    exact hret _ _ _ _ (.inl rfl) hd918 (results1_ rfl (RVal.tmp_ e918_2)) ⟨(rl [(1, 2)] own918), (As1, cs1), rfl, (Evo.rl_ hX918 hown rfl), (RwO.rl_ (mm := [(1, 2)]) b918_As1)⟩
  refine fl_skip ?_
  refine hn915 _ _ ?_
  refine fl_seq (fun Q919 hn919 hp919 => ?_)
  refine rg_plain_seq (n := 61) (rs := []) (own0 := own916) (K := [])
      (bs := [0])
      (ds := [⟨[], [], [], Fct.val 3 (.int .i64 1)⟩]) (by kernel_rfl) hz916 hd916 (fun _ h => nomatch h) ?_ ?_
  · refine steps_cons (fun own a wx hf hsl hE => ?_) ?_
    · exact sg_plain rfl rfl (or_assign rfl)
    exact steps_nil
  intro own920 a920 w920 hd920 hz920 hk920 hf920 hE920
  have e920_0 : a920.eval (.tmp 0) = .slice As1 s1.length cs1 := (hk920 0 rfl).trans e916_0
  obtain ⟨(f_3 : a920.eval (.tmp 3) = .int .i64 1), -⟩ := hf920 [0] rfl
  have e920_3 := f_3
  have hX920 := Evo.step hX916 hown hE920 rfl
  have b920_As1 := RwO.evo rfl hE920 b916_As1
  refine fl_block (fun Q921 hn921 hx921 hp921 => ?_)
  refine fl_loop (body := (fun s => slices_Compact_api_Point_api_Point_b1 s1 s)) (z := r) (show loopO _ _ = _ from hs) (fun (k1219 : Int) a wx => ∃ (ox : Own), a.defers = [] ∧ a.tmps.size = 61 ∧ a.eval (.tmp 0) = .slice As1 s1.length cs1 ∧ a.eval (.tmp 3) = .int .i64 k1219 ∧ Evo [1] own ox w wx ∧ RwO ox 1 [] wx 25 R25 As1 cs1 s1) ?_ ?_
  · exact ⟨own920, hd920, hz920, e920_0, e920_3, hX920, b920_As1⟩
  · rintro k1219 zz1517 a1517 w1517 ⟨own1517, hd1518, hz1518, e1518_0, e1518_3, hE1518, b1518_As1⟩ hs Q1517 hn1517 hp1517 hz1517
    have hs : slices_Compact_api_Point_api_Point_b1 s1 k1219 = some zz1517 := hs
    refine fl_seq (fun Q1519 hn1519 hp1519 => ?_)
    refine rg_plain_seq (n := 61) (rs := []) (own0 := own1517) (K := [])
        (bs := [0, 0, 2, 7])
        (ds := [⟨[], [3], [], Fct.val 10 (.int .i64 k1219)⟩,
        ⟨[], [0], [], Fct.val 11 (.slice As1 s1.length cs1)⟩,
        ⟨[1], [], [], Fct.val 12 (.int .i64 (s1.length : Int))⟩,
        ⟨[0, 2], [], [], Fct.val 13 (.bool (decide (k1219 < (s1.length : Int))))⟩]) (by kernel_rfl) hz1518 hd1518 (fun _ h => nomatch h) ?_ ?_
    · refine steps_cons (fun own a wx hf hsl hE => ?_) ?_
      · obtain ⟨s_3, -⟩ := hsl
        exact sg_plain rfl rfl (or_move (s_3.trans e1518_3))
      refine steps_cons (fun own a wx hf hsl hE => ?_) ?_
      · obtain ⟨s_0, -⟩ := hsl
        exact sg_plain rfl rfl (or_move (s_0.trans e1518_0))
      refine steps_cons (fun own a wx hf hsl hE => ?_) ?_
      · obtain ⟨(f_11 : a.eval (.tmp 11) = .slice As1 s1.length cs1), -⟩ := hf
        exact sg_plain rfl rfl (or_len tu22 f_11 rfl)
      refine steps_cons (fun own a wx hf hsl hE => ?_) ?_
      · obtain ⟨(f_10 : a.eval (.tmp 10) = .int .i64 k1219), (f_12 : a.eval (.tmp 12) = .int .i64 (s1.length : Int)), -⟩ := hf
        exact sg_plain rfl rfl (or_lss f_10 f_12 rfl)
      exact steps_nil
    intro own1520 a1520 w1520 hd1520 hz1520 hk1520 hf1520 hE1520
    have e1520_0 : a1520.eval (.tmp 0) = .slice As1 s1.length cs1 := (hk1520 0 rfl).trans e1518_0
    have e1520_3 : a1520.eval (.tmp 3) = .int .i64 k1219 := (hk1520 3 rfl).trans e1518_3
    obtain ⟨(f_13 : a1520.eval (.tmp 13) = .bool (decide (k1219 < (s1.length : Int)))), -⟩ := hf1520 [3] rfl
    have e1520_13 := f_13
    have hX1520 := Evo.step hE1518 hown hE1520 rfl
    have b1520_As1 := RwO.evo rfl hE1520 b1518_As1
    refine fl_cond e1520_13 hs (fun c1521 hs => ?_) (fun c1521 hs => ?_)
    · refine fl_skip ?_
      refine hn1519 _ _ ?_
      refine fl_seq (fun Q1522 hn1522 hp1522 => ?_)
      refine fl_block (fun Q1523 hn1523 hx1523 hp1523 => ?_)
      obtain ⟨x1524, hx1524, hs⟩ := obind hs
      obtain ⟨x1525, hx1525, hs⟩ := obind hs
      refine rg_draw_seq g_mixed (n := 61) (rs := []) (own0 := own1520) (K := [])
          (bs := [0, 0, 3, 7, 0, 0, 32, 112, 240, 511])
          (ds := [⟨[], [0], [], Fct.val 16 (.slice As1 s1.length cs1)⟩,
          ⟨[], [3], [], Fct.val 17 (.int .i64 k1219)⟩,
          ⟨[0, 1], [], [], Fct.val 18 (.pointer (some ((adr As1).add ((k1219 : Int).toNat * R25.s))))⟩,
          ⟨[2], [], [], Fct.val 19 (.agg #[.int .i64 x1524.1, .int .i64 x1524.2])⟩,
          ⟨[], [0], [], Fct.val 20 (.slice As1 s1.length cs1)⟩,
          ⟨[], [3], [], Fct.val 21 (.int .i64 k1219)⟩,
          ⟨[5], [], [], Fct.val 22 (.int .i64 (sb k1219 1))⟩,
          ⟨[4, 6], [], [], Fct.val 23 (.pointer (some ((adr As1).add ((sb k1219 1 : Int).toNat * R25.s))))⟩,
          ⟨[7], [], [], Fct.val 24 (.agg #[.int .i64 x1525.1, .int .i64 x1525.2])⟩,
          ⟨[3, 8], [], [], Fct.val 25 (.bool (decide (x1524 = x1525)))⟩]) (by kernel_rfl) hz1520 hd1520 (fun _ h => nomatch h) ?_ ?_
      · refine steps_cons (fun own a wx hf hsl hE => ?_) ?_
        · obtain ⟨s_0, -⟩ := hsl
          exact sg_plain rfl rfl (or_move (s_0.trans e1520_0))
        refine steps_cons (fun own a wx hf hsl hE => ?_) ?_
        · obtain ⟨s_3, -⟩ := hsl
          exact sg_plain rfl rfl (or_move (s_3.trans e1520_3))
        refine steps_cons (fun own a wx hf hsl hE => ?_) ?_
        · obtain ⟨(f_16 : a.eval (.tmp 16) = .slice As1 s1.length cs1), (f_17 : a.eval (.tmp 17) = .int .i64 k1219), -⟩ := hf
          exact sg_plain rfl rfl (or_index (R := R25) (l := s1) tl22 f_16 f_17 (RdO.some_ (RwO.rd b1520_As1) hx1524) hx1524)
        refine steps_cons (fun own a wx hf hsl hE => ?_) ?_
        · obtain ⟨(f_18 : a.eval (.tmp 18) = .pointer (some ((adr As1).add ((k1219 : Int).toNat * R25.s)))), -⟩ := hf
          exact sg_plain rfl rfl (or_load (l := E25.f x1524) ta25 f_18 (RdO.cells (F := E25) (RwO.rd (RwO.evo rfl hE b1520_As1)) hx1524) rfl)
        refine steps_cons (fun own a wx hf hsl hE => ?_) ?_
        · obtain ⟨s_0, -⟩ := hsl
          exact sg_plain rfl rfl (or_move (s_0.trans e1520_0))
        refine steps_cons (fun own a wx hf hsl hE => ?_) ?_
        · obtain ⟨s_3, -⟩ := hsl
          exact sg_plain rfl rfl (or_move (s_3.trans e1520_3))
        refine steps_cons (fun own a wx hf hsl hE => ?_) ?_
        · obtain ⟨(f_21 : a.eval (.tmp 21) = .int .i64 k1219), -⟩ := hf
          exact sg_plain rfl rfl (or_sub f_21 rfl rfl)
        refine steps_cons (fun own a wx hf hsl hE => ?_) ?_
        · obtain ⟨(f_20 : a.eval (.tmp 20) = .slice As1 s1.length cs1), (f_22 : a.eval (.tmp 22) = .int .i64 (sb k1219 1)), -⟩ := hf
          exact sg_plain rfl rfl (or_index (R := R25) (l := s1) tl22 f_20 f_22 (RdO.some_ (RwO.rd b1520_As1) hx1525) hx1525)
        refine steps_cons (fun own a wx hf hsl hE => ?_) ?_
        · obtain ⟨(f_23 : a.eval (.tmp 23) = .pointer (some ((adr As1).add ((sb k1219 1 : Int).toNat * R25.s)))), -⟩ := hf
          exact sg_plain rfl rfl (or_load (l := E25.f x1525) ta25 f_23 (RdO.cells (F := E25) (RwO.rd (RwO.evo rfl hE b1520_As1)) hx1525) rfl)
        refine steps_cons (fun own a wx hf hsl hE => ?_) ?_
        · obtain ⟨(f_19 : a.eval (.tmp 19) = .agg #[.int .i64 x1524.1, .int .i64 x1524.2]), (f_24 : a.eval (.tmp 24) = .agg #[.int .i64 x1525.1, .int .i64 x1525.2]), -⟩ := hf
          exact sg_plain rfl rfl (or_eqlA sg25 f_19 f_24 (se25 x1524.1 x1524.2 x1525.1 x1525.2 _) rfl)
        exact steps_nil
      intro own1526 a1526 w1526 hd1526 hz1526 hk1526 hf1526 hE1526
      have e1526_0 : a1526.eval (.tmp 0) = .slice As1 s1.length cs1 := (hk1526 0 rfl).trans e1520_0
      have e1526_3 : a1526.eval (.tmp 3) = .int .i64 k1219 := (hk1526 3 rfl).trans e1520_3
      obtain ⟨(f_25 : a1526.eval (.tmp 25) = .bool (decide (x1524 = x1525))), -⟩ := hf1526 [9] rfl
      have e1526_25 := f_25
      have hX1526 := Evo.step hX1520 hown hE1526 rfl
      have b1526_As1 := RwO.evo rfl hE1526 b1520_As1
      refine fl_cond e1526_25 hs (fun c1527 hs => ?_) (fun c1527 hs => ?_)
      · obtain ⟨x1528, hx1528, hs⟩ := obind hs
        obtain ⟨n1530, hn1530, hs⟩ := obind hs
        refine rg_plain_seq (n := 61) (rs := []) (own0 := own1526) (K := [])
            (bs := [0, 0, 3, 7])
            (ds := [⟨[], [0], [], Fct.val 26 (.slice As1 s1.length cs1)⟩,
            ⟨[], [3], [], Fct.val 27 (.int .i64 k1219)⟩,
            ⟨[0, 1], [], [], Fct.val 28 (pieceV As1 cs1 R25.s k1219 n1530)⟩,
            ⟨[2], [], [], Fct.val 4 (pieceV As1 cs1 R25.s k1219 n1530)⟩]) (by kernel_rfl) hz1526 hd1526 (fun _ h => nomatch h) ?_ ?_
        · refine steps_cons (fun own a wx hf hsl hE => ?_) ?_
          · obtain ⟨s_0, -⟩ := hsl
            exact sg_plain rfl rfl (or_move (s_0.trans e1526_0))
          refine steps_cons (fun own a wx hf hsl hE => ?_) ?_
          · obtain ⟨s_3, -⟩ := hsl
            exact sg_plain rfl rfl (or_move (s_3.trans e1526_3))
          refine steps_cons (fun own a wx hf hsl hE => ?_) ?_
          · obtain ⟨(f_26 : a.eval (.tmp 26) = .slice As1 s1.length cs1), (f_27 : a.eval (.tmp 27) = .int .i64 k1219), -⟩ := hf
            exact sg_plain rfl rfl (or_pieceW (R := R25) tu22 ts25 f_26 (Bnd.some_ f_27) (Bnd.noneE (osome hn1530)) (RwO.rd (RwO.evo rfl hE b1526_As1)) (cut_toE hn1530 hx1528))
          refine steps_cons (fun own a wx hf hsl hE => ?_) ?_
          · obtain ⟨(f_28 : a.eval (.tmp 28) = pieceV As1 cs1 R25.s k1219 n1530), -⟩ := hf
            exact sg_plain rfl rfl (or_assign f_28)
          exact steps_nil
        intro own1531 a1531 w1531 hd1531 hz1531 hk1531 hf1531 hE1531
        have e1531_0 : a1531.eval (.tmp 0) = .slice As1 s1.length cs1 := (hk1531 0 rfl).trans e1526_0
        have e1531_3 : a1531.eval (.tmp 3) = .int .i64 k1219 := (hk1531 3 rfl).trans e1526_3
        obtain ⟨(f_4 : a1531.eval (.tmp 4) = pieceV As1 cs1 R25.s k1219 n1530), -⟩ := hf1531 [3] rfl
        have e1531_4 := f_4
        have hX1531 := Evo.step hX1526 hown hE1531 rfl
        have b1531_As1 := RwO.evo rfl hE1531 b1526_As1
        refine fl_seq (fun Q1532 hn1532 hp1532 => ?_)
        refine rg_plain_seq (n := 61) (rs := []) (own0 := own1531) (K := [])
            (bs := [0])
            (ds := [⟨[], [], [], Fct.val 5 (.int .i64 1)⟩]) (by kernel_rfl) hz1531 hd1531 (fun _ h => nomatch h) ?_ ?_
        · refine steps_cons (fun own a wx hf hsl hE => ?_) ?_
          · exact sg_plain rfl rfl (or_assign rfl)
          exact steps_nil
        intro own1533 a1533 w1533 hd1533 hz1533 hk1533 hf1533 hE1533
        have e1533_0 : a1533.eval (.tmp 0) = .slice As1 s1.length cs1 := (hk1533 0 rfl).trans e1531_0
        have e1533_3 : a1533.eval (.tmp 3) = .int .i64 k1219 := (hk1533 3 rfl).trans e1531_3
        have e1533_4 : a1533.eval (.tmp 4) = pieceV As1 cs1 R25.s k1219 n1530 := (hk1533 4 rfl).trans e1531_4
        obtain ⟨(f_5 : a1533.eval (.tmp 5) = .int .i64 1), -⟩ := hf1533 [0] rfl
        have e1533_5 := f_5
        have hX1533 := Evo.step hX1531 hown hE1533 rfl
        have b1533_As1 := RwO.evo rfl hE1533 b1531_As1
        refine fl_block (fun Q1534 hn1534 hx1534 hp1534 => ?_)
        refine fl_loop (body := (fun s => slices_Compact_api_Point_api_Point_b2 k1219 n1530 s.1 s.2.1 s.2.2)) (z := zz1517) (show loopO _ _ = _ from hs) (fun (s : (List (Int × Int)) × Int × Int) a wx => match s with | (s1621, k1623, k1624) => ∃ (ox : Own), a.defers = [] ∧ a.tmps.size = 61 ∧ a.eval (.tmp 0) = .slice As1 s1621.length cs1 ∧ a.eval (.tmp 3) = .int .i64 k1623 ∧ a.eval (.tmp 4) = pieceV As1 cs1 R25.s k1219 n1530 ∧ a.eval (.tmp 5) = .int .i64 k1624 ∧ Evo [1] own ox w wx ∧ RwO ox 1622 [] wx 25 R25 As1 cs1 s1621) ?_ ?_
        · exact ⟨(rl [(1, 1622)] own1533), hd1533, hz1533, e1533_0, e1533_3, e1533_4, e1533_5, (Evo.rl_ hX1533 hown rfl), (RwO.rl_ (mm := [(1, 1622)]) b1533_As1)⟩
        · rintro ⟨s1621, k1623, k1624⟩ zz1711 a1711 w1711 ⟨own1711, hd1712, hz1712, e1712_0, e1712_3, e1712_4, e1712_5, hE1712, b1712_As1⟩ hs Q1711 hn1711 hp1711 hz1711
          have hs : slices_Compact_api_Point_api_Point_b2 k1219 n1530 s1621 k1623 k1624 = some zz1711 := hs
          refine fl_seq (fun Q1713 hn1713 hp1713 => ?_)
          refine rg_plain_seq (n := 61) (rs := []) (own0 := own1711) (K := [])
              (bs := [0, 0, 2, 7])
              (ds := [⟨[], [5], [], Fct.val 29 (.int .i64 k1624)⟩,
              ⟨[], [4], [], Fct.val 30 (pieceV As1 cs1 R25.s k1219 n1530)⟩,
              ⟨[1], [], [], Fct.val 31 (.int .i64 (n1530 - k1219))⟩,
              ⟨[0, 2], [], [], Fct.val 32 (.bool (decide (k1624 < (n1530 - k1219))))⟩]) (by kernel_rfl) hz1712 hd1712 (fun _ h => nomatch h) ?_ ?_
          · refine steps_cons (fun own a wx hf hsl hE => ?_) ?_
            · obtain ⟨s_5, -⟩ := hsl
              exact sg_plain rfl rfl (or_move (s_5.trans e1712_5))
            refine steps_cons (fun own a wx hf hsl hE => ?_) ?_
            · obtain ⟨s_4, -⟩ := hsl
              exact sg_plain rfl rfl (or_move (s_4.trans e1712_4))
            refine steps_cons (fun own a wx hf hsl hE => ?_) ?_
            · obtain ⟨(f_30 : a.eval (.tmp 30) = pieceV As1 cs1 R25.s k1219 n1530), -⟩ := hf
              exact sg_plain rfl rfl (or_lenW (R := R25) tu22 f_30 (cut_some hx1528).1 (cut_lt hn1530 hx1528).1 rfl)
            refine steps_cons (fun own a wx hf hsl hE => ?_) ?_
            · obtain ⟨(f_29 : a.eval (.tmp 29) = .int .i64 k1624), (f_31 : a.eval (.tmp 31) = .int .i64 (n1530 - k1219)), -⟩ := hf
              exact sg_plain rfl rfl (or_lss f_29 f_31 rfl)
            exact steps_nil
          intro own1714 a1714 w1714 hd1714 hz1714 hk1714 hf1714 hE1714
          have e1714_0 : a1714.eval (.tmp 0) = .slice As1 s1621.length cs1 := (hk1714 0 rfl).trans e1712_0
          have e1714_3 : a1714.eval (.tmp 3) = .int .i64 k1623 := (hk1714 3 rfl).trans e1712_3
          have e1714_4 : a1714.eval (.tmp 4) = pieceV As1 cs1 R25.s k1219 n1530 := (hk1714 4 rfl).trans e1712_4
          have e1714_5 : a1714.eval (.tmp 5) = .int .i64 k1624 := (hk1714 5 rfl).trans e1712_5
          obtain ⟨(f_32 : a1714.eval (.tmp 32) = .bool (decide (k1624 < (n1530 - k1219)))), -⟩ := hf1714 [3] rfl
          have e1714_32 := f_32
          have hX1714 := Evo.step hE1712 hown hE1714 rfl
          have b1714_As1 := RwO.evo rfl hE1714 b1712_As1
          refine fl_cond e1714_32 hs (fun c1715 hs => ?_) (fun c1715 hs => ?_)
          · refine fl_skip ?_
            refine hn1713 _ _ ?_
            refine fl_seq (fun Q1716 hn1716 hp1716 => ?_)
            refine fl_block (fun Q1757 hn1757 hx1757 hp1757 => ?_)
            have K1778 : ∀ (a1778 : Act) (w1778 : World) (own1778 : Own) (s1775 : List (Int × Int)) (k1777 : Int), a1778.defers = [] → a1778.tmps.size = 61 → a1778.eval (.tmp 0) = .slice As1 s1775.length cs1 → a1778.eval (.tmp 3) = .int .i64 k1777 → a1778.eval (.tmp 4) = pieceV As1 cs1 R25.s k1219 n1530 → a1778.eval (.tmp 5) = .int .i64 k1624 → Evo [1] own own1778 w w1778 → RwO own1778 1776 [] w1778 25 R25 As1 cs1 s1775 → slices_Compact_api_Point_api_Point_k3 k1624 s1775 k1777 = some zz1711 → (Q1757 .normal a1778 w1778 ∧ Q1757 (.exit 3) a1778 w1778) := by
              intro a1778 w1778 own1778 s1775 k1777 hd1779 hz1779 e1779_0 e1779_3 e1779_4 e1779_5 hE1779 b1779_As1 hs
              refine and_both (hn1757 _ _) (hx1757 _ _) ?_
              refine hn1716 _ _ ?_
              refine rg_plain (n := 61) (rs := []) (own0 := own1778) (K := [])
                  (bs := [0, 1, 3])
                  (ds := [⟨[], [5], [], Fct.val 33 (.int .i64 k1624)⟩,
                  ⟨[0], [], [], Fct.val 34 (.int .i64 (ad k1624 1))⟩,
                  ⟨[1], [], [], Fct.val 5 (.int .i64 (ad k1624 1))⟩]) (by kernel_rfl) hz1779 hd1779 (fun _ h => nomatch h) ?_ ?_
              · refine steps_cons (fun own a wx hf hsl hE => ?_) ?_
                · obtain ⟨s_5, -⟩ := hsl
                  exact sg_plain rfl rfl (or_move (s_5.trans e1779_5))
                refine steps_cons (fun own a wx hf hsl hE => ?_) ?_
                · obtain ⟨(f_33 : a.eval (.tmp 33) = .int .i64 k1624), -⟩ := hf
                  exact sg_plain rfl rfl (or_add f_33 rfl rfl)
                refine steps_cons (fun own a wx hf hsl hE => ?_) ?_
                · obtain ⟨(f_34 : a.eval (.tmp 34) = .int .i64 (ad k1624 1)), -⟩ := hf
                  exact sg_plain rfl rfl (or_assign f_34)
                exact steps_nil
              intro own1780 a1780 w1780 hd1780 hz1780 hk1780 hf1780 hE1780
              have e1780_0 : a1780.eval (.tmp 0) = .slice As1 s1775.length cs1 := (hk1780 0 rfl).trans e1779_0
              have e1780_3 : a1780.eval (.tmp 3) = .int .i64 k1777 := (hk1780 3 rfl).trans e1779_3
              have e1780_4 : a1780.eval (.tmp 4) = pieceV As1 cs1 R25.s k1219 n1530 := (hk1780 4 rfl).trans e1779_4
              obtain ⟨(f_5 : a1780.eval (.tmp 5) = .int .i64 (ad k1624 1)), -⟩ := hf1780 [2] rfl
              have e1780_5 := f_5
              have hX1780 := Evo.step hE1779 hown hE1780 rfl
              have b1780_As1 := RwO.evo rfl hE1780 b1779_As1
              exact hn1711 _ _ _ hs ⟨(rl [(1776, 1622)] own1780), hd1780, hz1780, e1780_0, e1780_3, e1780_4, e1780_5, (Evo.rl_ hX1780 hown rfl), (RwO.rl_ (mm := [(1776, 1622)]) b1780_As1)⟩
            obtain ⟨q1781, hq1781, hs⟩ := obind hs
            obtain ⟨x1782, hx1782, hs⟩ := obind hs
            obtain ⟨q1783, hq1783, hs⟩ := obind hs
            obtain ⟨x1784, hx1784, hs⟩ := obind hs
            refine rg_draw_seq g_mixed (n := 61) (rs := []) (own0 := own1714) (K := [])
                (bs := [0, 0, 3, 7, 0, 0, 32, 112, 240, 511])
                (ds := [⟨[], [4], [], Fct.val 35 (pieceV As1 cs1 R25.s k1219 n1530)⟩,
                ⟨[], [5], [], Fct.val 36 (.int .i64 k1624)⟩,
                ⟨[0, 1], [], [], Fct.val 37 (.pointer (some ((adr As1).add ((q1781 : Int).toNat * R25.s))))⟩,
                ⟨[2], [], [], Fct.val 38 (.agg #[.int .i64 x1782.1, .int .i64 x1782.2])⟩,
                ⟨[], [4], [], Fct.val 39 (pieceV As1 cs1 R25.s k1219 n1530)⟩,
                ⟨[], [5], [], Fct.val 40 (.int .i64 k1624)⟩,
                ⟨[5], [], [], Fct.val 41 (.int .i64 (sb k1624 1))⟩,
                ⟨[4, 6], [], [], Fct.val 42 (.pointer (some ((adr As1).add ((q1783 : Int).toNat * R25.s))))⟩,
                ⟨[7], [], [], Fct.val 43 (.agg #[.int .i64 x1784.1, .int .i64 x1784.2])⟩,
                ⟨[3, 8], [], [], Fct.val 44 (.bool (!decide (x1782 = x1784)))⟩]) (by kernel_rfl) hz1714 hd1714 (fun _ h => nomatch h) ?_ ?_
            · refine steps_cons (fun own a wx hf hsl hE => ?_) ?_
              · obtain ⟨s_4, -⟩ := hsl
                exact sg_plain rfl rfl (or_move (s_4.trans e1714_4))
              refine steps_cons (fun own a wx hf hsl hE => ?_) ?_
              · obtain ⟨s_5, -⟩ := hsl
                exact sg_plain rfl rfl (or_move (s_5.trans e1714_5))
              refine steps_cons (fun own a wx hf hsl hE => ?_) ?_
              · obtain ⟨(f_35 : a.eval (.tmp 35) = pieceV As1 cs1 R25.s k1219 n1530), (f_36 : a.eval (.tmp 36) = .int .i64 k1624), -⟩ := hf
                exact sg_plain rfl rfl (or_indexW (R := R25) tl22 f_35 f_36 (RdO.some_ (RwO.rd b1714_As1) hx1782) (cut_some hx1528).1 (piece_le (cut_toE hn1530 hx1528) (RwO.rd b1526_As1)) hq1781)
              refine steps_cons (fun own a wx hf hsl hE => ?_) ?_
              · obtain ⟨(f_37 : a.eval (.tmp 37) = .pointer (some ((adr As1).add ((q1781 : Int).toNat * R25.s)))), -⟩ := hf
                exact sg_plain rfl rfl (or_load (l := E25.f x1782) ta25 f_37 (RdO.cells (F := E25) (RwO.rd (RwO.evo rfl hE b1714_As1)) hx1782) rfl)
              refine steps_cons (fun own a wx hf hsl hE => ?_) ?_
              · obtain ⟨s_4, -⟩ := hsl
                exact sg_plain rfl rfl (or_move (s_4.trans e1714_4))
              refine steps_cons (fun own a wx hf hsl hE => ?_) ?_
              · obtain ⟨s_5, -⟩ := hsl
                exact sg_plain rfl rfl (or_move (s_5.trans e1714_5))
              refine steps_cons (fun own a wx hf hsl hE => ?_) ?_
              · obtain ⟨(f_40 : a.eval (.tmp 40) = .int .i64 k1624), -⟩ := hf
                exact sg_plain rfl rfl (or_sub f_40 rfl rfl)
              refine steps_cons (fun own a wx hf hsl hE => ?_) ?_
              · obtain ⟨(f_39 : a.eval (.tmp 39) = pieceV As1 cs1 R25.s k1219 n1530), (f_41 : a.eval (.tmp 41) = .int .i64 (sb k1624 1)), -⟩ := hf
                exact sg_plain rfl rfl (or_indexW (R := R25) tl22 f_39 f_41 (RdO.some_ (RwO.rd b1714_As1) hx1784) (cut_some hx1528).1 (piece_le (cut_toE hn1530 hx1528) (RwO.rd b1526_As1)) hq1783)
              refine steps_cons (fun own a wx hf hsl hE => ?_) ?_
              · obtain ⟨(f_42 : a.eval (.tmp 42) = .pointer (some ((adr As1).add ((q1783 : Int).toNat * R25.s)))), -⟩ := hf
                exact sg_plain rfl rfl (or_load (l := E25.f x1784) ta25 f_42 (RdO.cells (F := E25) (RwO.rd (RwO.evo rfl hE b1714_As1)) hx1784) rfl)
              refine steps_cons (fun own a wx hf hsl hE => ?_) ?_
              · obtain ⟨(f_38 : a.eval (.tmp 38) = .agg #[.int .i64 x1782.1, .int .i64 x1782.2]), (f_43 : a.eval (.tmp 43) = .agg #[.int .i64 x1784.1, .int .i64 x1784.2]), -⟩ := hf
                exact sg_plain rfl rfl (or_neqA sg25 f_38 f_43 (sn25 x1782.1 x1782.2 x1784.1 x1784.2 _) rfl)
              exact steps_nil
            intro own1785 a1785 w1785 hd1785 hz1785 hk1785 hf1785 hE1785
            have e1785_0 : a1785.eval (.tmp 0) = .slice As1 s1621.length cs1 := (hk1785 0 rfl).trans e1714_0
            have e1785_3 : a1785.eval (.tmp 3) = .int .i64 k1623 := (hk1785 3 rfl).trans e1714_3
            have e1785_4 : a1785.eval (.tmp 4) = pieceV As1 cs1 R25.s k1219 n1530 := (hk1785 4 rfl).trans e1714_4
            have e1785_5 : a1785.eval (.tmp 5) = .int .i64 k1624 := (hk1785 5 rfl).trans e1714_5
            obtain ⟨(f_44 : a1785.eval (.tmp 44) = .bool (!decide (x1782 = x1784))), -⟩ := hf1785 [9] rfl
            have e1785_44 := f_44
            have hX1785 := Evo.step hX1714 hown hE1785 rfl
            have b1785_As1 := RwO.evo rfl hE1785 b1714_As1
            refine fl_cond e1785_44 hs (fun c1786 hs => ?_) (fun c1786 hs => ?_)
            · obtain ⟨q1790, hq1790, hs⟩ := obind hs
              obtain ⟨x1791, hx1791, hs⟩ := obind hs
              obtain ⟨x1792, hx1792, hs⟩ := obind hs
              obtain ⟨l1793, hl1793, hs⟩ := obind hs
              refine rg_plain_seq (n := 61) (rs := [Fct.rowAt 1622 [] 25 R25 As1 cs1 s1621]) (own0 := own1785) (K := [1622])
                  (bs := [0, 0, 0, 0, 12, 28, 63, 127])
                  (ds := [⟨[], [0], [], Fct.val 45 (.slice As1 s1621.length cs1)⟩,
                  ⟨[], [3], [], Fct.val 46 (.int .i64 k1623)⟩,
                  ⟨[], [4], [], Fct.val 47 (pieceV As1 cs1 R25.s k1219 n1530)⟩,
                  ⟨[], [5], [], Fct.val 48 (.int .i64 k1624)⟩,
                  ⟨[2, 3, 8], [], [], Fct.val 49 (.pointer (some ((adr As1).add ((q1790 : Int).toNat * R25.s))))⟩,
                  ⟨[4, 8], [], [], Fct.val 50 (.agg #[.int .i64 x1791.1, .int .i64 x1791.2])⟩,
                  ⟨[0, 1], [], [], Fct.val 51 (.pointer (some ((adr As1).add ((k1623 : Int).toNat * R25.s))))⟩,
                  ⟨[6, 5, 8], [], [1622], Fct.rowAt 1794 [] 25 R25 As1 cs1 l1793⟩]) (by kernel_rfl) hz1785 hd1785 (by simp only [List.forall_mem_cons]; exact ⟨b1785_As1, fun _ h => nomatch h⟩) ?_ ?_
              · refine steps_cons (fun own a wx hf hsl hE => ?_) ?_
                · obtain ⟨s_0, -⟩ := hsl
                  exact sg_plain rfl rfl (or_move (s_0.trans e1785_0))
                refine steps_cons (fun own a wx hf hsl hE => ?_) ?_
                · obtain ⟨s_3, -⟩ := hsl
                  exact sg_plain rfl rfl (or_move (s_3.trans e1785_3))
                refine steps_cons (fun own a wx hf hsl hE => ?_) ?_
                · obtain ⟨s_4, -⟩ := hsl
                  exact sg_plain rfl rfl (or_move (s_4.trans e1785_4))
                refine steps_cons (fun own a wx hf hsl hE => ?_) ?_
                · obtain ⟨s_5, -⟩ := hsl
                  exact sg_plain rfl rfl (or_move (s_5.trans e1785_5))
                refine steps_cons (fun own a wx hf hsl hE => ?_) ?_
                · obtain ⟨(f_47 : a.eval (.tmp 47) = pieceV As1 cs1 R25.s k1219 n1530), (f_48 : a.eval (.tmp 48) = .int .i64 k1624), (b_As1 : RwO own 1622 [] wx 25 R25 As1 cs1 s1621), -⟩ := hf
                  exact sg_plain rfl rfl (or_indexW (R := R25) tl22 f_47 f_48 (RdO.some_ (RwO.rd b1785_As1) hx1791) (cut_some hx1528).1 (piece_le (cut_toE hn1530 hx1528) (RwO.rd b1526_As1)) hq1790)
                refine steps_cons (fun own a wx hf hsl hE => ?_) ?_
                · obtain ⟨(f_49 : a.eval (.tmp 49) = .pointer (some ((adr As1).add ((q1790 : Int).toNat * R25.s)))), (b_As1 : RwO own 1622 [] wx 25 R25 As1 cs1 s1621), -⟩ := hf
                  exact sg_plain rfl rfl (or_load (l := E25.f x1791) ta25 f_49 (RdO.cells (F := E25) (RwO.rd b_As1) hx1791) rfl)
                refine steps_cons (fun own a wx hf hsl hE => ?_) ?_
                · obtain ⟨(f_45 : a.eval (.tmp 45) = .slice As1 s1621.length cs1), (f_46 : a.eval (.tmp 46) = .int .i64 k1623), -⟩ := hf
                  exact sg_plain rfl rfl (or_index (R := R25) (l := s1621) tl22 f_45 f_46 (RdO.some_ (RwO.rd b1785_As1) hx1792) hx1792)
                refine steps_cons (fun own a wx hf hsl hE => ?_) ?_
                · obtain ⟨(f_51 : a.eval (.tmp 51) = .pointer (some ((adr As1).add ((k1623 : Int).toNat * R25.s)))), (f_50 : a.eval (.tmp 50) = .agg #[.int .i64 x1791.1, .int .i64 x1791.2]), (b_As1 : RwO own 1622 [] wx 25 R25 As1 cs1 s1621), -⟩ := hf
                  exact sg_plain rfl rfl (or_storeIx (R := R25) (lab := 1622) (lab2 := 1794) (cs := [.int .i64 x1791.1, .int .i64 x1791.2]) (v := x1791) ts25 f_51 f_50 rfl (Rep.fl_flat _) (fun _ _ => rfl) b_As1 hl1793 (mem_of rfl) (by decide) (fun own' a' w' ha hb => hb))
                exact steps_nil
              intro own1795 a1795 w1795 hd1795 hz1795 hk1795 hf1795 hE1795
              have e1795_0 : a1795.eval (.tmp 0) = .slice As1 s1621.length cs1 := (hk1795 0 rfl).trans e1785_0
              have e1795_3 : a1795.eval (.tmp 3) = .int .i64 k1623 := (hk1795 3 rfl).trans e1785_3
              have e1795_4 : a1795.eval (.tmp 4) = pieceV As1 cs1 R25.s k1219 n1530 := (hk1795 4 rfl).trans e1785_4
              have e1795_5 : a1795.eval (.tmp 5) = .int .i64 k1624 := (hk1795 5 rfl).trans e1785_5
              obtain ⟨(b_As1 : RwO own1795 1794 [] w1795 25 R25 As1 cs1 l1793), -⟩ := hf1795 [7] rfl
              have hX1795 := Evo.step hX1785 hown hE1795 rfl
              have b1795_As1 := b_As1
              have m1796_0 : a1795.eval (.tmp 0) = .slice As1 l1793.length cs1 := e1795_0.trans (by rw [put_len hl1793])
              refine rg_plain (n := 61) (rs := []) (own0 := own1795) (K := [])
                  (bs := [0, 1, 3])
                  (ds := [⟨[], [3], [], Fct.val 52 (.int .i64 k1623)⟩,
                  ⟨[0], [], [], Fct.val 53 (.int .i64 (ad k1623 1))⟩,
                  ⟨[1], [], [], Fct.val 3 (.int .i64 (ad k1623 1))⟩]) (by kernel_rfl) hz1795 hd1795 (fun _ h => nomatch h) ?_ ?_
              · refine steps_cons (fun own a wx hf hsl hE => ?_) ?_
                · obtain ⟨s_3, -⟩ := hsl
                  exact sg_plain rfl rfl (or_move (s_3.trans e1795_3))
                refine steps_cons (fun own a wx hf hsl hE => ?_) ?_
                · obtain ⟨(f_52 : a.eval (.tmp 52) = .int .i64 k1623), -⟩ := hf
                  exact sg_plain rfl rfl (or_add f_52 rfl rfl)
                refine steps_cons (fun own a wx hf hsl hE => ?_) ?_
                · obtain ⟨(f_53 : a.eval (.tmp 53) = .int .i64 (ad k1623 1)), -⟩ := hf
                  exact sg_plain rfl rfl (or_assign f_53)
                exact steps_nil
              intro own1797 a1797 w1797 hd1797 hz1797 hk1797 hf1797 hE1797
              have e1797_0 : a1797.eval (.tmp 0) = .slice As1 l1793.length cs1 := (hk1797 0 rfl).trans m1796_0
              have e1797_4 : a1797.eval (.tmp 4) = pieceV As1 cs1 R25.s k1219 n1530 := (hk1797 4 rfl).trans e1795_4
              have e1797_5 : a1797.eval (.tmp 5) = .int .i64 k1624 := (hk1797 5 rfl).trans e1795_5
              obtain ⟨(f_3 : a1797.eval (.tmp 3) = .int .i64 (ad k1623 1)), -⟩ := hf1797 [2] rfl
              have e1797_3 := f_3
              have hX1797 := Evo.step hX1795 hown hE1797 rfl
              have b1797_As1 := RwO.evo rfl hE1797 b1795_As1
              exact (K1778 _ _ (rl [(1794, 1776)] own1797) _ _ hd1797 hz1797 e1797_0 e1797_3 e1797_4 e1797_5 (Evo.rl_ hX1797 hown rfl) (RwO.rl_ (mm := [(1794, 1776)]) b1797_As1) hs).1
            refine fl_skip ?_
            exact (K1778 _ _ (rl [(1622, 1776)] own1785) _ _ hd1785 hz1785 e1785_0 e1785_3 e1785_4 e1785_5 (Evo.rl_ hX1785 hown rfl) (RwO.rl_ (mm := [(1622, 1776)]) b1785_As1) hs).1
          refine fl_exit ?_
          refine hp1713 _ _ _ rfl ?_
          replace hs := hz1711 _ hs
          refine hp1711 _ _ _ rfl ?_
          refine hx1534 _ _ ?_
          refine hn1532 _ _ ?_
          obtain ⟨x1801, hx1801, hs⟩ := obind hs
          obtain ⟨n1803, hn1803, hs⟩ := obind hs
          obtain ⟨l1804, hl1804, hs⟩ := obind hs
          refine rg_plain_seq (n := 61) (rs := [Fct.rowAt 1622 [] 25 R25 As1 cs1 s1621]) (own0 := own1714) (K := [1622])
              (bs := [0, 0, 3, 7])
              (ds := [⟨[], [0], [], Fct.val 54 (.slice As1 s1621.length cs1)⟩,
              ⟨[], [3], [], Fct.val 55 (.int .i64 k1623)⟩,
              ⟨[0, 1, 4], [], [], Fct.val 56 (pieceV As1 cs1 R25.s k1623 n1803)⟩,
              ⟨[2, 4], [], [1622], Fct.rowAt 1805 [] 25 R25 As1 cs1 l1804⟩]) (by kernel_rfl) hz1714 hd1714 (by simp only [List.forall_mem_cons]; exact ⟨b1714_As1, fun _ h => nomatch h⟩) ?_ ?_
          · refine steps_cons (fun own a wx hf hsl hE => ?_) ?_
            · obtain ⟨s_0, -⟩ := hsl
              exact sg_plain rfl rfl (or_move (s_0.trans e1714_0))
            refine steps_cons (fun own a wx hf hsl hE => ?_) ?_
            · obtain ⟨s_3, -⟩ := hsl
              exact sg_plain rfl rfl (or_move (s_3.trans e1714_3))
            refine steps_cons (fun own a wx hf hsl hE => ?_) ?_
            · obtain ⟨(f_54 : a.eval (.tmp 54) = .slice As1 s1621.length cs1), (f_55 : a.eval (.tmp 55) = .int .i64 k1623), (b_As1 : RwO own 1622 [] wx 25 R25 As1 cs1 s1621), -⟩ := hf
              exact sg_plain rfl rfl (or_pieceW (R := R25) tu22 ts25 f_54 (Bnd.some_ f_55) (Bnd.noneE (osome hn1803)) (RwO.rd b_As1) (cut_toE hn1803 hx1801))
            refine steps_cons (fun own a wx hf hsl hE => ?_) ?_
            · obtain ⟨(f_56 : a.eval (.tmp 56) = pieceV As1 cs1 R25.s k1623 n1803), (b_As1 : RwO own 1622 [] wx 25 R25 As1 cs1 s1621), -⟩ := hf
              exact sg_plain rfl rfl (or_clear (R := R25) (lab := 1622) (lab2 := 1805) (z := .agg #[.int .i64 0, .int .i64 0]) (dv := (0, 0)) tu22 (by kernel_rfl) rfl f_56 b_As1 hl1804 (Rep.fl_flat _) (fun _ _ => rfl) (mem_of rfl) (by decide) (fun own' a' w' hb => hb))
            exact steps_nil
          intro own1806 a1806 w1806 hd1806 hz1806 hk1806 hf1806 hE1806
          have e1806_0 : a1806.eval (.tmp 0) = .slice As1 s1621.length cs1 := (hk1806 0 rfl).trans e1714_0
          have e1806_3 : a1806.eval (.tmp 3) = .int .i64 k1623 := (hk1806 3 rfl).trans e1714_3
          obtain ⟨(b_As1 : RwO own1806 1805 [] w1806 25 R25 As1 cs1 l1804), -⟩ := hf1806 [3] rfl
          have hX1806 := Evo.step hX1714 hown hE1806 rfl
          have b1806_As1 := b_As1
          have m1807_0 : a1806.eval (.tmp 0) = .slice As1 l1804.length cs1 := e1806_0.trans (by rw [clr_len hl1804])
          obtain ⟨x1810, hx1810, hs⟩ := obind hs
          refine rg_plain_seq (n := 61) (rs := [Fct.rowAt 1805 [] 25 R25 As1 cs1 l1804]) (own0 := own1806) (K := [1805])
              (bs := [0, 0, 3, 7])
              (ds := [⟨[], [0], [], Fct.val 57 (.slice As1 l1804.length cs1)⟩,
              ⟨[], [3], [], Fct.val 58 (.int .i64 k1623)⟩,
              ⟨[0, 1, 4], [], [1805], Fct.row 1812 [] 59 25 R25 x1810⟩,
              ⟨[2], [], [], Fct.rel [2, 59] (fun l => ∀ (A1811 : Option Addr) (cA1811 : Nat), l.getD 1 undef = .slice A1811 x1810.length cA1811 → l.getD 0 undef = .slice A1811 x1810.length cA1811)⟩]) (by kernel_rfl) hz1806 hd1806 (by simp only [List.forall_mem_cons]; exact ⟨b1806_As1, fun _ h => nomatch h⟩) ?_ ?_
          · refine steps_cons (fun own a wx hf hsl hE => ?_) ?_
            · obtain ⟨s_0, -⟩ := hsl
              exact sg_plain rfl rfl (or_move (s_0.trans m1807_0))
            refine steps_cons (fun own a wx hf hsl hE => ?_) ?_
            · obtain ⟨s_3, -⟩ := hsl
              exact sg_plain rfl rfl (or_move (s_3.trans e1806_3))
            refine steps_cons (fun own a wx hf hsl hE => ?_) ?_
            · obtain ⟨(f_57 : a.eval (.tmp 57) = .slice As1 l1804.length cs1), (f_58 : a.eval (.tmp 58) = .int .i64 k1623), (b_As1 : RwO own 1805 [] wx 25 R25 As1 cs1 l1804), -⟩ := hf
              exact sg_plain rfl rfl (or_keep (R := R25) (lab := 1805) (lab2 := 1812) tu22 ts25 f_57 (Bnd.some_ f_58) b_As1 hx1810 (mem_of rfl) (by decide) (.inl (Rep.fl_flat _)))
            refine steps_cons (fun own a wx hf hsl hE => ?_) ?_
            · obtain ⟨⟨⟨A1811, cA1811⟩, (f_59 : a.eval (.tmp 59) = .slice A1811 x1810.length cA1811), (b_A1811 : RwO own 1812 [] wx 25 R25 A1811 cA1811 x1810)⟩, -⟩ := hf
              exact sg_plain rfl rfl (or_mono (f := Fct.val 2 (.slice A1811 x1810.length cA1811)) (or_assign f_59) (fun own' a' w' v' hp h => fun _ _ h0' => by cases (f_59.symm.trans ((hp.2 59 (by decide)).symm.trans h0')); exact h))
            exact steps_nil
          intro own1813 a1813 w1813 hd1813 hz1813 hk1813 hf1813 hE1813
          obtain ⟨⟨⟨A1811, cA1811⟩, (f_59 : a1813.eval (.tmp 59) = .slice A1811 x1810.length cA1811), (b_A1811 : RwO own1813 1812 [] w1813 25 R25 A1811 cA1811 x1810)⟩, (q_2 : ∀ (A1811 : Option Addr) (cA1811 : Nat), a1813.eval (.tmp 59) = .slice A1811 x1810.length cA1811 → a1813.eval (.tmp 2) = .slice A1811 x1810.length cA1811), -⟩ := hf1813 [2, 3] rfl
          have f_2 := q_2 _ _ f_59
          have e1813_2 := f_2
          have hX1813 := Evo.step hX1806 hown hE1813 rfl
          have b1813_A1811 := b_A1811
          refine fl_ret ?_
          refine hp1523 _ _ _ rfl ?_
          refine hp1522 _ _ _ rfl ?_
          replace hs := hz1517 _ hs
          refine hp1517 _ _ _ rfl ?_
          refine hp921 _ _ _ rfl ?_
          refine hp919 _ _ _ rfl ?_
          obtain rfl := (osome hs).symm
          exact hret _ _ _ _ (.inl rfl) hd1813 (results1_ rfl (RVal.tmp_ e1813_2)) ⟨(rl [(1812, 2)] own1813), (A1811, cA1811), rfl, (Evo.rl_ hX1813 hown rfl), (RwO.rl_ (mm := [(1812, 2)]) b1813_A1811)⟩
      refine fl_skip ?_
      refine hn1523 _ _ ?_
      refine hn1522 _ _ ?_
      refine rg_plain (n := 61) (rs := []) (own0 := own1526) (K := [])
          (bs := [0, 1, 3])
          (ds := [⟨[], [3], [], Fct.val 14 (.int .i64 k1219)⟩,
          ⟨[0], [], [], Fct.val 15 (.int .i64 (ad k1219 1))⟩,
          ⟨[1], [], [], Fct.val 3 (.int .i64 (ad k1219 1))⟩]) (by kernel_rfl) hz1526 hd1526 (fun _ h => nomatch h) ?_ ?_
      · refine steps_cons (fun own a wx hf hsl hE => ?_) ?_
        · obtain ⟨s_3, -⟩ := hsl
          exact sg_plain rfl rfl (or_move (s_3.trans e1526_3))
        refine steps_cons (fun own a wx hf hsl hE => ?_) ?_
        · obtain ⟨(f_14 : a.eval (.tmp 14) = .int .i64 k1219), -⟩ := hf
          exact sg_plain rfl rfl (or_add f_14 rfl rfl)
        refine steps_cons (fun own a wx hf hsl hE => ?_) ?_
        · obtain ⟨(f_15 : a.eval (.tmp 15) = .int .i64 (ad k1219 1)), -⟩ := hf
          exact sg_plain rfl rfl (or_assign f_15)
        exact steps_nil
      intro own1814 a1814 w1814 hd1814 hz1814 hk1814 hf1814 hE1814
      have e1814_0 : a1814.eval (.tmp 0) = .slice As1 s1.length cs1 := (hk1814 0 rfl).trans e1526_0
      obtain ⟨(f_3 : a1814.eval (.tmp 3) = .int .i64 (ad k1219 1)), -⟩ := hf1814 [2] rfl
      have e1814_3 := f_3
      have hX1814 := Evo.step hX1526 hown hE1814 rfl
      have b1814_As1 := RwO.evo rfl hE1814 b1526_As1
      exact hn1517 _ _ _ hs ⟨own1814, hd1814, hz1814, e1814_0, e1814_3, hX1814, b1814_As1⟩
    refine fl_exit ?_
    refine hp1519 _ _ _ rfl ?_
    replace hs := hz1517 _ hs
    refine hp1517 _ _ _ rfl ?_
    refine hx921 _ _ ?_
    refine hn919 _ _ ?_
    refine rg_plain_seq (n := 61) (rs := []) (own0 := own1520) (K := [])
        (bs := [0, 1])
        (ds := [⟨[], [0], [], Fct.val 60 (.slice As1 s1.length cs1)⟩,
        ⟨[0], [], [], Fct.val 2 (.slice As1 s1.length cs1)⟩]) (by kernel_rfl) hz1520 hd1520 (fun _ h => nomatch h) ?_ ?_
    · refine steps_cons (fun own a wx hf hsl hE => ?_) ?_
      · obtain ⟨s_0, -⟩ := hsl
        exact sg_plain rfl rfl (or_move (s_0.trans e1520_0))
      refine steps_cons (fun own a wx hf hsl hE => ?_) ?_
      · obtain ⟨(f_60 : a.eval (.tmp 60) = .slice As1 s1.length cs1), -⟩ := hf
        exact sg_plain rfl rfl (or_assign f_60)
      exact steps_nil
    intro own1815 a1815 w1815 hd1815 hz1815 hk1815 hf1815 hE1815
    obtain ⟨(f_2 : a1815.eval (.tmp 2) = .slice As1 s1.length cs1), -⟩ := hf1815 [1] rfl
    have e1815_2 := f_2
    have hX1815 := Evo.step hX1520 hown hE1815 rfl
    have b1815_As1 := RwO.evo rfl hE1815 b1520_As1
    refine fl_ret ?_
    obtain rfl := (osome hs).symm
    exact hret _ _ _ _ (.inl rfl) hd1815 (results1_ rfl (RVal.tmp_ e1815_2)) ⟨(rl [(1, 2)] own1815), (As1, cs1), rfl, (Evo.rl_ hX1815 hown rfl), (RwO.rl_ (mm := [(1, 2)]) b1815_As1)⟩

theorem slices_Clone_api_Point_api_Point_w (w : World) (s1 : List (Int × Int)) (As1 : Option Addr) (cs1 : Nat) (hs1 : RdO (fun _ => 0) [0] w R25 As1 cs1 s1) (r : List (Int × Int)) (hs : slices_Clone_api_Point_api_Point s1 = some r) :
    Calls Try.prog 30 #[.slice As1 s1.length cs1] w fun e w' => ∃ (own' : Own) (x : Option Addr × Nat), e = .returned (.slice x.1 r.length x.2) ∧ Evo [] (fun _ => 0) own' w w' ∧ RwO own' 1 [] w' 25 R25 x.1 x.2 r := by
  refine fl_enter (n := 8) rfl rfl rfl (Nat.le_of_ble_eq_true rfl) ?_
  intro a0 Q hd0 hz0 harg hret
  have ha0 := harg 0 _ rfl
  clear harg
  have hE0 : Evo [] (fun _ => 0) (fun _ => 0) w w := Evo.refl _ _ _
  refine rg_plain_seq (n := 8) (rs := []) (own0 := (fun _ => 0)) (K := [])
      (bs := [0])
      (ds := [⟨[], [], [], Fct.val 2 (.slice none 0 0)⟩]) (by kernel_rfl) hz0 hd0 (fun _ h => nomatch h) ?_ ?_
  · refine steps_cons (fun own a wx hf hsl hE => ?_) ?_
    · exact sg_plain rfl rfl (or_assign rfl)
    exact steps_nil
  intro own22 a22 w22 hd22 hz22 hk22 hf22 hE22
  have e22_0 : a22.eval (.tmp 0) = .slice As1 s1.length cs1 := (hk22 0 rfl).trans ha0
  have hX22 := Evo.step hE0 (fun _ => Nat.le_refl 0) hE22 rfl
  have b22_As1 := RdO.evo rfl hE22 hs1
  refine fl_seq (fun Q23 hn23 hp23 => ?_)
  refine rg_plain_seq (n := 8) (rs := []) (own0 := own22) (K := [])
      (bs := [0, 1])
      (ds := [⟨[], [0], [], Fct.val 3 (.slice As1 s1.length cs1)⟩,
      ⟨[0], [], [], Fct.val 4 (.bool As1.isNone)⟩]) (by kernel_rfl) hz22 hd22 (fun _ h => nomatch h) ?_ ?_
  · refine steps_cons (fun own a wx hf hsl hE => ?_) ?_
    · obtain ⟨s_0, -⟩ := hsl
      exact sg_plain rfl rfl (or_move (s_0.trans e22_0))
    refine steps_cons (fun own a wx hf hsl hE => ?_) ?_
    · obtain ⟨(f_3 : a.eval (.tmp 3) = .slice As1 s1.length cs1), -⟩ := hf
      exact sg_plain rfl rfl (or_eqlNil tu22 f_3 rfl)
    exact steps_nil
  intro own24 a24 w24 hd24 hz24 hk24 hf24 hE24
  have e24_0 : a24.eval (.tmp 0) = .slice As1 s1.length cs1 := (hk24 0 rfl).trans e22_0
  obtain ⟨(f_4 : a24.eval (.tmp 4) = .bool As1.isNone), -⟩ := hf24 [1] rfl
  have e24_4 := f_4
  have hX24 := Evo.step hX22 (fun _ => Nat.le_refl 0) hE24 rfl
  have b24_As1 := RdO.evo rfl hE24 b22_As1
  refine wpIn_cond_split e24_4 (fun hA25 => ?_) (fun hA25 => ?_)
  · have hl25 : s1 = [] := RdO.nil_of b24_As1 hA25
    have hs0 : ((app ([] : List (Int × Int)) s1).bind fun x28 => some x28) = some r := hs
    have hs : (some ([] : List (Int × Int))) = some r := by simpa [hl25, app, cut, capB] using hs0
    refine rg_plain_seq (n := 8) (rs := []) (own0 := own24) (K := [])
        (bs := [0])
        (ds := [⟨[], [], [], Fct.val 2 (.slice none 0 0)⟩]) (by kernel_rfl) hz24 hd24 (fun _ h => nomatch h) ?_ ?_
    · refine steps_cons (fun own a wx hf hsl hE => ?_) ?_
      · exact sg_plain rfl rfl (or_assign rfl)
      exact steps_nil
    intro own32 a32 w32 hd32 hz32 hk32 hf32 hE32
    obtain ⟨(f_2 : a32.eval (.tmp 2) = .slice none 0 0), -⟩ := hf32 [0] rfl
    have e32_2 := f_2
    have hX32 := Evo.step hX24 (fun _ => Nat.le_refl 0) hE32 rfl
    refine fl_ret ?_
    refine hp23 _ _ _ rfl ?_
    obtain rfl := osome hs
    exact hret _ _ _ _ (.inl rfl) hd32 (results1_ rfl (RVal.tmp_ e32_2)) ⟨own32, (none, 0), rfl, hX32, RwO.nil_⟩
  refine fl_skip ?_
  refine hn23 _ _ ?_
  obtain ⟨x28, hx28, hs⟩ := obind hs
  refine rg_plain_seq (n := 8) (rs := []) (own0 := own24) (K := [27])
      (bs := [0, 0, 3, 7])
      (ds := [⟨[], [], [], Fct.row 27 [] 5 25 R25 ([] : List (Int × Int))⟩,
      ⟨[], [0], [], Fct.val 6 (.slice As1 s1.length cs1)⟩,
      ⟨[0, 1], [], [27], Fct.row 29 [] 7 25 R25 x28⟩,
      ⟨[2], [], [], Fct.rel [2, 7] (fun l => ∀ (A30 : Option Addr) (cA30 : Nat), l.getD 1 undef = .slice A30 x28.length cA30 → l.getD 0 undef = .slice A30 x28.length cA30)⟩]) (by kernel_rfl) hz24 hd24 (fun _ h => nomatch h) ?_ ?_
  · refine steps_cons (fun own a wx hf hsl hE => ?_) ?_
    · exact sg_plain rfl rfl (or_lit (lab := 27) (e := 25) (cs := #[]) (F := E25) (or_new [] rfl rfl trivial (by kernel_rfl)) rfl rfl (show 0 ≤ maxLen by decide))
    refine steps_cons (fun own a wx hf hsl hE => ?_) ?_
    · obtain ⟨s_0, -⟩ := hsl
      exact sg_plain rfl rfl (or_move (s_0.trans e24_0))
    refine steps_cons (fun own a wx hf hsl hE => ?_) ?_
    · obtain ⟨⟨⟨A26, cA26⟩, (f_5 : a.eval (.tmp 5) = .slice A26 ([] : List (Int × Int)).length cA26), (b_A26 : RwO own 27 [] wx 25 R25 A26 cA26 ([] : List (Int × Int)))⟩, (f_6 : a.eval (.tmp 6) = .slice As1 s1.length cs1), -⟩ := hf
      exact sg_plain rfl rfl (or_append (R := R25) (lab := 27) (lab2 := 29) (L := []) (L3 := []) tp22 f_5 b_A26 (by decide) f_6 (RdO.evo rfl hE b24_As1) hx28 (by decide) (by decide) (mem_of rfl) (.inl (Rep.fl_flat _)))
    refine steps_cons (fun own a wx hf hsl hE => ?_) ?_
    · obtain ⟨⟨⟨A30, cA30⟩, (f_7 : a.eval (.tmp 7) = .slice A30 x28.length cA30), (b_A30 : RwO own 29 [] wx 25 R25 A30 cA30 x28)⟩, -⟩ := hf
      exact sg_plain rfl rfl (or_mono (f := Fct.val 2 (.slice A30 x28.length cA30)) (or_assign f_7) (fun own' a' w' v' hp h => fun _ _ h0' => by cases (f_7.symm.trans ((hp.2 7 (by decide)).symm.trans h0')); exact h))
    exact steps_nil
  intro own31 a31 w31 hd31 hz31 hk31 hf31 hE31
  obtain ⟨⟨⟨A30, cA30⟩, (f_7 : a31.eval (.tmp 7) = .slice A30 x28.length cA30), (b_A30 : RwO own31 29 [] w31 25 R25 A30 cA30 x28)⟩, (q_2 : ∀ (A30 : Option Addr) (cA30 : Nat), a31.eval (.tmp 7) = .slice A30 x28.length cA30 → a31.eval (.tmp 2) = .slice A30 x28.length cA30), -⟩ := hf31 [2, 3] rfl
  have f_2 := q_2 _ _ f_7
  have e31_2 := f_2
  have hX31 := Evo.step hX24 (fun _ => Nat.le_refl 0) hE31 rfl
  have b31_A30 := b_A30
  refine fl_ret ?_
  obtain rfl := (osome hs).symm
  exact hret _ _ _ _ (.inl rfl) hd31 (results1_ rfl (RVal.tmp_ e31_2)) ⟨(rl [(29, 1)] own31), (A30, cA30), rfl, (Evo.rl_ hX31 (fun _ => Nat.le_refl 0) rfl), (RwO.rl_ (mm := [(29, 1)]) b31_A30)⟩

theorem slices_Clip_api_Point_api_Point_w (w : World) (own : Own) (s1 : List (Int × Int)) (As1 : Option Addr) (cs1 : Nat) (hown : ∀ b, own b ≤ 1) (hs1 : RdO own [1] w R25 As1 cs1 s1) (r : List (Int × Int)) (hs : slices_Clip_api_Point_api_Point s1 = some r) :
    Calls Try.prog 31 #[.slice As1 s1.length cs1] w fun e w' => ∃ (own' : Own) (x : Option Addr × Nat), e = .returned (.slice x.1 r.length x.2) ∧ Evo [] own own' w w' ∧ RdO own' [1, 2] w' R25 x.1 x.2 r := by
  refine fl_enter (n := 9) rfl rfl rfl (Nat.le_of_ble_eq_true rfl) ?_
  intro a0 Q hd0 hz0 harg hret
  have ha0 := harg 0 _ rfl
  clear harg
  have hE0 : Evo [] own own w w := Evo.refl _ _ _
  refine rg_plain_seq (n := 9) (rs := []) (own0 := own) (K := [])
      (bs := [0])
      (ds := [⟨[], [], [], Fct.val 2 (.slice none 0 0)⟩]) (by kernel_rfl) hz0 hd0 (fun _ h => nomatch h) ?_ ?_
  · refine steps_cons (fun own a wx hf hsl hE => ?_) ?_
    · exact sg_plain rfl rfl (or_assign rfl)
    exact steps_nil
  intro own16 a16 w16 hd16 hz16 hk16 hf16 hE16
  have e16_0 : a16.eval (.tmp 0) = .slice As1 s1.length cs1 := (hk16 0 rfl).trans ha0
  have hX16 := Evo.step hE0 hown hE16 rfl
  have b16_As1 := RdO.evo rfl hE16 hs1
  obtain ⟨x17, hx17, hs⟩ := obind hs
  refine rg_plain_seq (n := 9) (rs := []) (own0 := own16) (K := [])
      (bs := [0, 0, 2, 0, 8, 31, 63])
      (ds := [⟨[], [0], [], Fct.val 3 (.slice As1 s1.length cs1)⟩,
      ⟨[], [0], [], Fct.val 4 (.slice As1 s1.length cs1)⟩,
      ⟨[1], [], [], Fct.val 5 (.int .i64 (s1.length : Int))⟩,
      ⟨[], [0], [], Fct.val 6 (.slice As1 s1.length cs1)⟩,
      ⟨[3], [], [], Fct.val 7 (.int .i64 (s1.length : Int))⟩,
      ⟨[0, 2, 4], [], [], Fct.view [1] 8 R25 x17⟩,
      ⟨[5], [], [], Fct.rel [2, 8] (fun l => ∀ (A18 : Option Addr) (cA18 : Nat), l.getD 1 undef = .slice A18 x17.length cA18 → l.getD 0 undef = .slice A18 x17.length cA18)⟩]) (by kernel_rfl) hz16 hd16 (fun _ h => nomatch h) ?_ ?_
  · refine steps_cons (fun own a wx hf hsl hE => ?_) ?_
    · obtain ⟨s_0, -⟩ := hsl
      exact sg_plain rfl rfl (or_move (s_0.trans e16_0))
    refine steps_cons (fun own a wx hf hsl hE => ?_) ?_
    · obtain ⟨s_0, -⟩ := hsl
      exact sg_plain rfl rfl (or_move (s_0.trans e16_0))
    refine steps_cons (fun own a wx hf hsl hE => ?_) ?_
    · obtain ⟨(f_4 : a.eval (.tmp 4) = .slice As1 s1.length cs1), -⟩ := hf
      exact sg_plain rfl rfl (or_len tu22 f_4 rfl)
    refine steps_cons (fun own a wx hf hsl hE => ?_) ?_
    · obtain ⟨s_0, -⟩ := hsl
      exact sg_plain rfl rfl (or_move (s_0.trans e16_0))
    refine steps_cons (fun own a wx hf hsl hE => ?_) ?_
    · obtain ⟨(f_6 : a.eval (.tmp 6) = .slice As1 s1.length cs1), -⟩ := hf
      exact sg_plain rfl rfl (or_len tu22 f_6 rfl)
    refine steps_cons (fun own a wx hf hsl hE => ?_) ?_
    · obtain ⟨(f_3 : a.eval (.tmp 3) = .slice As1 s1.length cs1), (f_5 : a.eval (.tmp 5) = .int .i64 (s1.length : Int)), (f_7 : a.eval (.tmp 7) = .int .i64 (s1.length : Int)), -⟩ := hf
      exact sg_plain rfl rfl (or_view (R := R25) (l := s1) (L := [1]) tu22 ts25 f_3 Bnd.none_ (Bnd.some_ f_5) (Bnd.some_ f_7) (RdO.evo rfl hE b16_As1) hx17 (.inr rfl) (by simp))
    refine steps_cons (fun own a wx hf hsl hE => ?_) ?_
    · obtain ⟨⟨⟨A18, cA18⟩, (f_8 : a.eval (.tmp 8) = .slice A18 x17.length cA18), (b_A18 : RdO own [1] wx R25 A18 cA18 x17)⟩, -⟩ := hf
      exact sg_plain rfl rfl (or_mono (f := Fct.val 2 (.slice A18 x17.length cA18)) (or_assign f_8) (fun own' a' w' v' hp h => fun _ _ h0' => by cases (f_8.symm.trans ((hp.2 8 (by decide)).symm.trans h0')); exact h))
    exact steps_nil
  intro own19 a19 w19 hd19 hz19 hk19 hf19 hE19
  obtain ⟨⟨⟨A18, cA18⟩, (f_8 : a19.eval (.tmp 8) = .slice A18 x17.length cA18), (b_A18 : RdO own19 [1] w19 R25 A18 cA18 x17)⟩, (q_2 : ∀ (A18 : Option Addr) (cA18 : Nat), a19.eval (.tmp 8) = .slice A18 x17.length cA18 → a19.eval (.tmp 2) = .slice A18 x17.length cA18), -⟩ := hf19 [5, 6] rfl
  have f_2 := q_2 _ _ f_8
  have e19_2 := f_2
  have hX19 := Evo.step hX16 hown hE19 rfl
  have b19_A18 := b_A18
  refine fl_ret ?_
  obtain rfl := (osome hs).symm
  exact hret _ _ _ _ (.inl rfl) hd19 (results1_ rfl (RVal.tmp_ e19_2)) ⟨own19, (A18, cA18), rfl, hX19, (RdO.more b19_A18 (by decide))⟩

theorem ring_Thin_w (w : World) (l1 : List (Int × Int)) (Al1 : Option Addr) (cl1 : Nat) (hl1 : RdO (fun _ => 0) [0] w R25 Al1 cl1 l1) (r : List (Int × Int)) (hs : ring_Thin l1 = some r) :
    Calls Try.prog 16 #[.slice Al1 l1.length cl1] w fun e w' => ∃ (own' : Own) (x : Option Addr × Nat), e = .returned (.slice x.1 r.length x.2) ∧ Evo [] (fun _ => 0) own' w w' ∧ RdO own' [1] w' R25 x.1 x.2 r := by
  refine fl_enter (n := 29) rfl rfl rfl (Nat.le_of_ble_eq_true rfl) ?_
  intro a0 Q hd0 hz0 harg hret
  have ha0 := harg 0 _ rfl
  clear harg
  have hE0 : Evo [] (fun _ => 0) (fun _ => 0) w w := Evo.refl _ _ _
  refine rg_plain_seq (n := 29) (rs := []) (own0 := (fun _ => 0)) (K := [])
      (bs := [0])
      (ds := [⟨[], [], [], Fct.val 2 (.slice none 0 0)⟩]) (by kernel_rfl) hz0 hd0 (fun _ h => nomatch h) ?_ ?_
  · refine steps_cons (fun own a wx hf hsl hE => ?_) ?_
    · exact sg_plain rfl rfl (or_assign rfl)
    exact steps_nil
  intro own73 a73 w73 hd73 hz73 hk73 hf73 hE73
  have e73_0 : a73.eval (.tmp 0) = .slice Al1 l1.length cl1 := (hk73 0 rfl).trans ha0
  have hX73 := Evo.step hE0 (fun _ => Nat.le_refl 0) hE73 rfl
  have b73_Al1 := RdO.evo rfl hE73 hl1
  obtain ⟨r74, hr74, hs⟩ := obind hs
  obtain ⟨r77, hr77, hs⟩ := obind hs
  refine rg_plain_seq (n := 29) (rs := []) (own0 := own73) (K := [76])
      (bs := [0, 1, 3, 7])
      (ds := [⟨[], [0], [], Fct.val 4 (.slice Al1 l1.length cl1)⟩,
      ⟨[0], [], [], Fct.row 76 [] 5 25 R25 r74⟩,
      ⟨[1], [], [76], Fct.mems [79] 6 (fun (x : Option Addr × Nat) => .slice x.1 r77.length x.2) (fun (x : Option Addr × Nat) own w => RwO own 79 [] w 25 R25 x.1 x.2 r77) (fun hk he h => RwO.evo (hits_sub hk (by decide)) he h)⟩,
      ⟨[2], [], [], Fct.rel [3, 6] (fun l => ∀ (A78 : Option Addr) (cA78 : Nat), l.getD 1 undef = .slice A78 r77.length cA78 → l.getD 0 undef = .slice A78 r77.length cA78)⟩]) (by kernel_rfl) hz73 hd73 (fun _ h => nomatch h) ?_ ?_
  · refine steps_cons (fun own a wx hf hsl hE => ?_) ?_
    · obtain ⟨s_0, -⟩ := hsl
      exact sg_plain rfl rfl (or_move (s_0.trans e73_0))
    refine steps_cons (fun own a wx hf hsl hE => ?_) ?_
    · obtain ⟨(f_4 : a.eval (.tmp 4) = .slice Al1 l1.length cl1), -⟩ := hf
      exact sg_plain rfl rfl (or_call cf30 (args1 f_4) (slices_Clone_api_Point_api_Point_w _ l1 Al1 cl1 (RdO.zero (RdO.evo rfl hE b73_Al1)) r74 hr74) (post_row (m' := (look0 [(1, 76)])) (.inl (Rep.fl_flat _)) rfl rfl (fun _ => rfl)))
    refine steps_cons (fun own a wx hf hsl hE => ?_) ?_
    · obtain ⟨⟨⟨A75, cA75⟩, (f_5 : a.eval (.tmp 5) = .slice A75 r74.length cA75), (b_A75 : RwO own 76 [] wx 25 R25 A75 cA75 r74)⟩, -⟩ := hf
      exact sg_plain rfl rfl (or_call cf29 (args1 f_5) (slices_Compact_api_Point_api_Point_w _ (forth own (look0 [(76, 1)])) r74 A75 cA75 (look0_le rfl) (RwO.forth_ (m := (look0 [(76, 1)])) b_A75) r77 hr77) (post_mems (m := (look0 [(76, 1)])) (m' := (look0 [(2, 79)])) (hm_of rfl) (fun own' w' a' x h1 h => ⟨x, h1, RwO.back_ h (by decide) (.inl (Rep.fl_flat _))⟩)))
    refine steps_cons (fun own a wx hf hsl hE => ?_) ?_
    · obtain ⟨⟨⟨A78, cA78⟩, (f_6 : a.eval (.tmp 6) = .slice A78 r77.length cA78), (b_A78 : RwO own 79 [] wx 25 R25 A78 cA78 r77)⟩, -⟩ := hf
      exact sg_plain rfl rfl (or_mono (f := Fct.val 3 (.slice A78 r77.length cA78)) (or_assign f_6) (fun own' a' w' v' hp h => fun _ _ h0' => by cases (f_6.symm.trans ((hp.2 6 (by decide)).symm.trans h0')); exact h))
    exact steps_nil
  intro own80 a80 w80 hd80 hz80 hk80 hf80 hE80
  obtain ⟨⟨⟨A78, cA78⟩, (f_6 : a80.eval (.tmp 6) = .slice A78 r77.length cA78), (b_A78 : RwO own80 79 [] w80 25 R25 A78 cA78 r77)⟩, (q_3 : ∀ (A78 : Option Addr) (cA78 : Nat), a80.eval (.tmp 6) = .slice A78 r77.length cA78 → a80.eval (.tmp 3) = .slice A78 r77.length cA78), -⟩ := hf80 [2, 3] rfl
  have f_3 := q_3 _ _ f_6
  have e80_3 := f_3
  have hX80 := Evo.step hX73 (fun _ => Nat.le_refl 0) hE80 rfl
  have b80_A78 := b_A78
  refine fl_seq (fun Q81 hn81 hp81 => ?_)
  refine fl_block (fun Q82 hn82 hx82 hp82 => ?_)
  refine fl_loop (body := (fun s => ring_Thin_b1 s)) (z := r) (show loopO _ _ = _ from hs) (fun (out99 : List (Int × Int)) a wx => ∃ (ox : Own) (A97 : Option Addr) (c98 : Nat), a.defers = [] ∧ a.tmps.size = 29 ∧ a.eval (.tmp 3) = .slice A97 out99.length c98 ∧ Evo [] (fun _ => 0) ox w wx ∧ RwO ox 100 [] wx 25 R25 A97 c98 out99) ?_ ?_
  · exact ⟨(rl [(79, 100)] own80), A78, cA78, hd80, hz80, e80_3, (Evo.rl_ hX80 (fun _ => Nat.le_refl 0) rfl), (RwO.rl_ (mm := [(79, 100)]) b80_A78)⟩
  · rintro out99 zz115 a115 w115 ⟨own115, A97, c98, hd116, hz116, e116_3, hE116, b116_A97⟩ hs Q115 hn115 hp115 hz115
    have hs : ring_Thin_b1 out99 = some zz115 := hs
    refine fl_seq (fun Q117 hn117 hp117 => ?_)
    obtain ⟨x118, hx118, hs⟩ := obind hs
    obtain ⟨x119, hx119, hs⟩ := obind hs
    obtain ⟨x120, hx120, hs⟩ := obind hs
    refine rg_draw_seq g_mixed (n := 29) (rs := []) (own0 := own115) (K := [])
        (bs := [0, 1, 3, 7, 15, 15, 47, 111, 255, 511, 15, 1039, 3087, 8191, 16383])
        (ds := [⟨[], [3], [], Fct.val 7 (.slice A97 out99.length c98)⟩,
        ⟨[0], [], [], Fct.val 8 (.int .i64 (out99.length : Int))⟩,
        ⟨[1], [], [], Fct.val 9 (.bool (decide (1 < (out99.length : Int))))⟩,
        ⟨[2], [], [], Fct.val 10 (.bool (decide (1 < (out99.length : Int))))⟩,
        ⟨[3], [3], [], Fct.cond (decide (1 < (out99.length : Int))) (some 11) (Fct.val 11 (.slice A97 out99.length c98))⟩,
        ⟨[3], [3], [], Fct.cond (decide (1 < (out99.length : Int))) (some 12) (Fct.val 12 (.slice A97 out99.length c98))⟩,
        ⟨[3, 5], [], [], Fct.cond (decide (1 < (out99.length : Int))) (some 13) (Fct.val 13 (.int .i64 (out99.length : Int)))⟩,
        ⟨[3, 6], [], [], Fct.cond (decide (1 < (out99.length : Int))) (some 14) (Fct.val 14 (.int .i64 (sb (out99.length : Int) 1)))⟩,
        ⟨[3, 4, 7], [], [], Fct.cond (decide (1 < (out99.length : Int))) (some 15) (Fct.val 15 (.pointer (some ((adr A97).add ((sb (out99.length : Int) 1 : Int).toNat * R25.s)))))⟩,
        ⟨[3, 8], [], [], Fct.cond (decide (1 < (out99.length : Int))) (some 16) (Fct.val 16 (.agg #[.int .i64 x118.1, .int .i64 x118.2]))⟩,
        ⟨[3], [3], [], Fct.cond (decide (1 < (out99.length : Int))) (some 17) (Fct.val 17 (.slice A97 out99.length c98))⟩,
        ⟨[3, 10], [], [], Fct.cond (decide (1 < (out99.length : Int))) (some 18) (Fct.val 18 (.pointer (some ((adr A97).add ((0 : Int).toNat * R25.s)))))⟩,
        ⟨[3, 11], [], [], Fct.cond (decide (1 < (out99.length : Int))) (some 19) (Fct.val 19 (.agg #[.int .i64 x119.1, .int .i64 x119.2]))⟩,
        ⟨[3, 9, 12], [], [], Fct.cond (decide (1 < (out99.length : Int))) (some 20) (Fct.val 20 (.bool (decide (x118 = x119))))⟩,
        ⟨[3, 13], [], [], Fct.val 21 (.bool x120)⟩]) (by kernel_rfl) hz116 hd116 (fun _ h => nomatch h) ?_ ?_
    · refine steps_cons (fun own a wx hf hsl hE => ?_) ?_
      · obtain ⟨s_3, -⟩ := hsl
        exact sg_plain rfl rfl (or_move (s_3.trans e116_3))
      refine steps_cons (fun own a wx hf hsl hE => ?_) ?_
      · obtain ⟨(f_7 : a.eval (.tmp 7) = .slice A97 out99.length c98), -⟩ := hf
        exact sg_plain rfl rfl (or_len tu22 f_7 rfl)
      refine steps_cons (fun own a wx hf hsl hE => ?_) ?_
      · obtain ⟨(f_8 : a.eval (.tmp 8) = .int .i64 (out99.length : Int)), -⟩ := hf
        exact sg_plain rfl rfl (or_gtr f_8 rfl rfl)
      refine steps_cons (fun own a wx hf hsl hE => ?_) ?_
      · obtain ⟨(f_9 : a.eval (.tmp 9) = .bool (decide (1 < (out99.length : Int)))), -⟩ := hf
        exact sg_plain rfl rfl (or_move f_9)
      refine steps_cons (fun own a wx hf hsl hE => ?_) ?_
      · obtain ⟨(f_10 : a.eval (.tmp 10) = .bool (decide (1 < (out99.length : Int)))), -⟩ := hf
        obtain ⟨s_3, -⟩ := hsl
        refine sg_t rfl rfl rfl f_10 (fun hg => ?_)
        exact or_move (s_3.trans e116_3)
      refine steps_cons (fun own a wx hf hsl hE => ?_) ?_
      · obtain ⟨(f_10 : a.eval (.tmp 10) = .bool (decide (1 < (out99.length : Int)))), -⟩ := hf
        obtain ⟨s_3, -⟩ := hsl
        refine sg_t rfl rfl rfl f_10 (fun hg => ?_)
        exact or_move (s_3.trans e116_3)
      refine steps_cons (fun own a wx hf hsl hE => ?_) ?_
      · obtain ⟨(f_10 : a.eval (.tmp 10) = .bool (decide (1 < (out99.length : Int)))), c_12, -⟩ := hf
        refine sg_t rfl rfl rfl f_10 (fun hg => ?_)
        have f_12 : a.eval (.tmp 12) = .slice A97 out99.length c98 := c_12.1 hg
        exact or_len tu22 f_12 rfl
      refine steps_cons (fun own a wx hf hsl hE => ?_) ?_
      · obtain ⟨(f_10 : a.eval (.tmp 10) = .bool (decide (1 < (out99.length : Int)))), c_13, -⟩ := hf
        refine sg_t rfl rfl rfl f_10 (fun hg => ?_)
        have f_13 : a.eval (.tmp 13) = .int .i64 (out99.length : Int) := c_13.1 hg
        exact or_sub f_13 rfl rfl
      refine steps_cons (fun own a wx hf hsl hE => ?_) ?_
      · obtain ⟨(f_10 : a.eval (.tmp 10) = .bool (decide (1 < (out99.length : Int)))), c_11, c_14, -⟩ := hf
        refine sg_t rfl rfl rfl f_10 (fun hg => ?_)
        have f_11 : a.eval (.tmp 11) = .slice A97 out99.length c98 := c_11.1 hg
        have f_14 : a.eval (.tmp 14) = .int .i64 (sb (out99.length : Int) 1) := c_14.1 hg
        exact or_index (R := R25) (l := out99) tl22 f_11 f_14 (RdO.some_ (RwO.rd b116_A97) (gd_t hx118 hg)) (gd_t hx118 hg)
      refine steps_cons (fun own a wx hf hsl hE => ?_) ?_
      · obtain ⟨(f_10 : a.eval (.tmp 10) = .bool (decide (1 < (out99.length : Int)))), c_15, -⟩ := hf
        refine sg_t rfl rfl rfl f_10 (fun hg => ?_)
        have f_15 : a.eval (.tmp 15) = .pointer (some ((adr A97).add ((sb (out99.length : Int) 1 : Int).toNat * R25.s))) := c_15.1 hg
        exact or_load (l := E25.f x118) ta25 f_15 (RdO.cells (F := E25) (RwO.rd (RwO.evo rfl hE b116_A97)) (gd_t hx118 hg)) rfl
      refine steps_cons (fun own a wx hf hsl hE => ?_) ?_
      · obtain ⟨(f_10 : a.eval (.tmp 10) = .bool (decide (1 < (out99.length : Int)))), -⟩ := hf
        obtain ⟨s_3, -⟩ := hsl
        refine sg_t rfl rfl rfl f_10 (fun hg => ?_)
        exact or_move (s_3.trans e116_3)
      refine steps_cons (fun own a wx hf hsl hE => ?_) ?_
      · obtain ⟨(f_10 : a.eval (.tmp 10) = .bool (decide (1 < (out99.length : Int)))), c_17, -⟩ := hf
        refine sg_t rfl rfl rfl f_10 (fun hg => ?_)
        have f_17 : a.eval (.tmp 17) = .slice A97 out99.length c98 := c_17.1 hg
        exact or_index (R := R25) (l := out99) tl22 f_17 rfl (RdO.some_ (RwO.rd b116_A97) (gd_t hx119 hg)) (gd_t hx119 hg)
      refine steps_cons (fun own a wx hf hsl hE => ?_) ?_
      · obtain ⟨(f_10 : a.eval (.tmp 10) = .bool (decide (1 < (out99.length : Int)))), c_18, -⟩ := hf
        refine sg_t rfl rfl rfl f_10 (fun hg => ?_)
        have f_18 : a.eval (.tmp 18) = .pointer (some ((adr A97).add ((0 : Int).toNat * R25.s))) := c_18.1 hg
        exact or_load (l := E25.f x119) ta25 f_18 (RdO.cells (F := E25) (RwO.rd (RwO.evo rfl hE b116_A97)) (gd_t hx119 hg)) rfl
      refine steps_cons (fun own a wx hf hsl hE => ?_) ?_
      · obtain ⟨(f_10 : a.eval (.tmp 10) = .bool (decide (1 < (out99.length : Int)))), c_16, c_19, -⟩ := hf
        refine sg_t rfl rfl rfl f_10 (fun hg => ?_)
        have f_16 : a.eval (.tmp 16) = .agg #[.int .i64 x118.1, .int .i64 x118.2] := c_16.1 hg
        have f_19 : a.eval (.tmp 19) = .agg #[.int .i64 x119.1, .int .i64 x119.2] := c_19.1 hg
        exact or_eqlA sg25 f_16 f_19 (se25 x118.1 x118.2 x119.1 x119.2 _) rfl
      refine steps_cons (fun own a wx hf hsl hE => ?_) ?_
      · obtain ⟨(f_10 : a.eval (.tmp 10) = .bool (decide (1 < (out99.length : Int)))), c_20, -⟩ := hf
        exact sg_plain rfl rfl (or_and f_10 (fun hx => c_20.1 hx) rfl (osome hx120).symm)
      exact steps_nil
    intro own121 a121 w121 hd121 hz121 hk121 hf121 hE121
    have e121_3 : a121.eval (.tmp 3) = .slice A97 out99.length c98 := (hk121 3 rfl).trans e116_3
    obtain ⟨(f_21 : a121.eval (.tmp 21) = .bool x120), -⟩ := hf121 [14] rfl
    have e121_21 := f_21
    have hX121 := Evo.step hE116 (fun _ => Nat.le_refl 0) hE121 rfl
    have b121_A97 := RwO.evo rfl hE121 b116_A97
    refine fl_cond e121_21 hs (fun c122 hs => ?_) (fun c122 hs => ?_)
    · refine fl_skip ?_
      refine hn117 _ _ ?_
      refine fl_block (fun Q123 hn123 hx123 hp123 => ?_)
      obtain ⟨x126, hx126, hs⟩ := obind hs
      refine rg_plain (n := 29) (rs := [Fct.rowAt 100 [] 25 R25 A97 c98 out99]) (own0 := own121) (K := [100])
          (bs := [0, 0, 2, 6, 15, 31])
          (ds := [⟨[], [3], [], Fct.val 22 (.slice A97 out99.length c98)⟩,
          ⟨[], [3], [], Fct.val 23 (.slice A97 out99.length c98)⟩,
          ⟨[1], [], [], Fct.val 24 (.int .i64 (out99.length : Int))⟩,
          ⟨[2], [], [], Fct.val 25 (.int .i64 (sb (out99.length : Int) 1))⟩,
          ⟨[0, 3, 6], [], [100], Fct.row 128 [] 26 25 R25 x126⟩,
          ⟨[4], [], [], Fct.rel [3, 26] (fun l => ∀ (A127 : Option Addr) (cA127 : Nat), l.getD 1 undef = .slice A127 x126.length cA127 → l.getD 0 undef = .slice A127 x126.length cA127)⟩]) (by kernel_rfl) hz121 hd121 (by simp only [List.forall_mem_cons]; exact ⟨b121_A97, fun _ h => nomatch h⟩) ?_ ?_
      · refine steps_cons (fun own a wx hf hsl hE => ?_) ?_
        · obtain ⟨s_3, -⟩ := hsl
          exact sg_plain rfl rfl (or_move (s_3.trans e121_3))
        refine steps_cons (fun own a wx hf hsl hE => ?_) ?_
        · obtain ⟨s_3, -⟩ := hsl
          exact sg_plain rfl rfl (or_move (s_3.trans e121_3))
        refine steps_cons (fun own a wx hf hsl hE => ?_) ?_
        · obtain ⟨(f_23 : a.eval (.tmp 23) = .slice A97 out99.length c98), -⟩ := hf
          exact sg_plain rfl rfl (or_len tu22 f_23 rfl)
        refine steps_cons (fun own a wx hf hsl hE => ?_) ?_
        · obtain ⟨(f_24 : a.eval (.tmp 24) = .int .i64 (out99.length : Int)), -⟩ := hf
          exact sg_plain rfl rfl (or_sub f_24 rfl rfl)
        refine steps_cons (fun own a wx hf hsl hE => ?_) ?_
        · obtain ⟨(f_22 : a.eval (.tmp 22) = .slice A97 out99.length c98), (f_25 : a.eval (.tmp 25) = .int .i64 (sb (out99.length : Int) 1)), (b_A97 : RwO own 100 [] wx 25 R25 A97 c98 out99), -⟩ := hf
          exact sg_plain rfl rfl (or_keep (R := R25) (lab := 100) (lab2 := 128) tu22 ts25 f_22 (Bnd.some_ f_25) b_A97 hx126 (mem_of rfl) (by decide) (.inl (Rep.fl_flat _)))
        refine steps_cons (fun own a wx hf hsl hE => ?_) ?_
        · obtain ⟨⟨⟨A127, cA127⟩, (f_26 : a.eval (.tmp 26) = .slice A127 x126.length cA127), (b_A127 : RwO own 128 [] wx 25 R25 A127 cA127 x126)⟩, -⟩ := hf
          exact sg_plain rfl rfl (or_mono (f := Fct.val 3 (.slice A127 x126.length cA127)) (or_assign f_26) (fun own' a' w' v' hp h => fun _ _ h0' => by cases (f_26.symm.trans ((hp.2 26 (by decide)).symm.trans h0')); exact h))
        exact steps_nil
      intro own129 a129 w129 hd129 hz129 hk129 hf129 hE129
      obtain ⟨⟨⟨A127, cA127⟩, (f_26 : a129.eval (.tmp 26) = .slice A127 x126.length cA127), (b_A127 : RwO own129 128 [] w129 25 R25 A127 cA127 x126)⟩, (q_3 : ∀ (A127 : Option Addr) (cA127 : Nat), a129.eval (.tmp 26) = .slice A127 x126.length cA127 → a129.eval (.tmp 3) = .slice A127 x126.length cA127), -⟩ := hf129 [4, 5] rfl
      have f_3 := q_3 _ _ f_26
      have e129_3 := f_3
      have hX129 := Evo.step hX121 (fun _ => Nat.le_refl 0) hE129 rfl
      have b129_A127 := b_A127
      refine hn123 _ _ ?_
      exact hn115 _ _ _ hs ⟨(rl [(128, 100)] own129), A127, cA127, hd129, hz129, e129_3, (Evo.rl_ hX129 (fun _ => Nat.le_refl 0) rfl), (RwO.rl_ (mm := [(128, 100)]) b129_A127)⟩
    refine fl_exit ?_
    refine hp117 _ _ _ rfl ?_
    replace hs := hz115 _ hs
    refine hp115 _ _ _ rfl ?_
    refine hx82 _ _ ?_
    refine hn81 _ _ ?_
    obtain ⟨r130, hr130, hs⟩ := obind hs
    refine rg_plain_seq (n := 29) (rs := []) (own0 := own121) (K := [])
        (bs := [0, 1, 3])
        (ds := [⟨[], [3], [], Fct.val 27 (.slice A97 out99.length c98)⟩,
        ⟨[0], [], [], Fct.mems [132, 133, 100] 28 (fun (x : Option Addr × Nat) => .slice x.1 r130.length x.2) (fun (x : Option Addr × Nat) own w => RdO own [132, 133, 100] w R25 x.1 x.2 r130) (fun hk he h => RdO.evo (hits_sub hk (by decide)) he h)⟩,
        ⟨[1], [], [], Fct.rel [2, 28] (fun l => ∀ (A131 : Option Addr) (cA131 : Nat), l.getD 1 undef = .slice A131 r130.length cA131 → l.getD 0 undef = .slice A131 r130.length cA131)⟩]) (by kernel_rfl) hz121 hd121 (fun _ h => nomatch h) ?_ ?_
    · refine steps_cons (fun own a wx hf hsl hE => ?_) ?_
      · obtain ⟨s_3, -⟩ := hsl
        exact sg_plain rfl rfl (or_move (s_3.trans e121_3))
      refine steps_cons (fun own a wx hf hsl hE => ?_) ?_
      · obtain ⟨(f_27 : a.eval (.tmp 27) = .slice A97 out99.length c98), -⟩ := hf
        exact sg_plain rfl rfl (or_call cf31 (args1 f_27) (slices_Clip_api_Point_api_Point_w _ (forth own (inL [100])) out99 A97 c98 inL_le (RdO.alias_ (La := [100]) (RwO.rd (RwO.evo rfl hE b121_A97)) (by decide)) r130 hr130) (post_alias (La := [100]) (m' := (look0 [(1, 132), (2, 133)])) (fun own' w' a' x ho hsz h1 h => ⟨x, h1, RdO.backN_ ho hsz h (by decide) (by decide) (by decide)⟩)))
      refine steps_cons (fun own a wx hf hsl hE => ?_) ?_
      · obtain ⟨⟨⟨A131, cA131⟩, (f_28 : a.eval (.tmp 28) = .slice A131 r130.length cA131), (b_A131 : RdO own [132, 133, 100] wx R25 A131 cA131 r130)⟩, -⟩ := hf
        exact sg_plain rfl rfl (or_mono (f := Fct.val 2 (.slice A131 r130.length cA131)) (or_assign f_28) (fun own' a' w' v' hp h => fun _ _ h0' => by cases (f_28.symm.trans ((hp.2 28 (by decide)).symm.trans h0')); exact h))
      exact steps_nil
    intro own134 a134 w134 hd134 hz134 hk134 hf134 hE134
    obtain ⟨⟨⟨A131, cA131⟩, (f_28 : a134.eval (.tmp 28) = .slice A131 r130.length cA131), (b_A131 : RdO own134 [132, 133, 100] w134 R25 A131 cA131 r130)⟩, (q_2 : ∀ (A131 : Option Addr) (cA131 : Nat), a134.eval (.tmp 28) = .slice A131 r130.length cA131 → a134.eval (.tmp 2) = .slice A131 r130.length cA131), -⟩ := hf134 [1, 2] rfl
    have f_2 := q_2 _ _ f_28
    have e134_2 := f_2
    have hX134 := Evo.step hX121 (fun _ => Nat.le_refl 0) hE134 rfl
    have b134_A131 := b_A131
    refine fl_ret ?_
    obtain rfl := (osome hs).symm
    exact hret _ _ _ _ (.inl rfl) hd134 (results1_ rfl (RVal.tmp_ e134_2)) ⟨(rl [(100, 1), (132, 1), (133, 1)] own134), (A131, cA131), rfl, (Evo.rl_ hX134 (fun _ => Nat.le_refl 0) rfl), (RdO.more (RdO.rl_ (mm := [(100, 1), (132, 1), (133, 1)]) b134_A131) (by decide))⟩

theorem polyclip_sides_w (w : World) (b1 : (Int × Int) × (Int × Int)) (r : (Int × Bool × Bool) × (Int × Bool × Bool) × (Int × Bool × Bool) × (Int × Bool × Bool)) (hs : polyclip_sides b1 = some r) :
    Calls Try.prog 27 #[.agg #[.int .i64 b1.1.1, .int .i64 b1.1.2, .int .i64 b1.2.1, .int .i64 b1.2.2]] w fun e w' => ∃ own' : Own, e = .returned (.agg #[.int .i64 r.1.1, .bool r.1.2.1, .bool r.1.2.2, .int .i64 r.2.1.1, .bool r.2.1.2.1, .bool r.2.1.2.2, .int .i64 r.2.2.1.1, .bool r.2.2.1.2.1, .bool r.2.2.1.2.2, .int .i64 r.2.2.2.1, .bool r.2.2.2.2.1, .bool r.2.2.2.2.2]) ∧ Evo [] (fun _ => 0) own' w w' := by
  refine fl_enter (n := 20) rfl rfl rfl (Nat.le_of_ble_eq_true rfl) ?_
  intro a0 Q hd0 hz0 harg hret
  have ha0 := harg 0 _ rfl
  clear harg
  have hE0 : Evo [] (fun _ => 0) (fun _ => 0) w w := Evo.refl _ _ _
  refine rg_plain_seq (n := 20) (rs := []) (own0 := (fun _ => 0)) (K := [])
      (bs := [0, 0])
      (ds := [⟨[], [0], [], Fct.blk 19 1 (fun g => .pointer (some ⟨g, 0, none⟩)) 31 #[.int .i64 b1.1.1, .int .i64 b1.1.2, .int .i64 b1.2.1, .int .i64 b1.2.2]⟩,
      ⟨[], [], [], Fct.blk 21 2 (fun g => .pointer (some ⟨g, 0, none⟩)) 57 #[.int .i64 0, .bool false, .bool false, .int .i64 0, .bool false, .bool false, .int .i64 0, .bool false, .bool false, .int .i64 0, .bool false, .bool false]⟩]) (by kernel_rfl) hz0 hd0 (fun _ h => nomatch h) ?_ ?_
  · refine steps_cons (fun own a wx hf hsl hE => ?_) ?_
    · obtain ⟨s_0, -⟩ := hsl
      exact sg_plain rfl rfl (or_new [(0, .agg #[.int .i64 b1.1.1, .int .i64 b1.1.2, .int .i64 b1.2.1, .int .i64 b1.2.2])] rfl rfl ⟨(s_0.trans ha0), trivial⟩ (by kernel_rfl))
    refine steps_cons (fun own a wx hf hsl hE => ?_) ?_
    · exact sg_plain rfl rfl (or_new [] rfl rfl trivial (by kernel_rfl))
    exact steps_nil
  intro own22 a22 w22 hd22 hz22 hk22 hf22 hE22
  obtain ⟨⟨g18, (f_1 : a22.eval (.tmp 1) = .pointer (some ⟨g18, 0, none⟩)), (b_g18 : BlkO own22 19 w22 g18 31 #[.int .i64 b1.1.1, .int .i64 b1.1.2, .int .i64 b1.2.1, .int .i64 b1.2.2])⟩, ⟨g20, (f_2 : a22.eval (.tmp 2) = .pointer (some ⟨g20, 0, none⟩)), (b_g20 : BlkO own22 21 w22 g20 57 #[.int .i64 0, .bool false, .bool false, .int .i64 0, .bool false, .bool false, .int .i64 0, .bool false, .bool false, .int .i64 0, .bool false, .bool false])⟩, -⟩ := hf22 [0, 1] rfl
  have e22_1 := f_1
  have e22_2 := f_2
  have hX22 := Evo.step hE0 (fun _ => Nat.le_refl 0) hE22 rfl
  have b22_g18 := b_g18
  have b22_g20 := b_g20
  refine rg_plain_seq (n := 20) (rs := [Fct.at_ 21 g20 57 #[.int .i64 0, .bool false, .bool false, .int .i64 0, .bool false, .bool false, .int .i64 0, .bool false, .bool false, .int .i64 0, .bool false, .bool false]]) (own0 := own22) (K := [21])
      (bs := [0, 1, 3, 7, 0, 16, 48, 112, 0, 256, 768, 1792, 0, 4096, 12288, 28672, 65535, 131071])
      (ds := [⟨[], [1], [], Fct.val 3 (.pointer (some ⟨g18, 0, none⟩))⟩,
      ⟨[0], [], [], Fct.val 4 (.pointer (some ⟨g18, 0, none⟩))⟩,
      ⟨[1], [], [], Fct.val 5 (.int .i64 b1.1.1)⟩,
      ⟨[2], [], [], Fct.val 6 (.agg #[.int .i64 b1.1.1, .bool true, .bool false])⟩,
      ⟨[], [1], [], Fct.val 7 (.pointer (some ⟨g18, 2, none⟩))⟩,
      ⟨[4], [], [], Fct.val 8 (.pointer (some ⟨g18, 2, none⟩))⟩,
      ⟨[5], [], [], Fct.val 9 (.int .i64 b1.2.1)⟩,
      ⟨[6], [], [], Fct.val 10 (.agg #[.int .i64 b1.2.1, .bool false, .bool false])⟩,
      ⟨[], [1], [], Fct.val 11 (.pointer (some ⟨g18, 0, none⟩))⟩,
      ⟨[8], [], [], Fct.val 12 (.pointer (some ⟨g18, 1, none⟩))⟩,
      ⟨[9], [], [], Fct.val 13 (.int .i64 b1.1.2)⟩,
      ⟨[10], [], [], Fct.val 14 (.agg #[.int .i64 b1.1.2, .bool true, .bool true])⟩,
      ⟨[], [1], [], Fct.val 15 (.pointer (some ⟨g18, 2, none⟩))⟩,
      ⟨[12], [], [], Fct.val 16 (.pointer (some ⟨g18, 3, none⟩))⟩,
      ⟨[13], [], [], Fct.val 17 (.int .i64 b1.2.2)⟩,
      ⟨[14], [], [], Fct.val 18 (.agg #[.int .i64 b1.2.2, .bool false, .bool true])⟩,
      ⟨[3, 7, 11, 15], [], [], Fct.val 19 (.agg #[.int .i64 b1.1.1, .bool true, .bool false, .int .i64 b1.2.1, .bool false, .bool false, .int .i64 b1.1.2, .bool true, .bool true, .int .i64 b1.2.2, .bool false, .bool true])⟩,
      ⟨[16, 18], [2], [21], Fct.at_ 23 g20 57 #[.int .i64 b1.1.1, .bool true, .bool false, .int .i64 b1.2.1, .bool false, .bool false, .int .i64 b1.1.2, .bool true, .bool true, .int .i64 b1.2.2, .bool false, .bool true]⟩]) (by kernel_rfl) hz22 hd22 (by simp only [List.forall_mem_cons]; exact ⟨b22_g20, fun _ h => nomatch h⟩) ?_ ?_
  · refine steps_cons (fun own a wx hf hsl hE => ?_) ?_
    · obtain ⟨s_1, -⟩ := hsl
      exact sg_plain rfl rfl (or_field fo31_0 (s_1.trans e22_1) (by rfl))
    refine steps_cons (fun own a wx hf hsl hE => ?_) ?_
    · obtain ⟨(f_3 : a.eval (.tmp 3) = .pointer (some ⟨g18, 0, none⟩)), -⟩ := hf
      exact sg_plain rfl rfl (or_field fo25_0 f_3 (by rfl))
    refine steps_cons (fun own a wx hf hsl hE => ?_) ?_
    · obtain ⟨(f_4 : a.eval (.tmp 4) = .pointer (some ⟨g18, 0, none⟩)), -⟩ := hf
      exact sg_plain rfl rfl (or_load1 to3 f_4 (Blk.at_ (BlkO.evo (by decide) hE b22_g18).2 0 rfl))
    refine steps_cons (fun own a wx hf hsl hE => ?_) ?_
    · obtain ⟨(f_5 : a.eval (.tmp 5) = .int .i64 b1.1.1), -⟩ := hf
      exact sg_plain rfl rfl (or_k [(5, .int .i64 b1.1.1)] rfl rfl ⟨f_5, trivial⟩ (by kernel_rfl))
    refine steps_cons (fun own a wx hf hsl hE => ?_) ?_
    · obtain ⟨s_1, -⟩ := hsl
      exact sg_plain rfl rfl (or_field fo31_1 (s_1.trans e22_1) (by rfl))
    refine steps_cons (fun own a wx hf hsl hE => ?_) ?_
    · obtain ⟨(f_7 : a.eval (.tmp 7) = .pointer (some ⟨g18, 2, none⟩)), -⟩ := hf
      exact sg_plain rfl rfl (or_field fo25_0 f_7 (by rfl))
    refine steps_cons (fun own a wx hf hsl hE => ?_) ?_
    · obtain ⟨(f_8 : a.eval (.tmp 8) = .pointer (some ⟨g18, 2, none⟩)), -⟩ := hf
      exact sg_plain rfl rfl (or_load1 to3 f_8 (Blk.at_ (BlkO.evo (by decide) hE b22_g18).2 2 rfl))
    refine steps_cons (fun own a wx hf hsl hE => ?_) ?_
    · obtain ⟨(f_9 : a.eval (.tmp 9) = .int .i64 b1.2.1), -⟩ := hf
      exact sg_plain rfl rfl (or_k [(9, .int .i64 b1.2.1)] rfl rfl ⟨f_9, trivial⟩ (by kernel_rfl))
    refine steps_cons (fun own a wx hf hsl hE => ?_) ?_
    · obtain ⟨s_1, -⟩ := hsl
      exact sg_plain rfl rfl (or_field fo31_0 (s_1.trans e22_1) (by rfl))
    refine steps_cons (fun own a wx hf hsl hE => ?_) ?_
    · obtain ⟨(f_11 : a.eval (.tmp 11) = .pointer (some ⟨g18, 0, none⟩)), -⟩ := hf
      exact sg_plain rfl rfl (or_field fo25_1 f_11 (by rfl))
    refine steps_cons (fun own a wx hf hsl hE => ?_) ?_
    · obtain ⟨(f_12 : a.eval (.tmp 12) = .pointer (some ⟨g18, 1, none⟩)), -⟩ := hf
      exact sg_plain rfl rfl (or_load1 to3 f_12 (Blk.at_ (BlkO.evo (by decide) hE b22_g18).2 1 rfl))
    refine steps_cons (fun own a wx hf hsl hE => ?_) ?_
    · obtain ⟨(f_13 : a.eval (.tmp 13) = .int .i64 b1.1.2), -⟩ := hf
      exact sg_plain rfl rfl (or_k [(13, .int .i64 b1.1.2)] rfl rfl ⟨f_13, trivial⟩ (by kernel_rfl))
    refine steps_cons (fun own a wx hf hsl hE => ?_) ?_
    · obtain ⟨s_1, -⟩ := hsl
      exact sg_plain rfl rfl (or_field fo31_1 (s_1.trans e22_1) (by rfl))
    refine steps_cons (fun own a wx hf hsl hE => ?_) ?_
    · obtain ⟨(f_15 : a.eval (.tmp 15) = .pointer (some ⟨g18, 2, none⟩)), -⟩ := hf
      exact sg_plain rfl rfl (or_field fo25_1 f_15 (by rfl))
    refine steps_cons (fun own a wx hf hsl hE => ?_) ?_
    · obtain ⟨(f_16 : a.eval (.tmp 16) = .pointer (some ⟨g18, 3, none⟩)), -⟩ := hf
      exact sg_plain rfl rfl (or_load1 to3 f_16 (Blk.at_ (BlkO.evo (by decide) hE b22_g18).2 3 rfl))
    refine steps_cons (fun own a wx hf hsl hE => ?_) ?_
    · obtain ⟨(f_17 : a.eval (.tmp 17) = .int .i64 b1.2.2), -⟩ := hf
      exact sg_plain rfl rfl (or_k [(17, .int .i64 b1.2.2)] rfl rfl ⟨f_17, trivial⟩ (by kernel_rfl))
    refine steps_cons (fun own a wx hf hsl hE => ?_) ?_
    · obtain ⟨(f_6 : a.eval (.tmp 6) = .agg #[.int .i64 b1.1.1, .bool true, .bool false]), (f_10 : a.eval (.tmp 10) = .agg #[.int .i64 b1.2.1, .bool false, .bool false]), (f_14 : a.eval (.tmp 14) = .agg #[.int .i64 b1.1.2, .bool true, .bool true]), (f_18 : a.eval (.tmp 18) = .agg #[.int .i64 b1.2.2, .bool false, .bool true]), -⟩ := hf
      exact sg_plain rfl rfl (or_k [(6, .agg #[.int .i64 b1.1.1, .bool true, .bool false]), (10, .agg #[.int .i64 b1.2.1, .bool false, .bool false]), (14, .agg #[.int .i64 b1.1.2, .bool true, .bool true]), (18, .agg #[.int .i64 b1.2.2, .bool false, .bool true])] rfl rfl ⟨f_6, f_10, f_14, f_18, trivial⟩ (by kernel_rfl))
    refine steps_cons (fun own a wx hf hsl hE => ?_) ?_
    · obtain ⟨(f_19 : a.eval (.tmp 19) = .agg #[.int .i64 b1.1.1, .bool true, .bool false, .int .i64 b1.2.1, .bool false, .bool false, .int .i64 b1.1.2, .bool true, .bool true, .int .i64 b1.2.2, .bool false, .bool true]), (b_g20 : BlkO own 21 wx g20 57 #[.int .i64 0, .bool false, .bool false, .int .i64 0, .bool false, .bool false, .int .i64 0, .bool false, .bool false, .int .i64 0, .bool false, .bool false]), -⟩ := hf
      obtain ⟨s_2, -⟩ := hsl
      exact sg_plain rfl rfl (or_store (l := #[.int .i64 b1.1.1, .bool true, .bool false, .int .i64 b1.2.1, .bool false, .bool false, .int .i64 b1.1.2, .bool true, .bool true, .int .i64 b1.2.2, .bool false, .bool true]) (lab := 21) (lab2 := 23) ts57 (s_2.trans e22_2) f_19 b_g20 (by simp) (by kernel_rfl) (mem_of rfl) (by decide) (by kernel_rfl) (fun own' a' w' ha hb => hb))
    exact steps_nil
  intro own24 a24 w24 hd24 hz24 hk24 hf24 hE24
  have e24_2 : a24.eval (.tmp 2) = .pointer (some ⟨g20, 0, none⟩) := (hk24 2 rfl).trans e22_2
  obtain ⟨(b_g20 : BlkO own24 23 w24 g20 57 #[.int .i64 b1.1.1, .bool true, .bool false, .int .i64 b1.2.1, .bool false, .bool false, .int .i64 b1.1.2, .bool true, .bool true, .int .i64 b1.2.2, .bool false, .bool true]), -⟩ := hf24 [17] rfl
  have hX24 := Evo.step hX22 (fun _ => Nat.le_refl 0) hE24 rfl
  have b24_g20 := b_g20
  refine fl_ret ?_
  obtain rfl := osome hs
  exact hret _ _ _ _ (.inl rfl) hd24 (results1_ rfl (RVal.cell_ e24_2 (run_loadVarAgg (l := [.int .i64 b1.1.1, .bool true, .bool false, .int .i64 b1.2.1, .bool false, .bool false, .int .i64 b1.1.2, .bool true, .bool true, .int .i64 b1.2.2, .bool false, .bool true]) ta57 (Blk.cellsFrom b24_g20.2 0 rfl) rfl))) ⟨own24, rfl, hX24⟩

theorem polyclip_Ring_w (w : World) (l1 : List (Int × Int)) (Al1 : Option Addr) (cl1 : Nat) (b2 : (Int × Int) × (Int × Int)) (hl1 : RdO (fun _ => 0) [0] w R25 Al1 cl1 l1) (r : List (Int × Int)) (hs : polyclip_Ring l1 b2 = some r) :
    Calls Try.prog 10 #[.slice Al1 l1.length cl1, .agg #[.int .i64 b2.1.1, .int .i64 b2.1.2, .int .i64 b2.2.1, .int .i64 b2.2.2]] w fun e w' => ∃ (own' : Own) (x : Option Addr × Nat), e = .returned (.slice x.1 r.length x.2) ∧ Evo [] (fun _ => 0) own' w w' ∧ RdO own' [1] w' R25 x.1 x.2 r := by
  refine fl_enter (n := 40) rfl rfl rfl (Nat.le_of_ble_eq_true rfl) ?_
  intro a0 Q hd0 hz0 harg hret
  have ha0 := harg 0 _ rfl
  have ha1 := harg 1 _ rfl
  clear harg
  have hE0 : Evo [] (fun _ => 0) (fun _ => 0) w w := Evo.refl _ _ _
  refine rg_plain_seq (n := 40) (rs := []) (own0 := (fun _ => 0)) (K := [])
      (bs := [0, 0])
      (ds := [⟨[], [1], [], Fct.blk 88 3 (fun g => .pointer (some ⟨g, 0, none⟩)) 31 #[.int .i64 b2.1.1, .int .i64 b2.1.2, .int .i64 b2.2.1, .int .i64 b2.2.2]⟩,
      ⟨[], [], [], Fct.val 4 (.slice none 0 0)⟩]) (by kernel_rfl) hz0 hd0 (fun _ h => nomatch h) ?_ ?_
  · refine steps_cons (fun own a wx hf hsl hE => ?_) ?_
    · obtain ⟨s_1, -⟩ := hsl
      exact sg_plain rfl rfl (or_new [(1, .agg #[.int .i64 b2.1.1, .int .i64 b2.1.2, .int .i64 b2.2.1, .int .i64 b2.2.2])] rfl rfl ⟨(s_1.trans ha1), trivial⟩ (by kernel_rfl))
    refine steps_cons (fun own a wx hf hsl hE => ?_) ?_
    · exact sg_plain rfl rfl (or_assign rfl)
    exact steps_nil
  intro own89 a89 w89 hd89 hz89 hk89 hf89 hE89
  have e89_0 : a89.eval (.tmp 0) = .slice Al1 l1.length cl1 := (hk89 0 rfl).trans ha0
  obtain ⟨⟨g87, (f_3 : a89.eval (.tmp 3) = .pointer (some ⟨g87, 0, none⟩)), (b_g87 : BlkO own89 88 w89 g87 31 #[.int .i64 b2.1.1, .int .i64 b2.1.2, .int .i64 b2.2.1, .int .i64 b2.2.2])⟩, -⟩ := hf89 [0] rfl
  have e89_3 := f_3
  have hX89 := Evo.step hE0 (fun _ => Nat.le_refl 0) hE89 rfl
  have b89_Al1 := RdO.evo rfl hE89 hl1
  have b89_g87 := b_g87
  refine fl_seq (fun Q90 hn90 hp90 => ?_)
  obtain ⟨r91, hr91, hs⟩ := obind hs
  obtain ⟨r92, hr92, hs⟩ := obind hs
  refine rg_plain_seq (n := 40) (rs := []) (own0 := own89) (K := [])
      (bs := [0, 1, 3, 7, 15, 31, 63, 127])
      (ds := [⟨[], [0], [], Fct.val 7 (.slice Al1 l1.length cl1)⟩,
      ⟨[0], [], [], Fct.val 8 (.bool r91)⟩,
      ⟨[1], [], [], Fct.val 9 (.bool (!r91))⟩,
      ⟨[2], [], [], Fct.val 10 (.bool (!r91))⟩,
      ⟨[3], [3], [], Fct.cond (!(!r91)) (some 11) (Fct.val 11 (.agg #[.int .i64 b2.1.1, .int .i64 b2.1.2, .int .i64 b2.2.1, .int .i64 b2.2.2]))⟩,
      ⟨[3, 4], [], [], Fct.cond (!(!r91)) (some 12) (Fct.val 12 (.bool r92))⟩,
      ⟨[3, 5], [], [], Fct.cond (!(!r91)) (some 13) (Fct.val 13 (.bool (!r92)))⟩,
      ⟨[3, 6], [], [], Fct.val 14 (.bool ((!r91) || (!r92)))⟩]) (by kernel_rfl) hz89 hd89 (fun _ h => nomatch h) ?_ ?_
  · refine steps_cons (fun own a wx hf hsl hE => ?_) ?_
    · obtain ⟨s_0, -⟩ := hsl
      exact sg_plain rfl rfl (or_move (s_0.trans e89_0))
    refine steps_cons (fun own a wx hf hsl hE => ?_) ?_
    · obtain ⟨(f_7 : a.eval (.tmp 7) = .slice Al1 l1.length cl1), -⟩ := hf
      exact sg_plain rfl rfl (or_call cf24 (args1 f_7) (exact_Right_w _ l1 Al1 cl1 (RdO.zero (RdO.evo rfl hE b89_Al1)) r91 hr91) post_val)
    refine steps_cons (fun own a wx hf hsl hE => ?_) ?_
    · obtain ⟨(f_8 : a.eval (.tmp 8) = .bool r91), -⟩ := hf
      exact sg_plain rfl rfl (or_not f_8 rfl)
    refine steps_cons (fun own a wx hf hsl hE => ?_) ?_
    · obtain ⟨(f_9 : a.eval (.tmp 9) = .bool (!r91)), -⟩ := hf
      exact sg_plain rfl rfl (or_move f_9)
    refine steps_cons (fun own a wx hf hsl hE => ?_) ?_
    · obtain ⟨(f_10 : a.eval (.tmp 10) = .bool (!r91)), -⟩ := hf
      obtain ⟨s_3, -⟩ := hsl
      refine sg_f rfl rfl rfl f_10 (fun hg => ?_)
      exact or_load (l := [.int .i64 b2.1.1, .int .i64 b2.1.2, .int .i64 b2.2.1, .int .i64 b2.2.2]) ta31 (s_3.trans e89_3) (Blk.cellsFrom (BlkO.evo (by decide) hE b89_g87).2 0 rfl) rfl
    refine steps_cons (fun own a wx hf hsl hE => ?_) ?_
    · obtain ⟨(f_10 : a.eval (.tmp 10) = .bool (!r91)), c_11, -⟩ := hf
      refine sg_f rfl rfl rfl f_10 (fun hg => ?_)
      have f_11 : a.eval (.tmp 11) = .agg #[.int .i64 b2.1.1, .int .i64 b2.1.2, .int .i64 b2.2.1, .int .i64 b2.2.2] := c_11.1 hg
      exact or_call cf14 (args1 f_11) (rows_Right_w _ b2  r92 (gd_t hr92 hg)) post_val
    refine steps_cons (fun own a wx hf hsl hE => ?_) ?_
    · obtain ⟨(f_10 : a.eval (.tmp 10) = .bool (!r91)), c_12, -⟩ := hf
      refine sg_f rfl rfl rfl f_10 (fun hg => ?_)
      have f_12 : a.eval (.tmp 12) = .bool r92 := c_12.1 hg
      exact or_not f_12 rfl
    refine steps_cons (fun own a wx hf hsl hE => ?_) ?_
    · obtain ⟨(f_10 : a.eval (.tmp 10) = .bool (!r91)), c_13, -⟩ := hf
      exact sg_plain rfl rfl (or_or f_10 rfl (fun hx => c_13.1 hx) rfl)
    exact steps_nil
  intro own93 a93 w93 hd93 hz93 hk93 hf93 hE93
  have e93_0 : a93.eval (.tmp 0) = .slice Al1 l1.length cl1 := (hk93 0 rfl).trans e89_0
  have e93_3 : a93.eval (.tmp 3) = .pointer (some ⟨g87, 0, none⟩) := (hk93 3 rfl).trans e89_3
  obtain ⟨(f_14 : a93.eval (.tmp 14) = .bool ((!r91) || (!r92))), -⟩ := hf93 [7] rfl
  have e93_14 := f_14
  have hX93 := Evo.step hX89 (fun _ => Nat.le_refl 0) hE93 rfl
  have b93_Al1 := RdO.evo rfl hE93 b89_Al1
  have b93_g87 := BlkO.evo (by decide) hE93 b89_g87
  refine fl_cond e93_14 hs (fun c94 hs => ?_) (fun c94 hs => ?_)
  · refine rg_plain_seq (n := 40) (rs := []) (own0 := own93) (K := [])
        (bs := [0])
        (ds := [⟨[], [], [], Fct.val 4 (.slice none 0 0)⟩]) (by kernel_rfl) hz93 hd93 (fun _ h => nomatch h) ?_ ?_
    · refine steps_cons (fun own a wx hf hsl hE => ?_) ?_
      · exact sg_plain rfl rfl (or_assign rfl)
      exact steps_nil
    intro own95 a95 w95 hd95 hz95 hk95 hf95 hE95
    obtain ⟨(f_4 : a95.eval (.tmp 4) = .slice none 0 0), -⟩ := hf95 [0] rfl
    have e95_4 := f_4
    have hX95 := Evo.step hX93 (fun _ => Nat.le_refl 0) hE95 rfl
    refine fl_ret ?_
    refine hp90 _ _ _ rfl ?_
    obtain rfl := osome hs
    exact hret _ _ _ _ (.inl rfl) hd95 (results1_ rfl (RVal.tmp_ e95_4)) ⟨own95, (none, 0), rfl, hX95, RdO.nil_⟩
  refine fl_skip ?_
  refine hn90 _ _ ?_
  refine fl_seq (fun Q96 hn96 hp96 => ?_)
  obtain ⟨r97, hr97, hs⟩ := obind hs
  refine rg_plain_seq (n := 40) (rs := []) (own0 := own93) (K := [])
      (bs := [0, 1, 0])
      (ds := [⟨[], [3], [], Fct.val 15 (.agg #[.int .i64 b2.1.1, .int .i64 b2.1.2, .int .i64 b2.2.1, .int .i64 b2.2.2])⟩,
      ⟨[0], [], [], Fct.val 16 (.agg #[.int .i64 r97.1.1, .bool r97.1.2.1, .bool r97.1.2.2, .int .i64 r97.2.1.1, .bool r97.2.1.2.1, .bool r97.2.1.2.2, .int .i64 r97.2.2.1.1, .bool r97.2.2.1.2.1, .bool r97.2.2.1.2.2, .int .i64 r97.2.2.2.1, .bool r97.2.2.2.2.1, .bool r97.2.2.2.2.2])⟩,
      ⟨[], [], [], Fct.val 17 (.int .i64 0)⟩]) (by kernel_rfl) hz93 hd93 (fun _ h => nomatch h) ?_ ?_
  · refine steps_cons (fun own a wx hf hsl hE => ?_) ?_
    · obtain ⟨s_3, -⟩ := hsl
      exact sg_plain rfl rfl (or_load (l := [.int .i64 b2.1.1, .int .i64 b2.1.2, .int .i64 b2.2.1, .int .i64 b2.2.2]) ta31 (s_3.trans e93_3) (Blk.cellsFrom (BlkO.evo (by decide) hE b93_g87).2 0 rfl) rfl)
    refine steps_cons (fun own a wx hf hsl hE => ?_) ?_
    · obtain ⟨(f_15 : a.eval (.tmp 15) = .agg #[.int .i64 b2.1.1, .int .i64 b2.1.2, .int .i64 b2.2.1, .int .i64 b2.2.2]), -⟩ := hf
      exact sg_plain rfl rfl (or_call cf27 (args1 f_15) (polyclip_sides_w _ b2  r97 hr97) post_val)
    refine steps_cons (fun own a wx hf hsl hE => ?_) ?_
    · exact sg_plain rfl rfl (or_move rfl)
    exact steps_nil
  intro own98 a98 w98 hd98 hz98 hk98 hf98 hE98
  have e98_0 : a98.eval (.tmp 0) = .slice Al1 l1.length cl1 := (hk98 0 rfl).trans e93_0
  obtain ⟨(f_16 : a98.eval (.tmp 16) = .agg #[.int .i64 r97.1.1, .bool r97.1.2.1, .bool r97.1.2.2, .int .i64 r97.2.1.1, .bool r97.2.1.2.1, .bool r97.2.1.2.2, .int .i64 r97.2.2.1.1, .bool r97.2.2.1.2.1, .bool r97.2.2.1.2.2, .int .i64 r97.2.2.2.1, .bool r97.2.2.2.2.1, .bool r97.2.2.2.2.2]), (f_17 : a98.eval (.tmp 17) = .int .i64 0), -⟩ := hf98 [1, 2] rfl
  have e98_16 := f_16
  have e98_17 := f_17
  have hX98 := Evo.step hX93 (fun _ => Nat.le_refl 0) hE98 rfl
  have b98_Al1 := RdO.evo rfl hE98 b93_Al1
  refine fl_block (fun Q99 hn99 hx99 hp99 => ?_)
  refine fl_loop (body := (fun s => polyclip_Ring_b1 r97 s.1 s.2)) (z := r) (show loopO _ _ = _ from hs) (fun (s : (List (Int × Int)) × Int) a wx => match s with | (l116, x118) => ∃ (ox : Own) (A114 : Option Addr) (c115 : Nat), a.defers = [] ∧ a.tmps.size = 40 ∧ a.eval (.tmp 0) = .slice A114 l116.length c115 ∧ a.eval (.tmp 16) = .agg #[.int .i64 r97.1.1, .bool r97.1.2.1, .bool r97.1.2.2, .int .i64 r97.2.1.1, .bool r97.2.1.2.1, .bool r97.2.1.2.2, .int .i64 r97.2.2.1.1, .bool r97.2.2.1.2.1, .bool r97.2.2.1.2.2, .int .i64 r97.2.2.2.1, .bool r97.2.2.2.2.1, .bool r97.2.2.2.2.2] ∧ a.eval (.tmp 17) = .int .i64 x118 ∧ Evo [] (fun _ => 0) ox w wx ∧ RdO ox [0, 117] wx R25 A114 c115 l116) ?_ ?_
  · exact ⟨own98, Al1, cl1, hd98, hz98, e98_0, e98_16, e98_17, hX98, (RdO.more b98_Al1 (by decide))⟩
  · rintro ⟨l116, x118⟩ zz135 a135 w135 ⟨own135, A114, c115, hd136, hz136, e136_0, e136_16, e136_17, hE136, b136_A114⟩ hs Q135 hn135 hp135 hz135
    have hs : polyclip_Ring_b1 r97 l116 x118 = some zz135 := hs
    refine rg_plain_seq (n := 40) (rs := []) (own0 := own135) (K := [])
        (bs := [0])
        (ds := [⟨[], [17], [], Fct.val 18 (.bool (decide (x118 < 4)))⟩]) (by kernel_rfl) hz136 hd136 (fun _ h => nomatch h) ?_ ?_
    · refine steps_cons (fun own a wx hf hsl hE => ?_) ?_
      · obtain ⟨s_17, -⟩ := hsl
        exact sg_plain rfl rfl (or_lss (s_17.trans e136_17) rfl rfl)
      exact steps_nil
    intro own137 a137 w137 hd137 hz137 hk137 hf137 hE137
    have e137_0 : a137.eval (.tmp 0) = .slice A114 l116.length c115 := (hk137 0 rfl).trans e136_0
    have e137_16 : a137.eval (.tmp 16) = .agg #[.int .i64 r97.1.1, .bool r97.1.2.1, .bool r97.1.2.2, .int .i64 r97.2.1.1, .bool r97.2.1.2.1, .bool r97.2.1.2.2, .int .i64 r97.2.2.1.1, .bool r97.2.2.1.2.1, .bool r97.2.2.1.2.2, .int .i64 r97.2.2.2.1, .bool r97.2.2.2.2.1, .bool r97.2.2.2.2.2] := (hk137 16 rfl).trans e136_16
    have e137_17 : a137.eval (.tmp 17) = .int .i64 x118 := (hk137 17 rfl).trans e136_17
    obtain ⟨(f_18 : a137.eval (.tmp 18) = .bool (decide (x118 < 4))), -⟩ := hf137 [0] rfl
    have e137_18 := f_18
    have hX137 := Evo.step hE136 (fun _ => Nat.le_refl 0) hE137 rfl
    have b137_A114 := RdO.evo rfl hE137 b136_A114
    refine fl_seq (fun Q138 hn138 hp138 => ?_)
    refine fl_cond e137_18 hs (fun c139 hs => ?_) (fun c139 hs => ?_)
    · refine fl_skip ?_
      refine hn138 _ _ ?_
      refine fl_seq (fun Q140 hn140 hp140 => ?_)
      refine fl_block (fun Q141 hn141 hx141 hp141 => ?_)
      obtain ⟨x142, hx142, hs⟩ := obind hs
      refine rg_plain_seq (n := 40) (rs := []) (own0 := own137) (K := [144])
          (bs := [0, 0, 3])
          (ds := [⟨[], [16, 17], [], Fct.val 19 (.agg #[.int .i64 x142.1, .bool x142.2.1, .bool x142.2.2])⟩,
          ⟨[], [], [], Fct.blk 144 6 (fun g => .pointer (some ⟨g, 0, none⟩)) 56 #[.int .i64 0, .bool false, .bool false]⟩,
          ⟨[1, 0], [], [144], Fct.blk 145 6 (fun g => .pointer (some ⟨g, 0, none⟩)) 56 #[.int .i64 x142.1, .bool x142.2.1, .bool x142.2.2]⟩]) (by kernel_rfl) hz137 hd137 (fun _ h => nomatch h) ?_ ?_
      · refine steps_cons (fun own a wx hf hsl hE => ?_) ?_
        · obtain ⟨s_16, s_17, -⟩ := hsl
          exact sg_plain rfl rfl (or_indexA (F := E56) (l := [r97.1, r97.2.1, r97.2.2.1, r97.2.2.2]) (v := x142) tr57 ta56 rfl (s_16.trans e137_16) rfl (s_17.trans e137_17) hx142)
        refine steps_cons (fun own a wx hf hsl hE => ?_) ?_
        · exact sg_plain rfl rfl (or_new [] rfl rfl trivial (by kernel_rfl))
        refine steps_cons (fun own a wx hf hsl hE => ?_) ?_
        · obtain ⟨⟨g143, (f_6 : a.eval (.tmp 6) = .pointer (some ⟨g143, 0, none⟩)), (b_g143 : BlkO own 144 wx g143 56 #[.int .i64 0, .bool false, .bool false])⟩, (f_19 : a.eval (.tmp 19) = .agg #[.int .i64 x142.1, .bool x142.2.1, .bool x142.2.2]), -⟩ := hf
          exact sg_plain rfl rfl (or_store (l := #[.int .i64 x142.1, .bool x142.2.1, .bool x142.2.2]) (lab := 144) (lab2 := 145) ts56 f_6 f_19 b_g143 (by simp) (by kernel_rfl) (mem_of rfl) (by decide) (by kernel_rfl) (fun own' a' w' ha hb => ⟨_, (ha 6).trans f_6, hb⟩))
        exact steps_nil
      intro own146 a146 w146 hd146 hz146 hk146 hf146 hE146
      have e146_0 : a146.eval (.tmp 0) = .slice A114 l116.length c115 := (hk146 0 rfl).trans e137_0
      have e146_16 : a146.eval (.tmp 16) = .agg #[.int .i64 r97.1.1, .bool r97.1.2.1, .bool r97.1.2.2, .int .i64 r97.2.1.1, .bool r97.2.1.2.1, .bool r97.2.1.2.2, .int .i64 r97.2.2.1.1, .bool r97.2.2.1.2.1, .bool r97.2.2.1.2.2, .int .i64 r97.2.2.2.1, .bool r97.2.2.2.2.1, .bool r97.2.2.2.2.2] := (hk146 16 rfl).trans e137_16
      have e146_17 : a146.eval (.tmp 17) = .int .i64 x118 := (hk146 17 rfl).trans e137_17
      obtain ⟨⟨g143, (f_6 : a146.eval (.tmp 6) = .pointer (some ⟨g143, 0, none⟩)), (b_g143 : BlkO own146 145 w146 g143 56 #[.int .i64 x142.1, .bool x142.2.1, .bool x142.2.2])⟩, -⟩ := hf146 [2] rfl
      have e146_6 := f_6
      have hX146 := Evo.step hX137 (fun _ => Nat.le_refl 0) hE146 rfl
      have b146_A114 := RdO.evo rfl hE146 b137_A114
      have b146_g143 := b_g143
      obtain ⟨r147, hr147, hs⟩ := obind hs
      refine rg_plain (n := 40) (rs := []) (own0 := own146) (K := [])
          (bs := [0, 0, 2, 0, 8, 0, 32, 127, 255])
          (ds := [⟨[], [0], [], Fct.val 20 (.slice A114 l116.length c115)⟩,
          ⟨[], [6], [], Fct.val 21 (.pointer (some ⟨g143, 0, none⟩))⟩,
          ⟨[1], [], [], Fct.val 22 (.int .i64 x142.1)⟩,
          ⟨[], [6], [], Fct.val 23 (.pointer (some ⟨g143, 1, none⟩))⟩,
          ⟨[3], [], [], Fct.val 24 (.bool x142.2.1)⟩,
          ⟨[], [6], [], Fct.val 25 (.pointer (some ⟨g143, 2, none⟩))⟩,
          ⟨[5], [], [], Fct.val 26 (.bool x142.2.2)⟩,
          ⟨[0, 2, 4, 6], [], [], Fct.row 149 [] 27 25 R25 r147⟩,
          ⟨[7], [], [], Fct.rel [0, 27] (fun l => ∀ (A148 : Option Addr) (cA148 : Nat), l.getD 1 undef = .slice A148 r147.length cA148 → l.getD 0 undef = .slice A148 r147.length cA148)⟩]) (by kernel_rfl) hz146 hd146 (fun _ h => nomatch h) ?_ ?_
      · refine steps_cons (fun own a wx hf hsl hE => ?_) ?_
        · obtain ⟨s_0, -⟩ := hsl
          exact sg_plain rfl rfl (or_move (s_0.trans e146_0))
        refine steps_cons (fun own a wx hf hsl hE => ?_) ?_
        · obtain ⟨s_6, -⟩ := hsl
          exact sg_plain rfl rfl (or_field fo56_0 (s_6.trans e146_6) (by rfl))
        refine steps_cons (fun own a wx hf hsl hE => ?_) ?_
        · obtain ⟨(f_21 : a.eval (.tmp 21) = .pointer (some ⟨g143, 0, none⟩)), -⟩ := hf
          exact sg_plain rfl rfl (or_load1 to3 f_21 (Blk.at_ (BlkO.evo (by decide) hE b146_g143).2 0 rfl))
        refine steps_cons (fun own a wx hf hsl hE => ?_) ?_
        · obtain ⟨s_6, -⟩ := hsl
          exact sg_plain rfl rfl (or_field fo56_1 (s_6.trans e146_6) (by rfl))
        refine steps_cons (fun own a wx hf hsl hE => ?_) ?_
        · obtain ⟨(f_23 : a.eval (.tmp 23) = .pointer (some ⟨g143, 1, none⟩)), -⟩ := hf
          exact sg_plain rfl rfl (or_load1 to4 f_23 (Blk.at_ (BlkO.evo (by decide) hE b146_g143).2 1 rfl))
        refine steps_cons (fun own a wx hf hsl hE => ?_) ?_
        · obtain ⟨s_6, -⟩ := hsl
          exact sg_plain rfl rfl (or_field fo56_2 (s_6.trans e146_6) (by rfl))
        refine steps_cons (fun own a wx hf hsl hE => ?_) ?_
        · obtain ⟨(f_25 : a.eval (.tmp 25) = .pointer (some ⟨g143, 2, none⟩)), -⟩ := hf
          exact sg_plain rfl rfl (or_load1 to4 f_25 (Blk.at_ (BlkO.evo (by decide) hE b146_g143).2 2 rfl))
        refine steps_cons (fun own a wx hf hsl hE => ?_) ?_
        · obtain ⟨(f_20 : a.eval (.tmp 20) = .slice A114 l116.length c115), (f_22 : a.eval (.tmp 22) = .int .i64 x142.1), (f_24 : a.eval (.tmp 24) = .bool x142.2.1), (f_26 : a.eval (.tmp 26) = .bool x142.2.2), -⟩ := hf
          exact sg_plain rfl rfl (or_call cf8 (args4 f_20 f_22 f_24 f_26) (polyclip_Half_w _ l116 A114 c115 x142.1 x142.2.1 x142.2.2 (RdO.zero (RdO.evo rfl hE b146_A114)) r147 hr147) (post_row (m' := (look0 [(1, 149)])) (.inl (Rep.fl_flat _)) rfl rfl (fun _ => rfl)))
        refine steps_cons (fun own a wx hf hsl hE => ?_) ?_
        · obtain ⟨⟨⟨A148, cA148⟩, (f_27 : a.eval (.tmp 27) = .slice A148 r147.length cA148), (b_A148 : RwO own 149 [] wx 25 R25 A148 cA148 r147)⟩, -⟩ := hf
          exact sg_plain rfl rfl (or_mono (f := Fct.val 0 (.slice A148 r147.length cA148)) (or_assign f_27) (fun own' a' w' v' hp h => fun _ _ h0' => by cases (f_27.symm.trans ((hp.2 27 (by decide)).symm.trans h0')); exact h))
        exact steps_nil
      intro own150 a150 w150 hd150 hz150 hk150 hf150 hE150
      have e150_16 : a150.eval (.tmp 16) = .agg #[.int .i64 r97.1.1, .bool r97.1.2.1, .bool r97.1.2.2, .int .i64 r97.2.1.1, .bool r97.2.1.2.1, .bool r97.2.1.2.2, .int .i64 r97.2.2.1.1, .bool r97.2.2.1.2.1, .bool r97.2.2.1.2.2, .int .i64 r97.2.2.2.1, .bool r97.2.2.2.2.1, .bool r97.2.2.2.2.2] := (hk150 16 rfl).trans e146_16
      have e150_17 : a150.eval (.tmp 17) = .int .i64 x118 := (hk150 17 rfl).trans e146_17
      obtain ⟨⟨⟨A148, cA148⟩, (f_27 : a150.eval (.tmp 27) = .slice A148 r147.length cA148), (b_A148 : RwO own150 149 [] w150 25 R25 A148 cA148 r147)⟩, (q_0 : ∀ (A148 : Option Addr) (cA148 : Nat), a150.eval (.tmp 27) = .slice A148 r147.length cA148 → a150.eval (.tmp 0) = .slice A148 r147.length cA148), -⟩ := hf150 [7, 8] rfl
      have f_0 := q_0 _ _ f_27
      have e150_0 := f_0
      have hX150 := Evo.step hX146 (fun _ => Nat.le_refl 0) hE150 rfl
      have b150_A148 := b_A148
      refine hn141 _ _ ?_
      refine hn140 _ _ ?_
      refine rg_plain (n := 40) (rs := []) (own0 := own150) (K := [])
          (bs := [0, 1])
          (ds := [⟨[], [17], [], Fct.val 28 (.int .i64 (ad x118 1))⟩,
          ⟨[0], [], [], Fct.val 17 (.int .i64 (ad x118 1))⟩]) (by kernel_rfl) hz150 hd150 (fun _ h => nomatch h) ?_ ?_
      · refine steps_cons (fun own a wx hf hsl hE => ?_) ?_
        · obtain ⟨s_17, -⟩ := hsl
          exact sg_plain rfl rfl (or_add (s_17.trans e150_17) rfl rfl)
        refine steps_cons (fun own a wx hf hsl hE => ?_) ?_
        · obtain ⟨(f_28 : a.eval (.tmp 28) = .int .i64 (ad x118 1)), -⟩ := hf
          exact sg_plain rfl rfl (or_move f_28)
        exact steps_nil
      intro own151 a151 w151 hd151 hz151 hk151 hf151 hE151
      have e151_0 : a151.eval (.tmp 0) = .slice A148 r147.length cA148 := (hk151 0 rfl).trans e150_0
      have e151_16 : a151.eval (.tmp 16) = .agg #[.int .i64 r97.1.1, .bool r97.1.2.1, .bool r97.1.2.2, .int .i64 r97.2.1.1, .bool r97.2.1.2.1, .bool r97.2.1.2.2, .int .i64 r97.2.2.1.1, .bool r97.2.2.1.2.1, .bool r97.2.2.1.2.2, .int .i64 r97.2.2.2.1, .bool r97.2.2.2.2.1, .bool r97.2.2.2.2.2] := (hk151 16 rfl).trans e150_16
      obtain ⟨(f_17 : a151.eval (.tmp 17) = .int .i64 (ad x118 1)), -⟩ := hf151 [1] rfl
      have e151_17 := f_17
      have hX151 := Evo.step hX150 (fun _ => Nat.le_refl 0) hE151 rfl
      have b151_A148 := RwO.evo rfl hE151 b150_A148
      exact hn135 _ _ _ hs ⟨(rl [(149, 117)] own151), A148, cA148, hd151, hz151, e151_0, e151_16, e151_17, (Evo.rl_ hX151 (fun _ => Nat.le_refl 0) rfl), (RdO.more (RdO.rl_ (mm := [(149, 117)]) (RwO.rd b151_A148)) (by decide))⟩
    refine fl_exit ?_
    refine hp138 _ _ _ rfl ?_
    replace hs := hz135 _ hs
    refine hp135 _ _ _ rfl ?_
    refine hx99 _ _ ?_
    refine hn96 _ _ ?_
    obtain ⟨r152, hr152, hs⟩ := obind hs
    refine rg_plain_seq (n := 40) (rs := []) (own0 := own137) (K := [])
        (bs := [0, 1, 3])
        (ds := [⟨[], [0], [], Fct.val 29 (.slice A114 l116.length c115)⟩,
        ⟨[0], [], [], Fct.mems [154] 30 (fun (x : Option Addr × Nat) => .slice x.1 r152.length x.2) (fun (x : Option Addr × Nat) own w => RdO own [154] w R25 x.1 x.2 r152) (fun hk he h => RdO.evo (hits_sub hk (by decide)) he h)⟩,
        ⟨[1], [], [], Fct.rel [0, 30] (fun l => ∀ (A153 : Option Addr) (cA153 : Nat), l.getD 1 undef = .slice A153 r152.length cA153 → l.getD 0 undef = .slice A153 r152.length cA153)⟩]) (by kernel_rfl) hz137 hd137 (fun _ h => nomatch h) ?_ ?_
    · refine steps_cons (fun own a wx hf hsl hE => ?_) ?_
      · obtain ⟨s_0, -⟩ := hsl
        exact sg_plain rfl rfl (or_move (s_0.trans e137_0))
      refine steps_cons (fun own a wx hf hsl hE => ?_) ?_
      · obtain ⟨(f_29 : a.eval (.tmp 29) = .slice A114 l116.length c115), -⟩ := hf
        exact sg_plain rfl rfl (or_call cf16 (args1 f_29) (ring_Thin_w _ l116 A114 c115 (RdO.zero (RdO.evo rfl hE b137_A114)) r152 hr152) (post_mems (m := (fun _ => 0)) (m' := (look0 [(1, 154)])) (fun _ _ => .inl rfl) (fun own' w' a' x h1 h => ⟨x, h1, RdO.back_ h (by decide)⟩)))
      refine steps_cons (fun own a wx hf hsl hE => ?_) ?_
      · obtain ⟨⟨⟨A153, cA153⟩, (f_30 : a.eval (.tmp 30) = .slice A153 r152.length cA153), (b_A153 : RdO own [154] wx R25 A153 cA153 r152)⟩, -⟩ := hf
        exact sg_plain rfl rfl (or_mono (f := Fct.val 0 (.slice A153 r152.length cA153)) (or_assign f_30) (fun own' a' w' v' hp h => fun _ _ h0' => by cases (f_30.symm.trans ((hp.2 30 (by decide)).symm.trans h0')); exact h))
      exact steps_nil
    intro own155 a155 w155 hd155 hz155 hk155 hf155 hE155
    obtain ⟨⟨⟨A153, cA153⟩, (f_30 : a155.eval (.tmp 30) = .slice A153 r152.length cA153), (b_A153 : RdO own155 [154] w155 R25 A153 cA153 r152)⟩, (q_0 : ∀ (A153 : Option Addr) (cA153 : Nat), a155.eval (.tmp 30) = .slice A153 r152.length cA153 → a155.eval (.tmp 0) = .slice A153 r152.length cA153), -⟩ := hf155 [1, 2] rfl
    have f_0 := q_0 _ _ f_30
    have e155_0 := f_0
    have hX155 := Evo.step hX137 (fun _ => Nat.le_refl 0) hE155 rfl
    have b155_A153 := b_A153
    refine fl_seq (fun Q156 hn156 hp156 => ?_)
    obtain ⟨r157, hr157, hs⟩ := obind hs
    obtain ⟨x158, hx158, hs⟩ := obind hs
    refine rg_plain_seq (n := 40) (rs := []) (own0 := own155) (K := [])
        (bs := [0, 1, 3, 7, 15, 31, 63, 127])
        (ds := [⟨[], [0], [], Fct.val 31 (.slice A153 r152.length cA153)⟩,
        ⟨[0], [], [], Fct.val 32 (.int .i64 (r152.length : Int))⟩,
        ⟨[1], [], [], Fct.val 33 (.bool (decide ((r152.length : Int) < 3)))⟩,
        ⟨[2], [], [], Fct.val 34 (.bool (decide ((r152.length : Int) < 3)))⟩,
        ⟨[3], [0], [], Fct.cond (!(decide ((r152.length : Int) < 3))) (some 35) (Fct.val 35 (.slice A153 r152.length cA153))⟩,
        ⟨[3, 4], [], [], Fct.cond (!(decide ((r152.length : Int) < 3))) (some 36) (Fct.val 36 (.int .i64 r157))⟩,
        ⟨[3, 5], [], [], Fct.cond (!(decide ((r152.length : Int) < 3))) (some 37) (Fct.val 37 (.bool (decide (r157 = 0))))⟩,
        ⟨[3, 6], [], [], Fct.val 38 (.bool x158)⟩]) (by kernel_rfl) hz155 hd155 (fun _ h => nomatch h) ?_ ?_
    · refine steps_cons (fun own a wx hf hsl hE => ?_) ?_
      · obtain ⟨s_0, -⟩ := hsl
        exact sg_plain rfl rfl (or_move (s_0.trans e155_0))
      refine steps_cons (fun own a wx hf hsl hE => ?_) ?_
      · obtain ⟨(f_31 : a.eval (.tmp 31) = .slice A153 r152.length cA153), -⟩ := hf
        exact sg_plain rfl rfl (or_len tu22 f_31 rfl)
      refine steps_cons (fun own a wx hf hsl hE => ?_) ?_
      · obtain ⟨(f_32 : a.eval (.tmp 32) = .int .i64 (r152.length : Int)), -⟩ := hf
        exact sg_plain rfl rfl (or_lss f_32 rfl rfl)
      refine steps_cons (fun own a wx hf hsl hE => ?_) ?_
      · obtain ⟨(f_33 : a.eval (.tmp 33) = .bool (decide ((r152.length : Int) < 3))), -⟩ := hf
        exact sg_plain rfl rfl (or_move f_33)
      refine steps_cons (fun own a wx hf hsl hE => ?_) ?_
      · obtain ⟨(f_34 : a.eval (.tmp 34) = .bool (decide ((r152.length : Int) < 3))), -⟩ := hf
        obtain ⟨s_0, -⟩ := hsl
        refine sg_f rfl rfl rfl f_34 (fun hg => ?_)
        exact or_move (s_0.trans e155_0)
      refine steps_cons (fun own a wx hf hsl hE => ?_) ?_
      · obtain ⟨(f_34 : a.eval (.tmp 34) = .bool (decide ((r152.length : Int) < 3))), c_35, -⟩ := hf
        refine sg_f rfl rfl rfl f_34 (fun hg => ?_)
        have f_35 : a.eval (.tmp 35) = .slice A153 r152.length cA153 := c_35.1 hg
        exact or_call cf9 (args1 f_35) (ring_Area_w _ r152 A153 cA153 (RdO.zero (RdO.evo rfl hE b155_A153)) r157 (gd_t hr157 hg)) post_val
      refine steps_cons (fun own a wx hf hsl hE => ?_) ?_
      · obtain ⟨(f_34 : a.eval (.tmp 34) = .bool (decide ((r152.length : Int) < 3))), c_36, -⟩ := hf
        refine sg_f rfl rfl rfl f_34 (fun hg => ?_)
        have f_36 : a.eval (.tmp 36) = .int .i64 r157 := c_36.1 hg
        exact or_eql f_36 rfl rfl
      refine steps_cons (fun own a wx hf hsl hE => ?_) ?_
      · obtain ⟨(f_34 : a.eval (.tmp 34) = .bool (decide ((r152.length : Int) < 3))), c_37, -⟩ := hf
        exact sg_plain rfl rfl (or_or f_34 rfl (fun hx => c_37.1 hx) (osome hx158).symm)
      exact steps_nil
    intro own159 a159 w159 hd159 hz159 hk159 hf159 hE159
    have e159_0 : a159.eval (.tmp 0) = .slice A153 r152.length cA153 := (hk159 0 rfl).trans e155_0
    obtain ⟨(f_38 : a159.eval (.tmp 38) = .bool x158), -⟩ := hf159 [7] rfl
    have e159_38 := f_38
    have hX159 := Evo.step hX155 (fun _ => Nat.le_refl 0) hE159 rfl
    have b159_A153 := RdO.evo rfl hE159 b155_A153
    refine fl_cond e159_38 hs (fun c160 hs => ?_) (fun c160 hs => ?_)
    · refine rg_plain_seq (n := 40) (rs := []) (own0 := own159) (K := [])
          (bs := [0])
          (ds := [⟨[], [], [], Fct.val 4 (.slice none 0 0)⟩]) (by kernel_rfl) hz159 hd159 (fun _ h => nomatch h) ?_ ?_
      · refine steps_cons (fun own a wx hf hsl hE => ?_) ?_
        · exact sg_plain rfl rfl (or_assign rfl)
        exact steps_nil
      intro own161 a161 w161 hd161 hz161 hk161 hf161 hE161
      obtain ⟨(f_4 : a161.eval (.tmp 4) = .slice none 0 0), -⟩ := hf161 [0] rfl
      have e161_4 := f_4
      have hX161 := Evo.step hX159 (fun _ => Nat.le_refl 0) hE161 rfl
      refine fl_ret ?_
      refine hp156 _ _ _ rfl ?_
      obtain rfl := osome hs
      exact hret _ _ _ _ (.inl rfl) hd161 (results1_ rfl (RVal.tmp_ e161_4)) ⟨own161, (none, 0), rfl, hX161, RdO.nil_⟩
    refine fl_skip ?_
    refine hn156 _ _ ?_
    refine rg_plain_seq (n := 40) (rs := []) (own0 := own159) (K := [])
        (bs := [0, 1])
        (ds := [⟨[], [0], [], Fct.val 39 (.slice A153 r152.length cA153)⟩,
        ⟨[0], [], [], Fct.val 4 (.slice A153 r152.length cA153)⟩]) (by kernel_rfl) hz159 hd159 (fun _ h => nomatch h) ?_ ?_
    · refine steps_cons (fun own a wx hf hsl hE => ?_) ?_
      · obtain ⟨s_0, -⟩ := hsl
        exact sg_plain rfl rfl (or_move (s_0.trans e159_0))
      refine steps_cons (fun own a wx hf hsl hE => ?_) ?_
      · obtain ⟨(f_39 : a.eval (.tmp 39) = .slice A153 r152.length cA153), -⟩ := hf
        exact sg_plain rfl rfl (or_assign f_39)
      exact steps_nil
    intro own162 a162 w162 hd162 hz162 hk162 hf162 hE162
    obtain ⟨(f_4 : a162.eval (.tmp 4) = .slice A153 r152.length cA153), -⟩ := hf162 [1] rfl
    have e162_4 := f_4
    have hX162 := Evo.step hX159 (fun _ => Nat.le_refl 0) hE162 rfl
    have b162_A153 := RdO.evo rfl hE162 b159_A153
    refine fl_ret ?_
    obtain rfl := (osome hs).symm
    exact hret _ _ _ _ (.inl rfl) hd162 (results1_ rfl (RVal.tmp_ e162_4)) ⟨(rl [(154, 1)] own162), (A153, cA153), rfl, (Evo.rl_ hX162 (fun _ => Nat.le_refl 0) rfl), (RdO.rl_ (mm := [(154, 1)]) b162_A153)⟩

end Go.Proofs.Ytopnbammdeimcaa
