/-
  Chapter 22. The walks.
-/
import Derived.Test.YthjcpojcpafbjaaWp2
import Derived.Test.YthjcpojcpafbjaaWp3
import Derived.Test.YthjcpojcpafbjaaWp4
import Derived.Test.YthjcpojcpafbjaaWp5
import Derived.Test.YthjcpojcpafbjaaWp6
import Derived.Test.YthjcpojcpafbjaaWp7
import Derived.Test.YthjcpojcpafbjaaSp11
namespace Go.Proofs.Ythjcpojcpafbjaa
open Go.RowKit
set_option linter.unusedVariables false
theorem law21_Box_w (w : World) (b1 : (Int × Int) × (Int × Int)) (r : (Int × Int) × (Int × Int)) (hs : law21_Box b1 = some r) :
    Calls Try.prog 13 #[.agg #[.int .i64 b1.1.1, .int .i64 b1.1.2, .int .i64 b1.2.1, .int .i64 b1.2.2]] w fun e w' => ∃ own' : Own, e = .returned (.agg #[.int .i64 r.1.1, .int .i64 r.1.2, .int .i64 r.2.1, .int .i64 r.2.2]) ∧ Evo [] (fun _ => 0) own' w w' := by
  refine fl_enter (n := 10) rfl rfl rfl (Nat.le_of_ble_eq_true rfl) ?_
  intro a0 Q hd0 hz0 harg hret
  have ha0 := harg 0 _ rfl
  clear harg
  have hE0 : Evo [] (fun _ => 0) (fun _ => 0) w w := Evo.refl _ _ _
  refine rg_plain_seq (n := 10) (rs := []) (own0 := (fun _ => 0)) (K := [])
      (bs := [0, 0])
      (ds := [⟨[], [0], [], Fct.blk 23 1 (fun g => .pointer (some ⟨g, 0, none⟩)) 36 #[.int .i64 b1.1.1, .int .i64 b1.1.2, .int .i64 b1.2.1, .int .i64 b1.2.2]⟩,
      ⟨[], [], [], Fct.blk 25 2 (fun g => .pointer (some ⟨g, 0, none⟩)) 39 #[.int .i64 0, .int .i64 0, .int .i64 0, .int .i64 0]⟩]) (by kernel_rfl) hz0 hd0 (fun _ h => nomatch h) ?_ ?_
  · refine steps_cons (fun own a wx hf hsl hE => ?_) ?_
    · obtain ⟨s_0, -⟩ := hsl
      exact sg_plain rfl rfl (or_new [(0, .agg #[.int .i64 b1.1.1, .int .i64 b1.1.2, .int .i64 b1.2.1, .int .i64 b1.2.2])] rfl rfl ⟨(s_0.trans ha0), trivial⟩ (by kernel_rfl))
    refine steps_cons (fun own a wx hf hsl hE => ?_) ?_
    · exact sg_plain rfl rfl (or_new [] rfl rfl trivial (by kernel_rfl))
    exact steps_nil
  intro own26 a26 w26 hd26 hz26 hk26 hf26 hE26
  obtain ⟨⟨g22, (f_1 : a26.eval (.tmp 1) = .pointer (some ⟨g22, 0, none⟩)), (b_g22 : BlkO own26 23 w26 g22 36 #[.int .i64 b1.1.1, .int .i64 b1.1.2, .int .i64 b1.2.1, .int .i64 b1.2.2])⟩, ⟨g24, (f_2 : a26.eval (.tmp 2) = .pointer (some ⟨g24, 0, none⟩)), (b_g24 : BlkO own26 25 w26 g24 39 #[.int .i64 0, .int .i64 0, .int .i64 0, .int .i64 0])⟩, -⟩ := hf26 [0, 1] rfl
  have e26_1 := f_1
  have e26_2 := f_2
  have hX26 := Evo.step hE0 (fun _ => Nat.le_refl 0) hE26 rfl
  have b26_g22 := b_g22
  have b26_g24 := b_g24
  obtain ⟨r29, hr29, hs⟩ := obind hs
  obtain ⟨r30, hr30, hs⟩ := obind hs
  refine rg_draw_seq g_mixed (n := 10) (rs := [Fct.at_ 25 g24 39 #[.int .i64 0, .int .i64 0, .int .i64 0, .int .i64 0]]) (own0 := own26) (K := [25])
      (bs := [0, 1, 3, 0, 8, 31, 63, 127])
      (ds := [⟨[], [1], [], Fct.val 3 (.pointer (some ⟨g22, 0, none⟩))⟩,
      ⟨[0], [], [], Fct.val 4 (.agg #[.int .i64 b1.1.1, .int .i64 b1.1.2])⟩,
      ⟨[1], [], [], Fct.val 5 (.agg #[.int .i64 r29.1, .int .i64 r29.2])⟩,
      ⟨[], [1], [], Fct.val 6 (.pointer (some ⟨g22, 2, none⟩))⟩,
      ⟨[3], [], [], Fct.val 7 (.agg #[.int .i64 b1.2.1, .int .i64 b1.2.2])⟩,
      ⟨[4], [], [], Fct.val 8 (.agg #[.int .i64 r30.1, .int .i64 r30.2])⟩,
      ⟨[2, 5], [], [], Fct.val 9 (.agg #[.int .i64 r29.1, .int .i64 r29.2, .int .i64 r30.1, .int .i64 r30.2])⟩,
      ⟨[6, 8], [2], [25], Fct.at_ 31 g24 39 #[.int .i64 r29.1, .int .i64 r29.2, .int .i64 r30.1, .int .i64 r30.2]⟩]) (by kernel_rfl) hz26 hd26 (by simp only [List.forall_mem_cons]; exact ⟨b26_g24, fun _ h => nomatch h⟩) ?_ ?_
  · refine steps_cons (fun own a wx hf hsl hE => ?_) ?_
    · obtain ⟨s_1, -⟩ := hsl
      exact sg_plain rfl rfl (or_field fo36_0 (s_1.trans e26_1) (by rfl))
    refine steps_cons (fun own a wx hf hsl hE => ?_) ?_
    · obtain ⟨(f_3 : a.eval (.tmp 3) = .pointer (some ⟨g22, 0, none⟩)), -⟩ := hf
      exact sg_plain rfl rfl (or_load (l := [.int .i64 b1.1.1, .int .i64 b1.1.2]) ta34 f_3 (Blk.cellsFrom (BlkO.evo (by decide) hE b26_g22).2 0 rfl) rfl)
    refine steps_cons (fun own a wx hf hsl hE => ?_) ?_
    · obtain ⟨(f_4 : a.eval (.tmp 4) = .agg #[.int .i64 b1.1.1, .int .i64 b1.1.2]), -⟩ := hf
      exact sg_plain rfl rfl (or_call cf26 (args1 f_4) (law01_Of_w _ b1.1  r29 hr29) post_val)
    refine steps_cons (fun own a wx hf hsl hE => ?_) ?_
    · obtain ⟨s_1, -⟩ := hsl
      exact sg_plain rfl rfl (or_field fo36_1 (s_1.trans e26_1) (by rfl))
    refine steps_cons (fun own a wx hf hsl hE => ?_) ?_
    · obtain ⟨(f_6 : a.eval (.tmp 6) = .pointer (some ⟨g22, 2, none⟩)), -⟩ := hf
      exact sg_plain rfl rfl (or_load (l := [.int .i64 b1.2.1, .int .i64 b1.2.2]) ta34 f_6 (Blk.cellsFrom (BlkO.evo (by decide) hE b26_g22).2 2 rfl) rfl)
    refine steps_cons (fun own a wx hf hsl hE => ?_) ?_
    · obtain ⟨(f_7 : a.eval (.tmp 7) = .agg #[.int .i64 b1.2.1, .int .i64 b1.2.2]), -⟩ := hf
      exact sg_plain rfl rfl (or_call cf26 (args1 f_7) (law01_Of_w _ b1.2  r30 hr30) post_val)
    refine steps_cons (fun own a wx hf hsl hE => ?_) ?_
    · obtain ⟨(f_5 : a.eval (.tmp 5) = .agg #[.int .i64 r29.1, .int .i64 r29.2]), (f_8 : a.eval (.tmp 8) = .agg #[.int .i64 r30.1, .int .i64 r30.2]), -⟩ := hf
      exact sg_plain rfl rfl (or_k [(5, .agg #[.int .i64 r29.1, .int .i64 r29.2]), (8, .agg #[.int .i64 r30.1, .int .i64 r30.2])] rfl rfl ⟨f_5, f_8, trivial⟩ (by kernel_rfl))
    refine steps_cons (fun own a wx hf hsl hE => ?_) ?_
    · obtain ⟨(f_9 : a.eval (.tmp 9) = .agg #[.int .i64 r29.1, .int .i64 r29.2, .int .i64 r30.1, .int .i64 r30.2]), (b_g24 : BlkO own 25 wx g24 39 #[.int .i64 0, .int .i64 0, .int .i64 0, .int .i64 0]), -⟩ := hf
      obtain ⟨s_2, -⟩ := hsl
      exact sg_plain rfl rfl (or_store (l := #[.int .i64 r29.1, .int .i64 r29.2, .int .i64 r30.1, .int .i64 r30.2]) (lab := 25) (lab2 := 31) ts39 (s_2.trans e26_2) f_9 b_g24 (by simp) (by kernel_rfl) (mem_of rfl) (by decide) (by kernel_rfl) (fun own' a' w' ha hb => hb))
    exact steps_nil
  intro own32 a32 w32 hd32 hz32 hk32 hf32 hE32
  have e32_2 : a32.eval (.tmp 2) = .pointer (some ⟨g24, 0, none⟩) := (hk32 2 rfl).trans e26_2
  obtain ⟨(b_g24 : BlkO own32 31 w32 g24 39 #[.int .i64 r29.1, .int .i64 r29.2, .int .i64 r30.1, .int .i64 r30.2]), -⟩ := hf32 [7] rfl
  have hX32 := Evo.step hX26 (fun _ => Nat.le_refl 0) hE32 rfl
  have b32_g24 := b_g24
  refine fl_ret ?_
  obtain rfl := osome hs
  exact hret _ _ _ _ (.inl rfl) hd32 (results1_ rfl (RVal.cell_ e32_2 (run_loadVarAgg (l := [.int .i64 r29.1, .int .i64 r29.2, .int .i64 r30.1, .int .i64 r30.2]) ta39 (Blk.cellsFrom b32_g24.2 0 rfl) rfl))) ⟨own32, rfl, hX32⟩

theorem ref06_Right_w (w : World) (b1 : (Int × Int) × (Int × Int)) (r : Bool) (hs : ref06_Right b1 = some r) :
    Calls Try.prog 33 #[.agg #[.int .i64 b1.1.1, .int .i64 b1.1.2, .int .i64 b1.2.1, .int .i64 b1.2.2]] w fun e w' => ∃ own' : Own, e = .returned (.bool r) ∧ Evo [] (fun _ => 0) own' w w' := by
  refine fl_enter (n := 29) rfl rfl rfl (Nat.le_of_ble_eq_true rfl) ?_
  intro a0 Q hd0 hz0 harg hret
  have ha0 := harg 0 _ rfl
  clear harg
  have hE0 : Evo [] (fun _ => 0) (fun _ => 0) w w := Evo.refl _ _ _
  refine rg_plain_seq (n := 29) (rs := []) (own0 := (fun _ => 0)) (K := [])
      (bs := [0, 0])
      (ds := [⟨[], [0], [], Fct.blk 19 1 (fun g => .pointer (some ⟨g, 0, none⟩)) 39 #[.int .i64 b1.1.1, .int .i64 b1.1.2, .int .i64 b1.2.1, .int .i64 b1.2.2]⟩,
      ⟨[], [], [], Fct.val 2 (.bool false)⟩]) (by kernel_rfl) hz0 hd0 (fun _ h => nomatch h) ?_ ?_
  · refine steps_cons (fun own a wx hf hsl hE => ?_) ?_
    · obtain ⟨s_0, -⟩ := hsl
      exact sg_plain rfl rfl (or_new [(0, .agg #[.int .i64 b1.1.1, .int .i64 b1.1.2, .int .i64 b1.2.1, .int .i64 b1.2.2])] rfl rfl ⟨(s_0.trans ha0), trivial⟩ (by kernel_rfl))
    refine steps_cons (fun own a wx hf hsl hE => ?_) ?_
    · exact sg_plain rfl rfl (or_assign rfl)
    exact steps_nil
  intro own20 a20 w20 hd20 hz20 hk20 hf20 hE20
  obtain ⟨⟨g18, (f_1 : a20.eval (.tmp 1) = .pointer (some ⟨g18, 0, none⟩)), (b_g18 : BlkO own20 19 w20 g18 39 #[.int .i64 b1.1.1, .int .i64 b1.1.2, .int .i64 b1.2.1, .int .i64 b1.2.2])⟩, -⟩ := hf20 [0] rfl
  have e20_1 := f_1
  have hX20 := Evo.step hE0 (fun _ => Nat.le_refl 0) hE20 rfl
  have b20_g18 := b_g18
  obtain ⟨r21, hr21, hs⟩ := obind hs
  obtain ⟨r22, hr22, hs⟩ := obind hs
  obtain ⟨x23, hx23, hs⟩ := obind hs
  refine rg_plain_seq (n := 29) (rs := []) (own0 := own20) (K := [])
      (bs := [0, 1, 3, 7, 15, 31, 63, 127, 255, 511, 1023, 2047, 511, 4607, 12799, 32767, 65535, 131071, 262143, 524287, 1048575, 262143, 2359295, 6553599, 16777215, 33554431, 67108863])
      (ds := [⟨[], [1], [], Fct.val 3 (.pointer (some ⟨g18, 0, none⟩))⟩,
      ⟨[0], [], [], Fct.val 4 (.agg #[.int .i64 b1.1.1, .int .i64 b1.1.2])⟩,
      ⟨[1], [], [], Fct.val 5 (.bool r21)⟩,
      ⟨[2], [], [], Fct.val 6 (.bool r21)⟩,
      ⟨[3], [1], [], Fct.cond r21 (some 7) (Fct.val 7 (.pointer (some ⟨g18, 2, none⟩)))⟩,
      ⟨[3, 4], [], [], Fct.cond r21 (some 8) (Fct.val 8 (.agg #[.int .i64 b1.2.1, .int .i64 b1.2.2]))⟩,
      ⟨[3, 5], [], [], Fct.cond r21 (some 9) (Fct.val 9 (.bool r22))⟩,
      ⟨[3, 6], [], [], Fct.val 10 (.bool (r21 && r22))⟩,
      ⟨[7], [], [], Fct.val 11 (.bool (r21 && r22))⟩,
      ⟨[8], [1], [], Fct.cond (r21 && r22) (some 12) (Fct.val 12 (.pointer (some ⟨g18, 0, none⟩)))⟩,
      ⟨[8, 9], [], [], Fct.cond (r21 && r22) (some 13) (Fct.val 13 (.pointer (some ⟨g18, 0, none⟩)))⟩,
      ⟨[8, 10], [], [], Fct.cond (r21 && r22) (some 14) (Fct.val 14 (.int .i64 b1.1.1))⟩,
      ⟨[8], [1], [], Fct.cond (r21 && r22) (some 15) (Fct.val 15 (.pointer (some ⟨g18, 2, none⟩)))⟩,
      ⟨[8, 12], [], [], Fct.cond (r21 && r22) (some 16) (Fct.val 16 (.pointer (some ⟨g18, 2, none⟩)))⟩,
      ⟨[8, 13], [], [], Fct.cond (r21 && r22) (some 17) (Fct.val 17 (.int .i64 b1.2.1))⟩,
      ⟨[8, 11, 14], [], [], Fct.cond (r21 && r22) (some 18) (Fct.val 18 (.bool (decide (b1.1.1 ≤ b1.2.1))))⟩,
      ⟨[8, 15], [], [], Fct.val 19 (.bool x23)⟩,
      ⟨[16], [], [], Fct.val 20 (.bool x23)⟩,
      ⟨[17], [1], [], Fct.cond x23 (some 21) (Fct.val 21 (.pointer (some ⟨g18, 0, none⟩)))⟩,
      ⟨[17, 18], [], [], Fct.cond x23 (some 22) (Fct.val 22 (.pointer (some ⟨g18, 1, none⟩)))⟩,
      ⟨[17, 19], [], [], Fct.cond x23 (some 23) (Fct.val 23 (.int .i64 b1.1.2))⟩,
      ⟨[17], [1], [], Fct.cond x23 (some 24) (Fct.val 24 (.pointer (some ⟨g18, 2, none⟩)))⟩,
      ⟨[17, 21], [], [], Fct.cond x23 (some 25) (Fct.val 25 (.pointer (some ⟨g18, 3, none⟩)))⟩,
      ⟨[17, 22], [], [], Fct.cond x23 (some 26) (Fct.val 26 (.int .i64 b1.2.2))⟩,
      ⟨[17, 20, 23], [], [], Fct.cond x23 (some 27) (Fct.val 27 (.bool (decide (b1.1.2 ≤ b1.2.2))))⟩,
      ⟨[17, 24], [], [], Fct.val 28 (.bool (x23 && (decide (b1.1.2 ≤ b1.2.2))))⟩,
      ⟨[25], [], [], Fct.val 2 (.bool (x23 && (decide (b1.1.2 ≤ b1.2.2))))⟩]) (by kernel_rfl) hz20 hd20 (fun _ h => nomatch h) ?_ ?_
  · refine steps_cons (fun own a wx hf hsl hE => ?_) ?_
    · obtain ⟨s_1, -⟩ := hsl
      exact sg_plain rfl rfl (or_field fo39_0 (s_1.trans e20_1) (by rfl))
    refine steps_cons (fun own a wx hf hsl hE => ?_) ?_
    · obtain ⟨(f_3 : a.eval (.tmp 3) = .pointer (some ⟨g18, 0, none⟩)), -⟩ := hf
      exact sg_plain rfl rfl (or_load (l := [.int .i64 b1.1.1, .int .i64 b1.1.2]) ta37 f_3 (Blk.cellsFrom (BlkO.evo (by decide) hE b20_g18).2 0 rfl) rfl)
    refine steps_cons (fun own a wx hf hsl hE => ?_) ?_
    · obtain ⟨(f_4 : a.eval (.tmp 4) = .agg #[.int .i64 b1.1.1, .int .i64 b1.1.2]), -⟩ := hf
      exact sg_plain rfl rfl (or_call cf25 (args1 f_4) (ref01_May_w _ b1.1  r21 hr21) post_val)
    refine steps_cons (fun own a wx hf hsl hE => ?_) ?_
    · obtain ⟨(f_5 : a.eval (.tmp 5) = .bool r21), -⟩ := hf
      exact sg_plain rfl rfl (or_move f_5)
    refine steps_cons (fun own a wx hf hsl hE => ?_) ?_
    · obtain ⟨(f_6 : a.eval (.tmp 6) = .bool r21), -⟩ := hf
      obtain ⟨s_1, -⟩ := hsl
      refine sg_t rfl rfl rfl f_6 (fun hg => ?_)
      exact or_field fo39_1 (s_1.trans e20_1) (by rfl)
    refine steps_cons (fun own a wx hf hsl hE => ?_) ?_
    · obtain ⟨(f_6 : a.eval (.tmp 6) = .bool r21), c_7, -⟩ := hf
      refine sg_t rfl rfl rfl f_6 (fun hg => ?_)
      have f_7 : a.eval (.tmp 7) = .pointer (some ⟨g18, 2, none⟩) := c_7.1 hg
      exact or_load (l := [.int .i64 b1.2.1, .int .i64 b1.2.2]) ta37 f_7 (Blk.cellsFrom (BlkO.evo (by decide) hE b20_g18).2 2 rfl) rfl
    refine steps_cons (fun own a wx hf hsl hE => ?_) ?_
    · obtain ⟨(f_6 : a.eval (.tmp 6) = .bool r21), c_8, -⟩ := hf
      refine sg_t rfl rfl rfl f_6 (fun hg => ?_)
      have f_8 : a.eval (.tmp 8) = .agg #[.int .i64 b1.2.1, .int .i64 b1.2.2] := c_8.1 hg
      exact or_call cf25 (args1 f_8) (ref01_May_w _ b1.2  r22 (gd_t hr22 hg)) post_val
    refine steps_cons (fun own a wx hf hsl hE => ?_) ?_
    · obtain ⟨(f_6 : a.eval (.tmp 6) = .bool r21), c_9, -⟩ := hf
      exact sg_plain rfl rfl (or_and f_6 (fun hx => c_9.1 hx) rfl rfl)
    refine steps_cons (fun own a wx hf hsl hE => ?_) ?_
    · obtain ⟨(f_10 : a.eval (.tmp 10) = .bool (r21 && r22)), -⟩ := hf
      exact sg_plain rfl rfl (or_move f_10)
    refine steps_cons (fun own a wx hf hsl hE => ?_) ?_
    · obtain ⟨(f_11 : a.eval (.tmp 11) = .bool (r21 && r22)), -⟩ := hf
      obtain ⟨s_1, -⟩ := hsl
      refine sg_t rfl rfl rfl f_11 (fun hg => ?_)
      exact or_field fo39_0 (s_1.trans e20_1) (by rfl)
    refine steps_cons (fun own a wx hf hsl hE => ?_) ?_
    · obtain ⟨(f_11 : a.eval (.tmp 11) = .bool (r21 && r22)), c_12, -⟩ := hf
      refine sg_t rfl rfl rfl f_11 (fun hg => ?_)
      have f_12 : a.eval (.tmp 12) = .pointer (some ⟨g18, 0, none⟩) := c_12.1 hg
      exact or_field fo37_0 f_12 (by rfl)
    refine steps_cons (fun own a wx hf hsl hE => ?_) ?_
    · obtain ⟨(f_11 : a.eval (.tmp 11) = .bool (r21 && r22)), c_13, -⟩ := hf
      refine sg_t rfl rfl rfl f_11 (fun hg => ?_)
      have f_13 : a.eval (.tmp 13) = .pointer (some ⟨g18, 0, none⟩) := c_13.1 hg
      exact or_load1 to3 f_13 (Blk.at_ (BlkO.evo (by decide) hE b20_g18).2 0 rfl)
    refine steps_cons (fun own a wx hf hsl hE => ?_) ?_
    · obtain ⟨(f_11 : a.eval (.tmp 11) = .bool (r21 && r22)), -⟩ := hf
      obtain ⟨s_1, -⟩ := hsl
      refine sg_t rfl rfl rfl f_11 (fun hg => ?_)
      exact or_field fo39_1 (s_1.trans e20_1) (by rfl)
    refine steps_cons (fun own a wx hf hsl hE => ?_) ?_
    · obtain ⟨(f_11 : a.eval (.tmp 11) = .bool (r21 && r22)), c_15, -⟩ := hf
      refine sg_t rfl rfl rfl f_11 (fun hg => ?_)
      have f_15 : a.eval (.tmp 15) = .pointer (some ⟨g18, 2, none⟩) := c_15.1 hg
      exact or_field fo37_0 f_15 (by rfl)
    refine steps_cons (fun own a wx hf hsl hE => ?_) ?_
    · obtain ⟨(f_11 : a.eval (.tmp 11) = .bool (r21 && r22)), c_16, -⟩ := hf
      refine sg_t rfl rfl rfl f_11 (fun hg => ?_)
      have f_16 : a.eval (.tmp 16) = .pointer (some ⟨g18, 2, none⟩) := c_16.1 hg
      exact or_load1 to3 f_16 (Blk.at_ (BlkO.evo (by decide) hE b20_g18).2 2 rfl)
    refine steps_cons (fun own a wx hf hsl hE => ?_) ?_
    · obtain ⟨(f_11 : a.eval (.tmp 11) = .bool (r21 && r22)), c_14, c_17, -⟩ := hf
      refine sg_t rfl rfl rfl f_11 (fun hg => ?_)
      have f_14 : a.eval (.tmp 14) = .int .i64 b1.1.1 := c_14.1 hg
      have f_17 : a.eval (.tmp 17) = .int .i64 b1.2.1 := c_17.1 hg
      exact or_leq f_14 f_17 rfl
    refine steps_cons (fun own a wx hf hsl hE => ?_) ?_
    · obtain ⟨(f_11 : a.eval (.tmp 11) = .bool (r21 && r22)), c_18, -⟩ := hf
      exact sg_plain rfl rfl (or_and f_11 (fun hx => c_18.1 hx) rfl (osome hx23).symm)
    refine steps_cons (fun own a wx hf hsl hE => ?_) ?_
    · obtain ⟨(f_19 : a.eval (.tmp 19) = .bool x23), -⟩ := hf
      exact sg_plain rfl rfl (or_move f_19)
    refine steps_cons (fun own a wx hf hsl hE => ?_) ?_
    · obtain ⟨(f_20 : a.eval (.tmp 20) = .bool x23), -⟩ := hf
      obtain ⟨s_1, -⟩ := hsl
      refine sg_t rfl rfl rfl f_20 (fun hg => ?_)
      exact or_field fo39_0 (s_1.trans e20_1) (by rfl)
    refine steps_cons (fun own a wx hf hsl hE => ?_) ?_
    · obtain ⟨(f_20 : a.eval (.tmp 20) = .bool x23), c_21, -⟩ := hf
      refine sg_t rfl rfl rfl f_20 (fun hg => ?_)
      have f_21 : a.eval (.tmp 21) = .pointer (some ⟨g18, 0, none⟩) := c_21.1 hg
      exact or_field fo37_1 f_21 (by rfl)
    refine steps_cons (fun own a wx hf hsl hE => ?_) ?_
    · obtain ⟨(f_20 : a.eval (.tmp 20) = .bool x23), c_22, -⟩ := hf
      refine sg_t rfl rfl rfl f_20 (fun hg => ?_)
      have f_22 : a.eval (.tmp 22) = .pointer (some ⟨g18, 1, none⟩) := c_22.1 hg
      exact or_load1 to3 f_22 (Blk.at_ (BlkO.evo (by decide) hE b20_g18).2 1 rfl)
    refine steps_cons (fun own a wx hf hsl hE => ?_) ?_
    · obtain ⟨(f_20 : a.eval (.tmp 20) = .bool x23), -⟩ := hf
      obtain ⟨s_1, -⟩ := hsl
      refine sg_t rfl rfl rfl f_20 (fun hg => ?_)
      exact or_field fo39_1 (s_1.trans e20_1) (by rfl)
    refine steps_cons (fun own a wx hf hsl hE => ?_) ?_
    · obtain ⟨(f_20 : a.eval (.tmp 20) = .bool x23), c_24, -⟩ := hf
      refine sg_t rfl rfl rfl f_20 (fun hg => ?_)
      have f_24 : a.eval (.tmp 24) = .pointer (some ⟨g18, 2, none⟩) := c_24.1 hg
      exact or_field fo37_1 f_24 (by rfl)
    refine steps_cons (fun own a wx hf hsl hE => ?_) ?_
    · obtain ⟨(f_20 : a.eval (.tmp 20) = .bool x23), c_25, -⟩ := hf
      refine sg_t rfl rfl rfl f_20 (fun hg => ?_)
      have f_25 : a.eval (.tmp 25) = .pointer (some ⟨g18, 3, none⟩) := c_25.1 hg
      exact or_load1 to3 f_25 (Blk.at_ (BlkO.evo (by decide) hE b20_g18).2 3 rfl)
    refine steps_cons (fun own a wx hf hsl hE => ?_) ?_
    · obtain ⟨(f_20 : a.eval (.tmp 20) = .bool x23), c_23, c_26, -⟩ := hf
      refine sg_t rfl rfl rfl f_20 (fun hg => ?_)
      have f_23 : a.eval (.tmp 23) = .int .i64 b1.1.2 := c_23.1 hg
      have f_26 : a.eval (.tmp 26) = .int .i64 b1.2.2 := c_26.1 hg
      exact or_leq f_23 f_26 rfl
    refine steps_cons (fun own a wx hf hsl hE => ?_) ?_
    · obtain ⟨(f_20 : a.eval (.tmp 20) = .bool x23), c_27, -⟩ := hf
      exact sg_plain rfl rfl (or_and f_20 (fun hx => c_27.1 hx) rfl rfl)
    refine steps_cons (fun own a wx hf hsl hE => ?_) ?_
    · obtain ⟨(f_28 : a.eval (.tmp 28) = .bool (x23 && (decide (b1.1.2 ≤ b1.2.2)))), -⟩ := hf
      exact sg_plain rfl rfl (or_assign f_28)
    exact steps_nil
  intro own24 a24 w24 hd24 hz24 hk24 hf24 hE24
  obtain ⟨(f_2 : a24.eval (.tmp 2) = .bool (x23 && (decide (b1.1.2 ≤ b1.2.2)))), -⟩ := hf24 [26] rfl
  have e24_2 := f_2
  have hX24 := Evo.step hX20 (fun _ => Nat.le_refl 0) hE24 rfl
  refine fl_ret ?_
  obtain rfl := osome hs
  exact hret _ _ _ _ (.inl rfl) hd24 (results1_ rfl (RVal.tmp_ e24_2)) ⟨own24, rfl, hX24⟩

theorem ref06_Meet_w (w : World) (x1 : (Int × Int) × (Int × Int)) (b2 : (Int × Int) × (Int × Int)) (r : Bool) (hs : ref06_Meet x1 b2 = some r) :
    Calls Try.prog 28 #[.agg #[.int .i64 x1.1.1, .int .i64 x1.1.2, .int .i64 x1.2.1, .int .i64 x1.2.2], .agg #[.int .i64 b2.1.1, .int .i64 b2.1.2, .int .i64 b2.2.1, .int .i64 b2.2.2]] w fun e w' => ∃ own' : Own, e = .returned (.bool r) ∧ Evo [] (fun _ => 0) own' w w' := by
  refine fl_enter (n := 53) rfl rfl rfl (Nat.le_of_ble_eq_true rfl) ?_
  intro a0 Q hd0 hz0 harg hret
  have ha0 := harg 0 _ rfl
  have ha1 := harg 1 _ rfl
  clear harg
  have hE0 : Evo [] (fun _ => 0) (fun _ => 0) w w := Evo.refl _ _ _
  refine rg_plain_seq (n := 53) (rs := []) (own0 := (fun _ => 0)) (K := [])
      (bs := [0, 0, 0])
      (ds := [⟨[], [0], [], Fct.blk 27 2 (fun g => .pointer (some ⟨g, 0, none⟩)) 39 #[.int .i64 x1.1.1, .int .i64 x1.1.2, .int .i64 x1.2.1, .int .i64 x1.2.2]⟩,
      ⟨[], [1], [], Fct.blk 29 3 (fun g => .pointer (some ⟨g, 0, none⟩)) 39 #[.int .i64 b2.1.1, .int .i64 b2.1.2, .int .i64 b2.2.1, .int .i64 b2.2.2]⟩,
      ⟨[], [], [], Fct.val 4 (.bool false)⟩]) (by kernel_rfl) hz0 hd0 (fun _ h => nomatch h) ?_ ?_
  · refine steps_cons (fun own a wx hf hsl hE => ?_) ?_
    · obtain ⟨s_0, -⟩ := hsl
      exact sg_plain rfl rfl (or_new [(0, .agg #[.int .i64 x1.1.1, .int .i64 x1.1.2, .int .i64 x1.2.1, .int .i64 x1.2.2])] rfl rfl ⟨(s_0.trans ha0), trivial⟩ (by kernel_rfl))
    refine steps_cons (fun own a wx hf hsl hE => ?_) ?_
    · obtain ⟨s_1, -⟩ := hsl
      exact sg_plain rfl rfl (or_new [(1, .agg #[.int .i64 b2.1.1, .int .i64 b2.1.2, .int .i64 b2.2.1, .int .i64 b2.2.2])] rfl rfl ⟨(s_1.trans ha1), trivial⟩ (by kernel_rfl))
    refine steps_cons (fun own a wx hf hsl hE => ?_) ?_
    · exact sg_plain rfl rfl (or_assign rfl)
    exact steps_nil
  intro own30 a30 w30 hd30 hz30 hk30 hf30 hE30
  obtain ⟨⟨g26, (f_2 : a30.eval (.tmp 2) = .pointer (some ⟨g26, 0, none⟩)), (b_g26 : BlkO own30 27 w30 g26 39 #[.int .i64 x1.1.1, .int .i64 x1.1.2, .int .i64 x1.2.1, .int .i64 x1.2.2])⟩, ⟨g28, (f_3 : a30.eval (.tmp 3) = .pointer (some ⟨g28, 0, none⟩)), (b_g28 : BlkO own30 29 w30 g28 39 #[.int .i64 b2.1.1, .int .i64 b2.1.2, .int .i64 b2.2.1, .int .i64 b2.2.2])⟩, -⟩ := hf30 [0, 1] rfl
  have e30_2 := f_2
  have e30_3 := f_3
  have hX30 := Evo.step hE0 (fun _ => Nat.le_refl 0) hE30 rfl
  have b30_g26 := b_g26
  have b30_g28 := b_g28
  refine fl_seq (fun Q31 hn31 hp31 => ?_)
  obtain ⟨r32, hr32, hs⟩ := obind hs
  obtain ⟨r33, hr33, hs⟩ := obind hs
  refine rg_plain_seq (n := 53) (rs := []) (own0 := own30) (K := [])
      (bs := [0, 1, 3, 7, 15, 31, 63, 127])
      (ds := [⟨[], [2], [], Fct.val 9 (.agg #[.int .i64 x1.1.1, .int .i64 x1.1.2, .int .i64 x1.2.1, .int .i64 x1.2.2])⟩,
      ⟨[0], [], [], Fct.val 10 (.bool r32)⟩,
      ⟨[1], [], [], Fct.val 11 (.bool (!r32))⟩,
      ⟨[2], [], [], Fct.val 12 (.bool (!r32))⟩,
      ⟨[3], [3], [], Fct.cond (!(!r32)) (some 13) (Fct.val 13 (.agg #[.int .i64 b2.1.1, .int .i64 b2.1.2, .int .i64 b2.2.1, .int .i64 b2.2.2]))⟩,
      ⟨[3, 4], [], [], Fct.cond (!(!r32)) (some 14) (Fct.val 14 (.bool r33))⟩,
      ⟨[3, 5], [], [], Fct.cond (!(!r32)) (some 15) (Fct.val 15 (.bool (!r33)))⟩,
      ⟨[3, 6], [], [], Fct.val 16 (.bool ((!r32) || (!r33)))⟩]) (by kernel_rfl) hz30 hd30 (fun _ h => nomatch h) ?_ ?_
  · refine steps_cons (fun own a wx hf hsl hE => ?_) ?_
    · obtain ⟨s_2, -⟩ := hsl
      exact sg_plain rfl rfl (or_load (l := [.int .i64 x1.1.1, .int .i64 x1.1.2, .int .i64 x1.2.1, .int .i64 x1.2.2]) ta39 (s_2.trans e30_2) (Blk.cellsFrom (BlkO.evo (by decide) hE b30_g26).2 0 rfl) rfl)
    refine steps_cons (fun own a wx hf hsl hE => ?_) ?_
    · obtain ⟨(f_9 : a.eval (.tmp 9) = .agg #[.int .i64 x1.1.1, .int .i64 x1.1.2, .int .i64 x1.2.1, .int .i64 x1.2.2]), -⟩ := hf
      exact sg_plain rfl rfl (or_call cf33 (args1 f_9) (ref06_Right_w _ x1  r32 hr32) post_val)
    refine steps_cons (fun own a wx hf hsl hE => ?_) ?_
    · obtain ⟨(f_10 : a.eval (.tmp 10) = .bool r32), -⟩ := hf
      exact sg_plain rfl rfl (or_not f_10 rfl)
    refine steps_cons (fun own a wx hf hsl hE => ?_) ?_
    · obtain ⟨(f_11 : a.eval (.tmp 11) = .bool (!r32)), -⟩ := hf
      exact sg_plain rfl rfl (or_move f_11)
    refine steps_cons (fun own a wx hf hsl hE => ?_) ?_
    · obtain ⟨(f_12 : a.eval (.tmp 12) = .bool (!r32)), -⟩ := hf
      obtain ⟨s_3, -⟩ := hsl
      refine sg_f rfl rfl rfl f_12 (fun hg => ?_)
      exact or_load (l := [.int .i64 b2.1.1, .int .i64 b2.1.2, .int .i64 b2.2.1, .int .i64 b2.2.2]) ta39 (s_3.trans e30_3) (Blk.cellsFrom (BlkO.evo (by decide) hE b30_g28).2 0 rfl) rfl
    refine steps_cons (fun own a wx hf hsl hE => ?_) ?_
    · obtain ⟨(f_12 : a.eval (.tmp 12) = .bool (!r32)), c_13, -⟩ := hf
      refine sg_f rfl rfl rfl f_12 (fun hg => ?_)
      have f_13 : a.eval (.tmp 13) = .agg #[.int .i64 b2.1.1, .int .i64 b2.1.2, .int .i64 b2.2.1, .int .i64 b2.2.2] := c_13.1 hg
      exact or_call cf33 (args1 f_13) (ref06_Right_w _ b2  r33 (gd_t hr33 hg)) post_val
    refine steps_cons (fun own a wx hf hsl hE => ?_) ?_
    · obtain ⟨(f_12 : a.eval (.tmp 12) = .bool (!r32)), c_14, -⟩ := hf
      refine sg_f rfl rfl rfl f_12 (fun hg => ?_)
      have f_14 : a.eval (.tmp 14) = .bool r33 := c_14.1 hg
      exact or_not f_14 rfl
    refine steps_cons (fun own a wx hf hsl hE => ?_) ?_
    · obtain ⟨(f_12 : a.eval (.tmp 12) = .bool (!r32)), c_15, -⟩ := hf
      exact sg_plain rfl rfl (or_or f_12 rfl (fun hx => c_15.1 hx) rfl)
    exact steps_nil
  intro own34 a34 w34 hd34 hz34 hk34 hf34 hE34
  have e34_2 : a34.eval (.tmp 2) = .pointer (some ⟨g26, 0, none⟩) := (hk34 2 rfl).trans e30_2
  have e34_3 : a34.eval (.tmp 3) = .pointer (some ⟨g28, 0, none⟩) := (hk34 3 rfl).trans e30_3
  obtain ⟨(f_16 : a34.eval (.tmp 16) = .bool ((!r32) || (!r33))), -⟩ := hf34 [7] rfl
  have e34_16 := f_16
  have hX34 := Evo.step hX30 (fun _ => Nat.le_refl 0) hE34 rfl
  have b34_g26 := BlkO.evo (by decide) hE34 b30_g26
  have b34_g28 := BlkO.evo (by decide) hE34 b30_g28
  refine fl_cond e34_16 hs (fun c35 hs => ?_) (fun c35 hs => ?_)
  · refine rg_plain_seq (n := 53) (rs := []) (own0 := own34) (K := [])
        (bs := [0])
        (ds := [⟨[], [], [], Fct.val 4 (.bool false)⟩]) (by kernel_rfl) hz34 hd34 (fun _ h => nomatch h) ?_ ?_
    · refine steps_cons (fun own a wx hf hsl hE => ?_) ?_
      · exact sg_plain rfl rfl (or_assign rfl)
      exact steps_nil
    intro own36 a36 w36 hd36 hz36 hk36 hf36 hE36
    obtain ⟨(f_4 : a36.eval (.tmp 4) = .bool false), -⟩ := hf36 [0] rfl
    have e36_4 := f_4
    have hX36 := Evo.step hX34 (fun _ => Nat.le_refl 0) hE36 rfl
    refine fl_ret ?_
    refine hp31 _ _ _ rfl ?_
    obtain rfl := osome hs
    exact hret _ _ _ _ (.inl rfl) hd36 (results1_ rfl (RVal.tmp_ e36_4)) ⟨own36, rfl, hX36⟩
  refine fl_skip ?_
  refine hn31 _ _ ?_
  refine rg_draw_seq g_mixed (n := 53) (rs := []) (own0 := own34) (K := [])
      (bs := [0, 1, 3, 0, 8, 24, 63, 0, 128, 384, 0, 1024, 3072, 8064, 127, 32767])
      (ds := [⟨[], [2], [], Fct.val 17 (.pointer (some ⟨g26, 0, none⟩))⟩,
      ⟨[0], [], [], Fct.val 18 (.pointer (some ⟨g26, 0, none⟩))⟩,
      ⟨[1], [], [], Fct.val 19 (.int .i64 x1.1.1)⟩,
      ⟨[], [3], [], Fct.val 20 (.pointer (some ⟨g28, 0, none⟩))⟩,
      ⟨[3], [], [], Fct.val 21 (.pointer (some ⟨g28, 0, none⟩))⟩,
      ⟨[4], [], [], Fct.val 22 (.int .i64 b2.1.1)⟩,
      ⟨[2, 5], [], [], Fct.val 23 (.int .i64 (mx x1.1.1 b2.1.1))⟩,
      ⟨[], [2], [], Fct.val 24 (.pointer (some ⟨g26, 2, none⟩))⟩,
      ⟨[7], [], [], Fct.val 25 (.pointer (some ⟨g26, 2, none⟩))⟩,
      ⟨[8], [], [], Fct.val 26 (.int .i64 x1.2.1)⟩,
      ⟨[], [3], [], Fct.val 27 (.pointer (some ⟨g28, 2, none⟩))⟩,
      ⟨[10], [], [], Fct.val 28 (.pointer (some ⟨g28, 2, none⟩))⟩,
      ⟨[11], [], [], Fct.val 29 (.int .i64 b2.2.1)⟩,
      ⟨[9, 12], [], [], Fct.val 30 (.int .i64 (mn x1.2.1 b2.2.1))⟩,
      ⟨[6], [], [], Fct.val 5 (.int .i64 (mx x1.1.1 b2.1.1))⟩,
      ⟨[13], [], [], Fct.val 6 (.int .i64 (mn x1.2.1 b2.2.1))⟩]) (by kernel_rfl) hz34 hd34 (fun _ h => nomatch h) ?_ ?_
  · refine steps_cons (fun own a wx hf hsl hE => ?_) ?_
    · obtain ⟨s_2, -⟩ := hsl
      exact sg_plain rfl rfl (or_field fo39_0 (s_2.trans e34_2) (by rfl))
    refine steps_cons (fun own a wx hf hsl hE => ?_) ?_
    · obtain ⟨(f_17 : a.eval (.tmp 17) = .pointer (some ⟨g26, 0, none⟩)), -⟩ := hf
      exact sg_plain rfl rfl (or_field fo37_0 f_17 (by rfl))
    refine steps_cons (fun own a wx hf hsl hE => ?_) ?_
    · obtain ⟨(f_18 : a.eval (.tmp 18) = .pointer (some ⟨g26, 0, none⟩)), -⟩ := hf
      exact sg_plain rfl rfl (or_load1 to3 f_18 (Blk.at_ (BlkO.evo (by decide) hE b34_g26).2 0 rfl))
    refine steps_cons (fun own a wx hf hsl hE => ?_) ?_
    · obtain ⟨s_3, -⟩ := hsl
      exact sg_plain rfl rfl (or_field fo39_0 (s_3.trans e34_3) (by rfl))
    refine steps_cons (fun own a wx hf hsl hE => ?_) ?_
    · obtain ⟨(f_20 : a.eval (.tmp 20) = .pointer (some ⟨g28, 0, none⟩)), -⟩ := hf
      exact sg_plain rfl rfl (or_field fo37_0 f_20 (by rfl))
    refine steps_cons (fun own a wx hf hsl hE => ?_) ?_
    · obtain ⟨(f_21 : a.eval (.tmp 21) = .pointer (some ⟨g28, 0, none⟩)), -⟩ := hf
      exact sg_plain rfl rfl (or_load1 to3 f_21 (Blk.at_ (BlkO.evo (by decide) hE b34_g28).2 0 rfl))
    refine steps_cons (fun own a wx hf hsl hE => ?_) ?_
    · obtain ⟨(f_19 : a.eval (.tmp 19) = .int .i64 x1.1.1), (f_22 : a.eval (.tmp 22) = .int .i64 b2.1.1), -⟩ := hf
      exact sg_plain rfl rfl (or_max f_19 f_22)
    refine steps_cons (fun own a wx hf hsl hE => ?_) ?_
    · obtain ⟨s_2, -⟩ := hsl
      exact sg_plain rfl rfl (or_field fo39_1 (s_2.trans e34_2) (by rfl))
    refine steps_cons (fun own a wx hf hsl hE => ?_) ?_
    · obtain ⟨(f_24 : a.eval (.tmp 24) = .pointer (some ⟨g26, 2, none⟩)), -⟩ := hf
      exact sg_plain rfl rfl (or_field fo37_0 f_24 (by rfl))
    refine steps_cons (fun own a wx hf hsl hE => ?_) ?_
    · obtain ⟨(f_25 : a.eval (.tmp 25) = .pointer (some ⟨g26, 2, none⟩)), -⟩ := hf
      exact sg_plain rfl rfl (or_load1 to3 f_25 (Blk.at_ (BlkO.evo (by decide) hE b34_g26).2 2 rfl))
    refine steps_cons (fun own a wx hf hsl hE => ?_) ?_
    · obtain ⟨s_3, -⟩ := hsl
      exact sg_plain rfl rfl (or_field fo39_1 (s_3.trans e34_3) (by rfl))
    refine steps_cons (fun own a wx hf hsl hE => ?_) ?_
    · obtain ⟨(f_27 : a.eval (.tmp 27) = .pointer (some ⟨g28, 2, none⟩)), -⟩ := hf
      exact sg_plain rfl rfl (or_field fo37_0 f_27 (by rfl))
    refine steps_cons (fun own a wx hf hsl hE => ?_) ?_
    · obtain ⟨(f_28 : a.eval (.tmp 28) = .pointer (some ⟨g28, 2, none⟩)), -⟩ := hf
      exact sg_plain rfl rfl (or_load1 to3 f_28 (Blk.at_ (BlkO.evo (by decide) hE b34_g28).2 2 rfl))
    refine steps_cons (fun own a wx hf hsl hE => ?_) ?_
    · obtain ⟨(f_26 : a.eval (.tmp 26) = .int .i64 x1.2.1), (f_29 : a.eval (.tmp 29) = .int .i64 b2.2.1), -⟩ := hf
      exact sg_plain rfl rfl (or_min f_26 f_29)
    refine steps_cons (fun own a wx hf hsl hE => ?_) ?_
    · obtain ⟨(f_23 : a.eval (.tmp 23) = .int .i64 (mx x1.1.1 b2.1.1)), -⟩ := hf
      exact sg_plain rfl rfl (or_assign f_23)
    refine steps_cons (fun own a wx hf hsl hE => ?_) ?_
    · obtain ⟨(f_30 : a.eval (.tmp 30) = .int .i64 (mn x1.2.1 b2.2.1)), -⟩ := hf
      exact sg_plain rfl rfl (or_assign f_30)
    exact steps_nil
  intro own37 a37 w37 hd37 hz37 hk37 hf37 hE37
  have e37_2 : a37.eval (.tmp 2) = .pointer (some ⟨g26, 0, none⟩) := (hk37 2 rfl).trans e34_2
  have e37_3 : a37.eval (.tmp 3) = .pointer (some ⟨g28, 0, none⟩) := (hk37 3 rfl).trans e34_3
  obtain ⟨(f_5 : a37.eval (.tmp 5) = .int .i64 (mx x1.1.1 b2.1.1)), (f_6 : a37.eval (.tmp 6) = .int .i64 (mn x1.2.1 b2.2.1)), -⟩ := hf37 [14, 15] rfl
  have e37_5 := f_5
  have e37_6 := f_6
  have hX37 := Evo.step hX34 (fun _ => Nat.le_refl 0) hE37 rfl
  have b37_g26 := BlkO.evo (by decide) hE37 b34_g26
  have b37_g28 := BlkO.evo (by decide) hE37 b34_g28
  refine rg_draw_seq g_mixed (n := 53) (rs := []) (own0 := own37) (K := [])
      (bs := [0, 1, 3, 0, 8, 24, 63, 0, 128, 384, 0, 1024, 3072, 8064, 127, 32767])
      (ds := [⟨[], [2], [], Fct.val 31 (.pointer (some ⟨g26, 0, none⟩))⟩,
      ⟨[0], [], [], Fct.val 32 (.pointer (some ⟨g26, 1, none⟩))⟩,
      ⟨[1], [], [], Fct.val 33 (.int .i64 x1.1.2)⟩,
      ⟨[], [3], [], Fct.val 34 (.pointer (some ⟨g28, 0, none⟩))⟩,
      ⟨[3], [], [], Fct.val 35 (.pointer (some ⟨g28, 1, none⟩))⟩,
      ⟨[4], [], [], Fct.val 36 (.int .i64 b2.1.2)⟩,
      ⟨[2, 5], [], [], Fct.val 37 (.int .i64 (mx x1.1.2 b2.1.2))⟩,
      ⟨[], [2], [], Fct.val 38 (.pointer (some ⟨g26, 2, none⟩))⟩,
      ⟨[7], [], [], Fct.val 39 (.pointer (some ⟨g26, 3, none⟩))⟩,
      ⟨[8], [], [], Fct.val 40 (.int .i64 x1.2.2)⟩,
      ⟨[], [3], [], Fct.val 41 (.pointer (some ⟨g28, 2, none⟩))⟩,
      ⟨[10], [], [], Fct.val 42 (.pointer (some ⟨g28, 3, none⟩))⟩,
      ⟨[11], [], [], Fct.val 43 (.int .i64 b2.2.2)⟩,
      ⟨[9, 12], [], [], Fct.val 44 (.int .i64 (mn x1.2.2 b2.2.2))⟩,
      ⟨[6], [], [], Fct.val 7 (.int .i64 (mx x1.1.2 b2.1.2))⟩,
      ⟨[13], [], [], Fct.val 8 (.int .i64 (mn x1.2.2 b2.2.2))⟩]) (by kernel_rfl) hz37 hd37 (fun _ h => nomatch h) ?_ ?_
  · refine steps_cons (fun own a wx hf hsl hE => ?_) ?_
    · obtain ⟨s_2, -⟩ := hsl
      exact sg_plain rfl rfl (or_field fo39_0 (s_2.trans e37_2) (by rfl))
    refine steps_cons (fun own a wx hf hsl hE => ?_) ?_
    · obtain ⟨(f_31 : a.eval (.tmp 31) = .pointer (some ⟨g26, 0, none⟩)), -⟩ := hf
      exact sg_plain rfl rfl (or_field fo37_1 f_31 (by rfl))
    refine steps_cons (fun own a wx hf hsl hE => ?_) ?_
    · obtain ⟨(f_32 : a.eval (.tmp 32) = .pointer (some ⟨g26, 1, none⟩)), -⟩ := hf
      exact sg_plain rfl rfl (or_load1 to3 f_32 (Blk.at_ (BlkO.evo (by decide) hE b37_g26).2 1 rfl))
    refine steps_cons (fun own a wx hf hsl hE => ?_) ?_
    · obtain ⟨s_3, -⟩ := hsl
      exact sg_plain rfl rfl (or_field fo39_0 (s_3.trans e37_3) (by rfl))
    refine steps_cons (fun own a wx hf hsl hE => ?_) ?_
    · obtain ⟨(f_34 : a.eval (.tmp 34) = .pointer (some ⟨g28, 0, none⟩)), -⟩ := hf
      exact sg_plain rfl rfl (or_field fo37_1 f_34 (by rfl))
    refine steps_cons (fun own a wx hf hsl hE => ?_) ?_
    · obtain ⟨(f_35 : a.eval (.tmp 35) = .pointer (some ⟨g28, 1, none⟩)), -⟩ := hf
      exact sg_plain rfl rfl (or_load1 to3 f_35 (Blk.at_ (BlkO.evo (by decide) hE b37_g28).2 1 rfl))
    refine steps_cons (fun own a wx hf hsl hE => ?_) ?_
    · obtain ⟨(f_33 : a.eval (.tmp 33) = .int .i64 x1.1.2), (f_36 : a.eval (.tmp 36) = .int .i64 b2.1.2), -⟩ := hf
      exact sg_plain rfl rfl (or_max f_33 f_36)
    refine steps_cons (fun own a wx hf hsl hE => ?_) ?_
    · obtain ⟨s_2, -⟩ := hsl
      exact sg_plain rfl rfl (or_field fo39_1 (s_2.trans e37_2) (by rfl))
    refine steps_cons (fun own a wx hf hsl hE => ?_) ?_
    · obtain ⟨(f_38 : a.eval (.tmp 38) = .pointer (some ⟨g26, 2, none⟩)), -⟩ := hf
      exact sg_plain rfl rfl (or_field fo37_1 f_38 (by rfl))
    refine steps_cons (fun own a wx hf hsl hE => ?_) ?_
    · obtain ⟨(f_39 : a.eval (.tmp 39) = .pointer (some ⟨g26, 3, none⟩)), -⟩ := hf
      exact sg_plain rfl rfl (or_load1 to3 f_39 (Blk.at_ (BlkO.evo (by decide) hE b37_g26).2 3 rfl))
    refine steps_cons (fun own a wx hf hsl hE => ?_) ?_
    · obtain ⟨s_3, -⟩ := hsl
      exact sg_plain rfl rfl (or_field fo39_1 (s_3.trans e37_3) (by rfl))
    refine steps_cons (fun own a wx hf hsl hE => ?_) ?_
    · obtain ⟨(f_41 : a.eval (.tmp 41) = .pointer (some ⟨g28, 2, none⟩)), -⟩ := hf
      exact sg_plain rfl rfl (or_field fo37_1 f_41 (by rfl))
    refine steps_cons (fun own a wx hf hsl hE => ?_) ?_
    · obtain ⟨(f_42 : a.eval (.tmp 42) = .pointer (some ⟨g28, 3, none⟩)), -⟩ := hf
      exact sg_plain rfl rfl (or_load1 to3 f_42 (Blk.at_ (BlkO.evo (by decide) hE b37_g28).2 3 rfl))
    refine steps_cons (fun own a wx hf hsl hE => ?_) ?_
    · obtain ⟨(f_40 : a.eval (.tmp 40) = .int .i64 x1.2.2), (f_43 : a.eval (.tmp 43) = .int .i64 b2.2.2), -⟩ := hf
      exact sg_plain rfl rfl (or_min f_40 f_43)
    refine steps_cons (fun own a wx hf hsl hE => ?_) ?_
    · obtain ⟨(f_37 : a.eval (.tmp 37) = .int .i64 (mx x1.1.2 b2.1.2)), -⟩ := hf
      exact sg_plain rfl rfl (or_assign f_37)
    refine steps_cons (fun own a wx hf hsl hE => ?_) ?_
    · obtain ⟨(f_44 : a.eval (.tmp 44) = .int .i64 (mn x1.2.2 b2.2.2)), -⟩ := hf
      exact sg_plain rfl rfl (or_assign f_44)
    exact steps_nil
  intro own38 a38 w38 hd38 hz38 hk38 hf38 hE38
  have e38_5 : a38.eval (.tmp 5) = .int .i64 (mx x1.1.1 b2.1.1) := (hk38 5 rfl).trans e37_5
  have e38_6 : a38.eval (.tmp 6) = .int .i64 (mn x1.2.1 b2.2.1) := (hk38 6 rfl).trans e37_6
  obtain ⟨(f_7 : a38.eval (.tmp 7) = .int .i64 (mx x1.1.2 b2.1.2)), (f_8 : a38.eval (.tmp 8) = .int .i64 (mn x1.2.2 b2.2.2)), -⟩ := hf38 [14, 15] rfl
  have e38_7 := f_7
  have e38_8 := f_8
  have hX38 := Evo.step hX37 (fun _ => Nat.le_refl 0) hE38 rfl
  obtain ⟨x39, hx39, hs⟩ := obind hs
  refine rg_plain_seq (n := 53) (rs := []) (own0 := own38) (K := [])
      (bs := [0, 0, 3, 7, 15, 15, 63, 127, 255])
      (ds := [⟨[], [5], [], Fct.val 45 (.int .i64 (mx x1.1.1 b2.1.1))⟩,
      ⟨[], [6], [], Fct.val 46 (.int .i64 (mn x1.2.1 b2.2.1))⟩,
      ⟨[0, 1], [], [], Fct.val 47 (.bool (decide ((mx x1.1.1 b2.1.1) ≤ (mn x1.2.1 b2.2.1))))⟩,
      ⟨[2], [], [], Fct.val 48 (.bool (decide ((mx x1.1.1 b2.1.1) ≤ (mn x1.2.1 b2.2.1))))⟩,
      ⟨[3], [7], [], Fct.cond (decide ((mx x1.1.1 b2.1.1) ≤ (mn x1.2.1 b2.2.1))) (some 49) (Fct.val 49 (.int .i64 (mx x1.1.2 b2.1.2)))⟩,
      ⟨[3], [8], [], Fct.cond (decide ((mx x1.1.1 b2.1.1) ≤ (mn x1.2.1 b2.2.1))) (some 50) (Fct.val 50 (.int .i64 (mn x1.2.2 b2.2.2)))⟩,
      ⟨[3, 4, 5], [], [], Fct.cond (decide ((mx x1.1.1 b2.1.1) ≤ (mn x1.2.1 b2.2.1))) (some 51) (Fct.val 51 (.bool (decide ((mx x1.1.2 b2.1.2) ≤ (mn x1.2.2 b2.2.2)))))⟩,
      ⟨[3, 6], [], [], Fct.val 52 (.bool x39)⟩,
      ⟨[7], [], [], Fct.val 4 (.bool x39)⟩]) (by kernel_rfl) hz38 hd38 (fun _ h => nomatch h) ?_ ?_
  · refine steps_cons (fun own a wx hf hsl hE => ?_) ?_
    · obtain ⟨s_5, -⟩ := hsl
      exact sg_plain rfl rfl (or_move (s_5.trans e38_5))
    refine steps_cons (fun own a wx hf hsl hE => ?_) ?_
    · obtain ⟨s_6, -⟩ := hsl
      exact sg_plain rfl rfl (or_move (s_6.trans e38_6))
    refine steps_cons (fun own a wx hf hsl hE => ?_) ?_
    · obtain ⟨(f_45 : a.eval (.tmp 45) = .int .i64 (mx x1.1.1 b2.1.1)), (f_46 : a.eval (.tmp 46) = .int .i64 (mn x1.2.1 b2.2.1)), -⟩ := hf
      exact sg_plain rfl rfl (or_leq f_45 f_46 rfl)
    refine steps_cons (fun own a wx hf hsl hE => ?_) ?_
    · obtain ⟨(f_47 : a.eval (.tmp 47) = .bool (decide ((mx x1.1.1 b2.1.1) ≤ (mn x1.2.1 b2.2.1)))), -⟩ := hf
      exact sg_plain rfl rfl (or_move f_47)
    refine steps_cons (fun own a wx hf hsl hE => ?_) ?_
    · obtain ⟨(f_48 : a.eval (.tmp 48) = .bool (decide ((mx x1.1.1 b2.1.1) ≤ (mn x1.2.1 b2.2.1)))), -⟩ := hf
      obtain ⟨s_7, -⟩ := hsl
      refine sg_t rfl rfl rfl f_48 (fun hg => ?_)
      exact or_move (s_7.trans e38_7)
    refine steps_cons (fun own a wx hf hsl hE => ?_) ?_
    · obtain ⟨(f_48 : a.eval (.tmp 48) = .bool (decide ((mx x1.1.1 b2.1.1) ≤ (mn x1.2.1 b2.2.1)))), -⟩ := hf
      obtain ⟨s_8, -⟩ := hsl
      refine sg_t rfl rfl rfl f_48 (fun hg => ?_)
      exact or_move (s_8.trans e38_8)
    refine steps_cons (fun own a wx hf hsl hE => ?_) ?_
    · obtain ⟨(f_48 : a.eval (.tmp 48) = .bool (decide ((mx x1.1.1 b2.1.1) ≤ (mn x1.2.1 b2.2.1)))), c_49, c_50, -⟩ := hf
      refine sg_t rfl rfl rfl f_48 (fun hg => ?_)
      have f_49 : a.eval (.tmp 49) = .int .i64 (mx x1.1.2 b2.1.2) := c_49.1 hg
      have f_50 : a.eval (.tmp 50) = .int .i64 (mn x1.2.2 b2.2.2) := c_50.1 hg
      exact or_leq f_49 f_50 rfl
    refine steps_cons (fun own a wx hf hsl hE => ?_) ?_
    · obtain ⟨(f_48 : a.eval (.tmp 48) = .bool (decide ((mx x1.1.1 b2.1.1) ≤ (mn x1.2.1 b2.2.1)))), c_51, -⟩ := hf
      exact sg_plain rfl rfl (or_and f_48 (fun hx => c_51.1 hx) rfl (osome hx39).symm)
    refine steps_cons (fun own a wx hf hsl hE => ?_) ?_
    · obtain ⟨(f_52 : a.eval (.tmp 52) = .bool x39), -⟩ := hf
      exact sg_plain rfl rfl (or_assign f_52)
    exact steps_nil
  intro own40 a40 w40 hd40 hz40 hk40 hf40 hE40
  obtain ⟨(f_4 : a40.eval (.tmp 4) = .bool x39), -⟩ := hf40 [8] rfl
  have e40_4 := f_4
  have hX40 := Evo.step hX38 (fun _ => Nat.le_refl 0) hE40 rfl
  refine fl_ret ?_
  obtain rfl := (osome hs).symm
  exact hret _ _ _ _ (.inl rfl) hd40 (results1_ rfl (RVal.tmp_ e40_4)) ⟨own40, rfl, hX40⟩

set_option maxHeartbeats 2000000 in
theorem ref22_Shown_w (w : World) (p1 : Int × Int) (q2 : Int × Int) (b3 : (Int × Int) × (Int × Int)) (r : Bool) (hs : ref22_Shown p1 q2 b3 = some r) :
    Calls Try.prog 14 #[.agg #[.int .i64 p1.1, .int .i64 p1.2], .agg #[.int .i64 q2.1, .int .i64 q2.2], .agg #[.int .i64 b3.1.1, .int .i64 b3.1.2, .int .i64 b3.2.1, .int .i64 b3.2.2]] w fun e w' => ∃ own' : Own, e = .returned (.bool r) ∧ Evo [] (fun _ => 0) own' w w' := by
  refine fl_enter (n := 94) rfl rfl rfl (Nat.le_of_ble_eq_true rfl) ?_
  intro a0 Q hd0 hz0 harg hret
  have ha0 := harg 0 _ rfl
  have ha1 := harg 1 _ rfl
  have ha2 := harg 2 _ rfl
  clear harg
  have hE0 : Evo [] (fun _ => 0) (fun _ => 0) w w := Evo.refl _ _ _
  refine rg_plain_seq (n := 94) (rs := []) (own0 := (fun _ => 0)) (K := [])
      (bs := [0, 0, 0, 0])
      (ds := [⟨[], [0], [], Fct.blk 33 3 (fun g => .pointer (some ⟨g, 0, none⟩)) 37 #[.int .i64 p1.1, .int .i64 p1.2]⟩,
      ⟨[], [1], [], Fct.blk 35 4 (fun g => .pointer (some ⟨g, 0, none⟩)) 37 #[.int .i64 q2.1, .int .i64 q2.2]⟩,
      ⟨[], [2], [], Fct.blk 37 5 (fun g => .pointer (some ⟨g, 0, none⟩)) 39 #[.int .i64 b3.1.1, .int .i64 b3.1.2, .int .i64 b3.2.1, .int .i64 b3.2.2]⟩,
      ⟨[], [], [], Fct.val 6 (.bool false)⟩]) (by kernel_rfl) hz0 hd0 (fun _ h => nomatch h) ?_ ?_
  · refine steps_cons (fun own a wx hf hsl hE => ?_) ?_
    · obtain ⟨s_0, -⟩ := hsl
      exact sg_plain rfl rfl (or_new [(0, .agg #[.int .i64 p1.1, .int .i64 p1.2])] rfl rfl ⟨(s_0.trans ha0), trivial⟩ (by kernel_rfl))
    refine steps_cons (fun own a wx hf hsl hE => ?_) ?_
    · obtain ⟨s_1, -⟩ := hsl
      exact sg_plain rfl rfl (or_new [(1, .agg #[.int .i64 q2.1, .int .i64 q2.2])] rfl rfl ⟨(s_1.trans ha1), trivial⟩ (by kernel_rfl))
    refine steps_cons (fun own a wx hf hsl hE => ?_) ?_
    · obtain ⟨s_2, -⟩ := hsl
      exact sg_plain rfl rfl (or_new [(2, .agg #[.int .i64 b3.1.1, .int .i64 b3.1.2, .int .i64 b3.2.1, .int .i64 b3.2.2])] rfl rfl ⟨(s_2.trans ha2), trivial⟩ (by kernel_rfl))
    refine steps_cons (fun own a wx hf hsl hE => ?_) ?_
    · exact sg_plain rfl rfl (or_assign rfl)
    exact steps_nil
  intro own38 a38 w38 hd38 hz38 hk38 hf38 hE38
  obtain ⟨⟨g32, (f_3 : a38.eval (.tmp 3) = .pointer (some ⟨g32, 0, none⟩)), (b_g32 : BlkO own38 33 w38 g32 37 #[.int .i64 p1.1, .int .i64 p1.2])⟩, ⟨g34, (f_4 : a38.eval (.tmp 4) = .pointer (some ⟨g34, 0, none⟩)), (b_g34 : BlkO own38 35 w38 g34 37 #[.int .i64 q2.1, .int .i64 q2.2])⟩, ⟨g36, (f_5 : a38.eval (.tmp 5) = .pointer (some ⟨g36, 0, none⟩)), (b_g36 : BlkO own38 37 w38 g36 39 #[.int .i64 b3.1.1, .int .i64 b3.1.2, .int .i64 b3.2.1, .int .i64 b3.2.2])⟩, -⟩ := hf38 [0, 1, 2] rfl
  have e38_3 := f_3
  have e38_4 := f_4
  have e38_5 := f_5
  have hX38 := Evo.step hE0 (fun _ => Nat.le_refl 0) hE38 rfl
  have b38_g32 := b_g32
  have b38_g34 := b_g34
  have b38_g36 := b_g36
  refine fl_seq (fun Q39 hn39 hp39 => ?_)
  obtain ⟨r40, hr40, hs⟩ := obind hs
  obtain ⟨r41, hr41, hs⟩ := obind hs
  obtain ⟨x42, hx42, hs⟩ := obind hs
  refine rg_plain_seq (n := 94) (rs := []) (own0 := own38) (K := [])
      (bs := [0, 0, 3, 7, 15, 15, 15, 111, 255, 511, 1023, 2047, 4095, 4095, 4095, 28671, 65535, 131071, 262143])
      (ds := [⟨[], [3], [], Fct.val 9 (.agg #[.int .i64 p1.1, .int .i64 p1.2])⟩,
      ⟨[], [4], [], Fct.val 10 (.agg #[.int .i64 q2.1, .int .i64 q2.2])⟩,
      ⟨[0, 1], [], [], Fct.val 11 (.bool (decide (p1 = q2)))⟩,
      ⟨[2], [], [], Fct.val 12 (.bool (decide (p1 = q2)))⟩,
      ⟨[3], [5], [], Fct.cond (!(decide (p1 = q2))) (some 13) (Fct.val 13 (.agg #[.int .i64 b3.1.1, .int .i64 b3.1.2, .int .i64 b3.2.1, .int .i64 b3.2.2]))⟩,
      ⟨[3], [3], [], Fct.cond (!(decide (p1 = q2))) (some 14) (Fct.val 14 (.agg #[.int .i64 p1.1, .int .i64 p1.2]))⟩,
      ⟨[3], [3], [], Fct.cond (!(decide (p1 = q2))) (some 15) (Fct.val 15 (.agg #[.int .i64 p1.1, .int .i64 p1.2]))⟩,
      ⟨[3, 5, 6], [], [], Fct.cond (!(decide (p1 = q2))) (some 16) (Fct.val 16 (.agg #[.int .i64 p1.1, .int .i64 p1.2, .int .i64 p1.1, .int .i64 p1.2]))⟩,
      ⟨[3, 4, 7], [], [], Fct.cond (!(decide (p1 = q2))) (some 17) (Fct.val 17 (.bool r40))⟩,
      ⟨[3, 8], [], [], Fct.cond (!(decide (p1 = q2))) (some 18) (Fct.val 18 (.bool (!r40)))⟩,
      ⟨[3, 9], [], [], Fct.val 19 (.bool ((decide (p1 = q2)) || (!r40)))⟩,
      ⟨[10], [], [], Fct.val 20 (.bool ((decide (p1 = q2)) || (!r40)))⟩,
      ⟨[11], [5], [], Fct.cond (!((decide (p1 = q2)) || (!r40))) (some 21) (Fct.val 21 (.agg #[.int .i64 b3.1.1, .int .i64 b3.1.2, .int .i64 b3.2.1, .int .i64 b3.2.2]))⟩,
      ⟨[11], [4], [], Fct.cond (!((decide (p1 = q2)) || (!r40))) (some 22) (Fct.val 22 (.agg #[.int .i64 q2.1, .int .i64 q2.2]))⟩,
      ⟨[11], [4], [], Fct.cond (!((decide (p1 = q2)) || (!r40))) (some 23) (Fct.val 23 (.agg #[.int .i64 q2.1, .int .i64 q2.2]))⟩,
      ⟨[11, 13, 14], [], [], Fct.cond (!((decide (p1 = q2)) || (!r40))) (some 24) (Fct.val 24 (.agg #[.int .i64 q2.1, .int .i64 q2.2, .int .i64 q2.1, .int .i64 q2.2]))⟩,
      ⟨[11, 12, 15], [], [], Fct.cond (!((decide (p1 = q2)) || (!r40))) (some 25) (Fct.val 25 (.bool r41))⟩,
      ⟨[11, 16], [], [], Fct.cond (!((decide (p1 = q2)) || (!r40))) (some 26) (Fct.val 26 (.bool (!r41)))⟩,
      ⟨[11, 17], [], [], Fct.val 27 (.bool x42)⟩]) (by kernel_rfl) hz38 hd38 (fun _ h => nomatch h) ?_ ?_
  · refine steps_cons (fun own a wx hf hsl hE => ?_) ?_
    · obtain ⟨s_3, -⟩ := hsl
      exact sg_plain rfl rfl (or_load (l := [.int .i64 p1.1, .int .i64 p1.2]) ta37 (s_3.trans e38_3) (Blk.cellsFrom (BlkO.evo (by decide) hE b38_g32).2 0 rfl) rfl)
    refine steps_cons (fun own a wx hf hsl hE => ?_) ?_
    · obtain ⟨s_4, -⟩ := hsl
      exact sg_plain rfl rfl (or_load (l := [.int .i64 q2.1, .int .i64 q2.2]) ta37 (s_4.trans e38_4) (Blk.cellsFrom (BlkO.evo (by decide) hE b38_g34).2 0 rfl) rfl)
    refine steps_cons (fun own a wx hf hsl hE => ?_) ?_
    · obtain ⟨(f_9 : a.eval (.tmp 9) = .agg #[.int .i64 p1.1, .int .i64 p1.2]), (f_10 : a.eval (.tmp 10) = .agg #[.int .i64 q2.1, .int .i64 q2.2]), -⟩ := hf
      exact sg_plain rfl rfl (or_eqlA sg37 f_9 f_10 (se37 p1.1 p1.2 q2.1 q2.2 _) rfl)
    refine steps_cons (fun own a wx hf hsl hE => ?_) ?_
    · obtain ⟨(f_11 : a.eval (.tmp 11) = .bool (decide (p1 = q2))), -⟩ := hf
      exact sg_plain rfl rfl (or_move f_11)
    refine steps_cons (fun own a wx hf hsl hE => ?_) ?_
    · obtain ⟨(f_12 : a.eval (.tmp 12) = .bool (decide (p1 = q2))), -⟩ := hf
      obtain ⟨s_5, -⟩ := hsl
      refine sg_f rfl rfl rfl f_12 (fun hg => ?_)
      exact or_load (l := [.int .i64 b3.1.1, .int .i64 b3.1.2, .int .i64 b3.2.1, .int .i64 b3.2.2]) ta39 (s_5.trans e38_5) (Blk.cellsFrom (BlkO.evo (by decide) hE b38_g36).2 0 rfl) rfl
    refine steps_cons (fun own a wx hf hsl hE => ?_) ?_
    · obtain ⟨(f_12 : a.eval (.tmp 12) = .bool (decide (p1 = q2))), -⟩ := hf
      obtain ⟨s_3, -⟩ := hsl
      refine sg_f rfl rfl rfl f_12 (fun hg => ?_)
      exact or_load (l := [.int .i64 p1.1, .int .i64 p1.2]) ta37 (s_3.trans e38_3) (Blk.cellsFrom (BlkO.evo (by decide) hE b38_g32).2 0 rfl) rfl
    refine steps_cons (fun own a wx hf hsl hE => ?_) ?_
    · obtain ⟨(f_12 : a.eval (.tmp 12) = .bool (decide (p1 = q2))), -⟩ := hf
      obtain ⟨s_3, -⟩ := hsl
      refine sg_f rfl rfl rfl f_12 (fun hg => ?_)
      exact or_load (l := [.int .i64 p1.1, .int .i64 p1.2]) ta37 (s_3.trans e38_3) (Blk.cellsFrom (BlkO.evo (by decide) hE b38_g32).2 0 rfl) rfl
    refine steps_cons (fun own a wx hf hsl hE => ?_) ?_
    · obtain ⟨(f_12 : a.eval (.tmp 12) = .bool (decide (p1 = q2))), c_14, c_15, -⟩ := hf
      refine sg_f rfl rfl rfl f_12 (fun hg => ?_)
      have f_14 : a.eval (.tmp 14) = .agg #[.int .i64 p1.1, .int .i64 p1.2] := c_14.1 hg
      have f_15 : a.eval (.tmp 15) = .agg #[.int .i64 p1.1, .int .i64 p1.2] := c_15.1 hg
      exact or_k [(14, .agg #[.int .i64 p1.1, .int .i64 p1.2]), (15, .agg #[.int .i64 p1.1, .int .i64 p1.2])] rfl rfl ⟨f_14, f_15, trivial⟩ (by kernel_rfl)
    refine steps_cons (fun own a wx hf hsl hE => ?_) ?_
    · obtain ⟨(f_12 : a.eval (.tmp 12) = .bool (decide (p1 = q2))), c_13, c_16, -⟩ := hf
      refine sg_f rfl rfl rfl f_12 (fun hg => ?_)
      have f_13 : a.eval (.tmp 13) = .agg #[.int .i64 b3.1.1, .int .i64 b3.1.2, .int .i64 b3.2.1, .int .i64 b3.2.2] := c_13.1 hg
      have f_16 : a.eval (.tmp 16) = .agg #[.int .i64 p1.1, .int .i64 p1.2, .int .i64 p1.1, .int .i64 p1.2] := c_16.1 hg
      exact or_call cf28 (args2 f_13 f_16) (ref06_Meet_w _ b3 (p1, p1)  r40 (gd_t hr40 hg)) post_val
    refine steps_cons (fun own a wx hf hsl hE => ?_) ?_
    · obtain ⟨(f_12 : a.eval (.tmp 12) = .bool (decide (p1 = q2))), c_17, -⟩ := hf
      refine sg_f rfl rfl rfl f_12 (fun hg => ?_)
      have f_17 : a.eval (.tmp 17) = .bool r40 := c_17.1 hg
      exact or_not f_17 rfl
    refine steps_cons (fun own a wx hf hsl hE => ?_) ?_
    · obtain ⟨(f_12 : a.eval (.tmp 12) = .bool (decide (p1 = q2))), c_18, -⟩ := hf
      exact sg_plain rfl rfl (or_or f_12 rfl (fun hx => c_18.1 hx) rfl)
    refine steps_cons (fun own a wx hf hsl hE => ?_) ?_
    · obtain ⟨(f_19 : a.eval (.tmp 19) = .bool ((decide (p1 = q2)) || (!r40))), -⟩ := hf
      exact sg_plain rfl rfl (or_move f_19)
    refine steps_cons (fun own a wx hf hsl hE => ?_) ?_
    · obtain ⟨(f_20 : a.eval (.tmp 20) = .bool ((decide (p1 = q2)) || (!r40))), -⟩ := hf
      obtain ⟨s_5, -⟩ := hsl
      refine sg_f rfl rfl rfl f_20 (fun hg => ?_)
      exact or_load (l := [.int .i64 b3.1.1, .int .i64 b3.1.2, .int .i64 b3.2.1, .int .i64 b3.2.2]) ta39 (s_5.trans e38_5) (Blk.cellsFrom (BlkO.evo (by decide) hE b38_g36).2 0 rfl) rfl
    refine steps_cons (fun own a wx hf hsl hE => ?_) ?_
    · obtain ⟨(f_20 : a.eval (.tmp 20) = .bool ((decide (p1 = q2)) || (!r40))), -⟩ := hf
      obtain ⟨s_4, -⟩ := hsl
      refine sg_f rfl rfl rfl f_20 (fun hg => ?_)
      exact or_load (l := [.int .i64 q2.1, .int .i64 q2.2]) ta37 (s_4.trans e38_4) (Blk.cellsFrom (BlkO.evo (by decide) hE b38_g34).2 0 rfl) rfl
    refine steps_cons (fun own a wx hf hsl hE => ?_) ?_
    · obtain ⟨(f_20 : a.eval (.tmp 20) = .bool ((decide (p1 = q2)) || (!r40))), -⟩ := hf
      obtain ⟨s_4, -⟩ := hsl
      refine sg_f rfl rfl rfl f_20 (fun hg => ?_)
      exact or_load (l := [.int .i64 q2.1, .int .i64 q2.2]) ta37 (s_4.trans e38_4) (Blk.cellsFrom (BlkO.evo (by decide) hE b38_g34).2 0 rfl) rfl
    refine steps_cons (fun own a wx hf hsl hE => ?_) ?_
    · obtain ⟨(f_20 : a.eval (.tmp 20) = .bool ((decide (p1 = q2)) || (!r40))), c_22, c_23, -⟩ := hf
      refine sg_f rfl rfl rfl f_20 (fun hg => ?_)
      have f_22 : a.eval (.tmp 22) = .agg #[.int .i64 q2.1, .int .i64 q2.2] := c_22.1 hg
      have f_23 : a.eval (.tmp 23) = .agg #[.int .i64 q2.1, .int .i64 q2.2] := c_23.1 hg
      exact or_k [(22, .agg #[.int .i64 q2.1, .int .i64 q2.2]), (23, .agg #[.int .i64 q2.1, .int .i64 q2.2])] rfl rfl ⟨f_22, f_23, trivial⟩ (by kernel_rfl)
    refine steps_cons (fun own a wx hf hsl hE => ?_) ?_
    · obtain ⟨(f_20 : a.eval (.tmp 20) = .bool ((decide (p1 = q2)) || (!r40))), c_21, c_24, -⟩ := hf
      refine sg_f rfl rfl rfl f_20 (fun hg => ?_)
      have f_21 : a.eval (.tmp 21) = .agg #[.int .i64 b3.1.1, .int .i64 b3.1.2, .int .i64 b3.2.1, .int .i64 b3.2.2] := c_21.1 hg
      have f_24 : a.eval (.tmp 24) = .agg #[.int .i64 q2.1, .int .i64 q2.2, .int .i64 q2.1, .int .i64 q2.2] := c_24.1 hg
      exact or_call cf28 (args2 f_21 f_24) (ref06_Meet_w _ b3 (q2, q2)  r41 (gd_t hr41 hg)) post_val
    refine steps_cons (fun own a wx hf hsl hE => ?_) ?_
    · obtain ⟨(f_20 : a.eval (.tmp 20) = .bool ((decide (p1 = q2)) || (!r40))), c_25, -⟩ := hf
      refine sg_f rfl rfl rfl f_20 (fun hg => ?_)
      have f_25 : a.eval (.tmp 25) = .bool r41 := c_25.1 hg
      exact or_not f_25 rfl
    refine steps_cons (fun own a wx hf hsl hE => ?_) ?_
    · obtain ⟨(f_20 : a.eval (.tmp 20) = .bool ((decide (p1 = q2)) || (!r40))), c_26, -⟩ := hf
      exact sg_plain rfl rfl (or_or f_20 rfl (fun hx => c_26.1 hx) (osome hx42).symm)
    exact steps_nil
  intro own43 a43 w43 hd43 hz43 hk43 hf43 hE43
  have e43_3 : a43.eval (.tmp 3) = .pointer (some ⟨g32, 0, none⟩) := (hk43 3 rfl).trans e38_3
  have e43_4 : a43.eval (.tmp 4) = .pointer (some ⟨g34, 0, none⟩) := (hk43 4 rfl).trans e38_4
  have e43_5 : a43.eval (.tmp 5) = .pointer (some ⟨g36, 0, none⟩) := (hk43 5 rfl).trans e38_5
  obtain ⟨(f_27 : a43.eval (.tmp 27) = .bool x42), -⟩ := hf43 [18] rfl
  have e43_27 := f_27
  have hX43 := Evo.step hX38 (fun _ => Nat.le_refl 0) hE43 rfl
  have b43_g32 := BlkO.evo (by decide) hE43 b38_g32
  have b43_g34 := BlkO.evo (by decide) hE43 b38_g34
  have b43_g36 := BlkO.evo (by decide) hE43 b38_g36
  refine fl_cond e43_27 hs (fun c44 hs => ?_) (fun c44 hs => ?_)
  · refine rg_plain_seq (n := 94) (rs := []) (own0 := own43) (K := [])
        (bs := [0])
        (ds := [⟨[], [], [], Fct.val 6 (.bool false)⟩]) (by kernel_rfl) hz43 hd43 (fun _ h => nomatch h) ?_ ?_
    · refine steps_cons (fun own a wx hf hsl hE => ?_) ?_
      · exact sg_plain rfl rfl (or_assign rfl)
      exact steps_nil
    intro own45 a45 w45 hd45 hz45 hk45 hf45 hE45
    obtain ⟨(f_6 : a45.eval (.tmp 6) = .bool false), -⟩ := hf45 [0] rfl
    have e45_6 := f_6
    have hX45 := Evo.step hX43 (fun _ => Nat.le_refl 0) hE45 rfl
    refine fl_ret ?_
    refine hp39 _ _ _ rfl ?_
    obtain rfl := osome hs
    exact hret _ _ _ _ (.inl rfl) hd45 (results1_ rfl (RVal.tmp_ e45_6)) ⟨own45, rfl, hX45⟩
  refine fl_skip ?_
  refine hn39 _ _ ?_
  obtain ⟨x46, hx46, hs⟩ := obind hs
  obtain ⟨x47, hx47, hs⟩ := obind hs
  refine rg_plain_seq (n := 94) (rs := []) (own0 := own43) (K := [])
      (bs := [0, 1, 0, 4, 12, 31, 63, 127, 255, 127, 639, 1663, 4095, 8191, 16383, 32767, 65535, 32767, 163839, 425983, 1048575, 2097151, 4194303, 8388607, 4194303, 20971519, 54525951, 134217727, 268435455, 536870911, 1073741823])
      (ds := [⟨[], [3], [], Fct.val 28 (.pointer (some ⟨g32, 0, none⟩))⟩,
      ⟨[0], [], [], Fct.val 29 (.int .i64 p1.1)⟩,
      ⟨[], [5], [], Fct.val 30 (.pointer (some ⟨g36, 0, none⟩))⟩,
      ⟨[2], [], [], Fct.val 31 (.pointer (some ⟨g36, 0, none⟩))⟩,
      ⟨[3], [], [], Fct.val 32 (.int .i64 b3.1.1)⟩,
      ⟨[1, 4], [], [], Fct.val 33 (.bool (decide (p1.1 = b3.1.1)))⟩,
      ⟨[5], [], [], Fct.val 34 (.bool (decide (p1.1 = b3.1.1)))⟩,
      ⟨[6], [4], [], Fct.cond (decide (p1.1 = b3.1.1)) (some 35) (Fct.val 35 (.pointer (some ⟨g34, 0, none⟩)))⟩,
      ⟨[6, 7], [], [], Fct.cond (decide (p1.1 = b3.1.1)) (some 36) (Fct.val 36 (.int .i64 q2.1))⟩,
      ⟨[6], [5], [], Fct.cond (decide (p1.1 = b3.1.1)) (some 37) (Fct.val 37 (.pointer (some ⟨g36, 0, none⟩)))⟩,
      ⟨[6, 9], [], [], Fct.cond (decide (p1.1 = b3.1.1)) (some 38) (Fct.val 38 (.pointer (some ⟨g36, 0, none⟩)))⟩,
      ⟨[6, 10], [], [], Fct.cond (decide (p1.1 = b3.1.1)) (some 39) (Fct.val 39 (.int .i64 b3.1.1))⟩,
      ⟨[6, 8, 11], [], [], Fct.cond (decide (p1.1 = b3.1.1)) (some 40) (Fct.val 40 (.bool (decide (q2.1 = b3.1.1))))⟩,
      ⟨[6, 12], [], [], Fct.val 41 (.bool x46)⟩,
      ⟨[13], [], [], Fct.val 42 (.bool x46)⟩,
      ⟨[14], [3], [], Fct.cond (!x46) (some 43) (Fct.val 43 (.pointer (some ⟨g32, 0, none⟩)))⟩,
      ⟨[14, 15], [], [], Fct.cond (!x46) (some 44) (Fct.val 44 (.int .i64 p1.1))⟩,
      ⟨[14], [5], [], Fct.cond (!x46) (some 45) (Fct.val 45 (.pointer (some ⟨g36, 2, none⟩)))⟩,
      ⟨[14, 17], [], [], Fct.cond (!x46) (some 46) (Fct.val 46 (.pointer (some ⟨g36, 2, none⟩)))⟩,
      ⟨[14, 18], [], [], Fct.cond (!x46) (some 47) (Fct.val 47 (.int .i64 b3.2.1))⟩,
      ⟨[14, 16, 19], [], [], Fct.cond (!x46) (some 48) (Fct.val 48 (.bool (decide (p1.1 = b3.2.1))))⟩,
      ⟨[14, 20], [], [], Fct.cond (!x46) (some 49) (Fct.val 49 (.bool (decide (p1.1 = b3.2.1))))⟩,
      ⟨[21], [4], [], Fct.cond ((!x46) && (decide (p1.1 = b3.2.1))) (some 50) (Fct.val 50 (.pointer (some ⟨g34, 0, none⟩)))⟩,
      ⟨[21, 22], [], [], Fct.cond ((!x46) && (decide (p1.1 = b3.2.1))) (some 51) (Fct.val 51 (.int .i64 q2.1))⟩,
      ⟨[21], [5], [], Fct.cond ((!x46) && (decide (p1.1 = b3.2.1))) (some 52) (Fct.val 52 (.pointer (some ⟨g36, 2, none⟩)))⟩,
      ⟨[21, 24], [], [], Fct.cond ((!x46) && (decide (p1.1 = b3.2.1))) (some 53) (Fct.val 53 (.pointer (some ⟨g36, 2, none⟩)))⟩,
      ⟨[21, 25], [], [], Fct.cond ((!x46) && (decide (p1.1 = b3.2.1))) (some 54) (Fct.val 54 (.int .i64 b3.2.1))⟩,
      ⟨[21, 23, 26], [], [], Fct.cond ((!x46) && (decide (p1.1 = b3.2.1))) (some 55) (Fct.val 55 (.bool (decide (q2.1 = b3.2.1))))⟩,
      ⟨[14, 21, 27], [], [], Fct.cond (!x46) (some 56) (Fct.val 56 (.bool x47))⟩,
      ⟨[14, 28], [], [], Fct.val 57 (.bool (x46 || x47))⟩,
      ⟨[29], [], [], Fct.val 7 (.bool (x46 || x47))⟩]) (by kernel_rfl) hz43 hd43 (fun _ h => nomatch h) ?_ ?_
  · refine steps_cons (fun own a wx hf hsl hE => ?_) ?_
    · obtain ⟨s_3, -⟩ := hsl
      exact sg_plain rfl rfl (or_field fo37_0 (s_3.trans e43_3) (by rfl))
    refine steps_cons (fun own a wx hf hsl hE => ?_) ?_
    · obtain ⟨(f_28 : a.eval (.tmp 28) = .pointer (some ⟨g32, 0, none⟩)), -⟩ := hf
      exact sg_plain rfl rfl (or_load1 to3 f_28 (Blk.at_ (BlkO.evo (by decide) hE b43_g32).2 0 rfl))
    refine steps_cons (fun own a wx hf hsl hE => ?_) ?_
    · obtain ⟨s_5, -⟩ := hsl
      exact sg_plain rfl rfl (or_field fo39_0 (s_5.trans e43_5) (by rfl))
    refine steps_cons (fun own a wx hf hsl hE => ?_) ?_
    · obtain ⟨(f_30 : a.eval (.tmp 30) = .pointer (some ⟨g36, 0, none⟩)), -⟩ := hf
      exact sg_plain rfl rfl (or_field fo37_0 f_30 (by rfl))
    refine steps_cons (fun own a wx hf hsl hE => ?_) ?_
    · obtain ⟨(f_31 : a.eval (.tmp 31) = .pointer (some ⟨g36, 0, none⟩)), -⟩ := hf
      exact sg_plain rfl rfl (or_load1 to3 f_31 (Blk.at_ (BlkO.evo (by decide) hE b43_g36).2 0 rfl))
    refine steps_cons (fun own a wx hf hsl hE => ?_) ?_
    · obtain ⟨(f_29 : a.eval (.tmp 29) = .int .i64 p1.1), (f_32 : a.eval (.tmp 32) = .int .i64 b3.1.1), -⟩ := hf
      exact sg_plain rfl rfl (or_eql f_29 f_32 rfl)
    refine steps_cons (fun own a wx hf hsl hE => ?_) ?_
    · obtain ⟨(f_33 : a.eval (.tmp 33) = .bool (decide (p1.1 = b3.1.1))), -⟩ := hf
      exact sg_plain rfl rfl (or_move f_33)
    refine steps_cons (fun own a wx hf hsl hE => ?_) ?_
    · obtain ⟨(f_34 : a.eval (.tmp 34) = .bool (decide (p1.1 = b3.1.1))), -⟩ := hf
      obtain ⟨s_4, -⟩ := hsl
      refine sg_t rfl rfl rfl f_34 (fun hg => ?_)
      exact or_field fo37_0 (s_4.trans e43_4) (by rfl)
    refine steps_cons (fun own a wx hf hsl hE => ?_) ?_
    · obtain ⟨(f_34 : a.eval (.tmp 34) = .bool (decide (p1.1 = b3.1.1))), c_35, -⟩ := hf
      refine sg_t rfl rfl rfl f_34 (fun hg => ?_)
      have f_35 : a.eval (.tmp 35) = .pointer (some ⟨g34, 0, none⟩) := c_35.1 hg
      exact or_load1 to3 f_35 (Blk.at_ (BlkO.evo (by decide) hE b43_g34).2 0 rfl)
    refine steps_cons (fun own a wx hf hsl hE => ?_) ?_
    · obtain ⟨(f_34 : a.eval (.tmp 34) = .bool (decide (p1.1 = b3.1.1))), -⟩ := hf
      obtain ⟨s_5, -⟩ := hsl
      refine sg_t rfl rfl rfl f_34 (fun hg => ?_)
      exact or_field fo39_0 (s_5.trans e43_5) (by rfl)
    refine steps_cons (fun own a wx hf hsl hE => ?_) ?_
    · obtain ⟨(f_34 : a.eval (.tmp 34) = .bool (decide (p1.1 = b3.1.1))), c_37, -⟩ := hf
      refine sg_t rfl rfl rfl f_34 (fun hg => ?_)
      have f_37 : a.eval (.tmp 37) = .pointer (some ⟨g36, 0, none⟩) := c_37.1 hg
      exact or_field fo37_0 f_37 (by rfl)
    refine steps_cons (fun own a wx hf hsl hE => ?_) ?_
    · obtain ⟨(f_34 : a.eval (.tmp 34) = .bool (decide (p1.1 = b3.1.1))), c_38, -⟩ := hf
      refine sg_t rfl rfl rfl f_34 (fun hg => ?_)
      have f_38 : a.eval (.tmp 38) = .pointer (some ⟨g36, 0, none⟩) := c_38.1 hg
      exact or_load1 to3 f_38 (Blk.at_ (BlkO.evo (by decide) hE b43_g36).2 0 rfl)
    refine steps_cons (fun own a wx hf hsl hE => ?_) ?_
    · obtain ⟨(f_34 : a.eval (.tmp 34) = .bool (decide (p1.1 = b3.1.1))), c_36, c_39, -⟩ := hf
      refine sg_t rfl rfl rfl f_34 (fun hg => ?_)
      have f_36 : a.eval (.tmp 36) = .int .i64 q2.1 := c_36.1 hg
      have f_39 : a.eval (.tmp 39) = .int .i64 b3.1.1 := c_39.1 hg
      exact or_eql f_36 f_39 rfl
    refine steps_cons (fun own a wx hf hsl hE => ?_) ?_
    · obtain ⟨(f_34 : a.eval (.tmp 34) = .bool (decide (p1.1 = b3.1.1))), c_40, -⟩ := hf
      exact sg_plain rfl rfl (or_and f_34 (fun hx => c_40.1 hx) rfl (osome hx46).symm)
    refine steps_cons (fun own a wx hf hsl hE => ?_) ?_
    · obtain ⟨(f_41 : a.eval (.tmp 41) = .bool x46), -⟩ := hf
      exact sg_plain rfl rfl (or_move f_41)
    refine steps_cons (fun own a wx hf hsl hE => ?_) ?_
    · obtain ⟨(f_42 : a.eval (.tmp 42) = .bool x46), -⟩ := hf
      obtain ⟨s_3, -⟩ := hsl
      refine sg_f rfl rfl rfl f_42 (fun hg => ?_)
      exact or_field fo37_0 (s_3.trans e43_3) (by rfl)
    refine steps_cons (fun own a wx hf hsl hE => ?_) ?_
    · obtain ⟨(f_42 : a.eval (.tmp 42) = .bool x46), c_43, -⟩ := hf
      refine sg_f rfl rfl rfl f_42 (fun hg => ?_)
      have f_43 : a.eval (.tmp 43) = .pointer (some ⟨g32, 0, none⟩) := c_43.1 hg
      exact or_load1 to3 f_43 (Blk.at_ (BlkO.evo (by decide) hE b43_g32).2 0 rfl)
    refine steps_cons (fun own a wx hf hsl hE => ?_) ?_
    · obtain ⟨(f_42 : a.eval (.tmp 42) = .bool x46), -⟩ := hf
      obtain ⟨s_5, -⟩ := hsl
      refine sg_f rfl rfl rfl f_42 (fun hg => ?_)
      exact or_field fo39_1 (s_5.trans e43_5) (by rfl)
    refine steps_cons (fun own a wx hf hsl hE => ?_) ?_
    · obtain ⟨(f_42 : a.eval (.tmp 42) = .bool x46), c_45, -⟩ := hf
      refine sg_f rfl rfl rfl f_42 (fun hg => ?_)
      have f_45 : a.eval (.tmp 45) = .pointer (some ⟨g36, 2, none⟩) := c_45.1 hg
      exact or_field fo37_0 f_45 (by rfl)
    refine steps_cons (fun own a wx hf hsl hE => ?_) ?_
    · obtain ⟨(f_42 : a.eval (.tmp 42) = .bool x46), c_46, -⟩ := hf
      refine sg_f rfl rfl rfl f_42 (fun hg => ?_)
      have f_46 : a.eval (.tmp 46) = .pointer (some ⟨g36, 2, none⟩) := c_46.1 hg
      exact or_load1 to3 f_46 (Blk.at_ (BlkO.evo (by decide) hE b43_g36).2 2 rfl)
    refine steps_cons (fun own a wx hf hsl hE => ?_) ?_
    · obtain ⟨(f_42 : a.eval (.tmp 42) = .bool x46), c_44, c_47, -⟩ := hf
      refine sg_f rfl rfl rfl f_42 (fun hg => ?_)
      have f_44 : a.eval (.tmp 44) = .int .i64 p1.1 := c_44.1 hg
      have f_47 : a.eval (.tmp 47) = .int .i64 b3.2.1 := c_47.1 hg
      exact or_eql f_44 f_47 rfl
    refine steps_cons (fun own a wx hf hsl hE => ?_) ?_
    · obtain ⟨(f_42 : a.eval (.tmp 42) = .bool x46), c_48, -⟩ := hf
      refine sg_f rfl rfl rfl f_42 (fun hg => ?_)
      have f_48 : a.eval (.tmp 48) = .bool (decide (p1.1 = b3.2.1)) := c_48.1 hg
      exact or_move f_48
    refine steps_cons (fun own a wx hf hsl hE => ?_) ?_
    · obtain ⟨c_49, -⟩ := hf
      obtain ⟨s_4, -⟩ := hsl
      refine sg_tc rfl rfl rfl c_49 (fun hg => ?_)
      have f_49 : a.eval (.tmp 49) = .bool (decide (p1.1 = b3.2.1)) := c_49.1 (gL hg)
      exact or_field fo37_0 (s_4.trans e43_4) (by rfl)
    refine steps_cons (fun own a wx hf hsl hE => ?_) ?_
    · obtain ⟨c_49, c_50, -⟩ := hf
      refine sg_tc rfl rfl rfl c_49 (fun hg => ?_)
      have f_49 : a.eval (.tmp 49) = .bool (decide (p1.1 = b3.2.1)) := c_49.1 (gL hg)
      have f_50 : a.eval (.tmp 50) = .pointer (some ⟨g34, 0, none⟩) := c_50.1 hg
      exact or_load1 to3 f_50 (Blk.at_ (BlkO.evo (by decide) hE b43_g34).2 0 rfl)
    refine steps_cons (fun own a wx hf hsl hE => ?_) ?_
    · obtain ⟨c_49, -⟩ := hf
      obtain ⟨s_5, -⟩ := hsl
      refine sg_tc rfl rfl rfl c_49 (fun hg => ?_)
      have f_49 : a.eval (.tmp 49) = .bool (decide (p1.1 = b3.2.1)) := c_49.1 (gL hg)
      exact or_field fo39_1 (s_5.trans e43_5) (by rfl)
    refine steps_cons (fun own a wx hf hsl hE => ?_) ?_
    · obtain ⟨c_49, c_52, -⟩ := hf
      refine sg_tc rfl rfl rfl c_49 (fun hg => ?_)
      have f_49 : a.eval (.tmp 49) = .bool (decide (p1.1 = b3.2.1)) := c_49.1 (gL hg)
      have f_52 : a.eval (.tmp 52) = .pointer (some ⟨g36, 2, none⟩) := c_52.1 hg
      exact or_field fo37_0 f_52 (by rfl)
    refine steps_cons (fun own a wx hf hsl hE => ?_) ?_
    · obtain ⟨c_49, c_53, -⟩ := hf
      refine sg_tc rfl rfl rfl c_49 (fun hg => ?_)
      have f_49 : a.eval (.tmp 49) = .bool (decide (p1.1 = b3.2.1)) := c_49.1 (gL hg)
      have f_53 : a.eval (.tmp 53) = .pointer (some ⟨g36, 2, none⟩) := c_53.1 hg
      exact or_load1 to3 f_53 (Blk.at_ (BlkO.evo (by decide) hE b43_g36).2 2 rfl)
    refine steps_cons (fun own a wx hf hsl hE => ?_) ?_
    · obtain ⟨c_49, c_51, c_54, -⟩ := hf
      refine sg_tc rfl rfl rfl c_49 (fun hg => ?_)
      have f_49 : a.eval (.tmp 49) = .bool (decide (p1.1 = b3.2.1)) := c_49.1 (gL hg)
      have f_51 : a.eval (.tmp 51) = .int .i64 q2.1 := c_51.1 hg
      have f_54 : a.eval (.tmp 54) = .int .i64 b3.2.1 := c_54.1 hg
      exact or_eql f_51 f_54 rfl
    refine steps_cons (fun own a wx hf hsl hE => ?_) ?_
    · obtain ⟨(f_42 : a.eval (.tmp 42) = .bool x46), c_49, c_55, -⟩ := hf
      refine sg_f rfl rfl rfl f_42 (fun hg => ?_)
      have f_49 : a.eval (.tmp 49) = .bool (decide (p1.1 = b3.2.1)) := c_49.1 hg
      exact or_and f_49 (fun hx => c_55.1 (gI hg hx)) rfl (osome hx47).symm
    refine steps_cons (fun own a wx hf hsl hE => ?_) ?_
    · obtain ⟨(f_42 : a.eval (.tmp 42) = .bool x46), c_56, -⟩ := hf
      exact sg_plain rfl rfl (or_or f_42 rfl (fun hx => c_56.1 hx) rfl)
    refine steps_cons (fun own a wx hf hsl hE => ?_) ?_
    · obtain ⟨(f_57 : a.eval (.tmp 57) = .bool (x46 || x47)), -⟩ := hf
      exact sg_plain rfl rfl (or_assign f_57)
    exact steps_nil
  intro own48 a48 w48 hd48 hz48 hk48 hf48 hE48
  have e48_3 : a48.eval (.tmp 3) = .pointer (some ⟨g32, 0, none⟩) := (hk48 3 rfl).trans e43_3
  have e48_4 : a48.eval (.tmp 4) = .pointer (some ⟨g34, 0, none⟩) := (hk48 4 rfl).trans e43_4
  have e48_5 : a48.eval (.tmp 5) = .pointer (some ⟨g36, 0, none⟩) := (hk48 5 rfl).trans e43_5
  obtain ⟨(f_7 : a48.eval (.tmp 7) = .bool (x46 || x47)), -⟩ := hf48 [30] rfl
  have e48_7 := f_7
  have hX48 := Evo.step hX43 (fun _ => Nat.le_refl 0) hE48 rfl
  have b48_g32 := BlkO.evo (by decide) hE48 b43_g32
  have b48_g34 := BlkO.evo (by decide) hE48 b43_g34
  have b48_g36 := BlkO.evo (by decide) hE48 b43_g36
  obtain ⟨x49, hx49, hs⟩ := obind hs
  obtain ⟨x50, hx50, hs⟩ := obind hs
  refine rg_plain_seq (n := 94) (rs := []) (own0 := own48) (K := [])
      (bs := [0, 1, 0, 4, 12, 31, 63, 127, 255, 127, 639, 1663, 4095, 8191, 16383, 32767, 65535, 32767, 163839, 425983, 1048575, 2097151, 4194303, 8388607, 4194303, 20971519, 54525951, 134217727, 268435455, 536870911, 1073741823])
      (ds := [⟨[], [3], [], Fct.val 58 (.pointer (some ⟨g32, 1, none⟩))⟩,
      ⟨[0], [], [], Fct.val 59 (.int .i64 p1.2)⟩,
      ⟨[], [5], [], Fct.val 60 (.pointer (some ⟨g36, 0, none⟩))⟩,
      ⟨[2], [], [], Fct.val 61 (.pointer (some ⟨g36, 1, none⟩))⟩,
      ⟨[3], [], [], Fct.val 62 (.int .i64 b3.1.2)⟩,
      ⟨[1, 4], [], [], Fct.val 63 (.bool (decide (p1.2 = b3.1.2)))⟩,
      ⟨[5], [], [], Fct.val 64 (.bool (decide (p1.2 = b3.1.2)))⟩,
      ⟨[6], [4], [], Fct.cond (decide (p1.2 = b3.1.2)) (some 65) (Fct.val 65 (.pointer (some ⟨g34, 1, none⟩)))⟩,
      ⟨[6, 7], [], [], Fct.cond (decide (p1.2 = b3.1.2)) (some 66) (Fct.val 66 (.int .i64 q2.2))⟩,
      ⟨[6], [5], [], Fct.cond (decide (p1.2 = b3.1.2)) (some 67) (Fct.val 67 (.pointer (some ⟨g36, 0, none⟩)))⟩,
      ⟨[6, 9], [], [], Fct.cond (decide (p1.2 = b3.1.2)) (some 68) (Fct.val 68 (.pointer (some ⟨g36, 1, none⟩)))⟩,
      ⟨[6, 10], [], [], Fct.cond (decide (p1.2 = b3.1.2)) (some 69) (Fct.val 69 (.int .i64 b3.1.2))⟩,
      ⟨[6, 8, 11], [], [], Fct.cond (decide (p1.2 = b3.1.2)) (some 70) (Fct.val 70 (.bool (decide (q2.2 = b3.1.2))))⟩,
      ⟨[6, 12], [], [], Fct.val 71 (.bool x49)⟩,
      ⟨[13], [], [], Fct.val 72 (.bool x49)⟩,
      ⟨[14], [3], [], Fct.cond (!x49) (some 73) (Fct.val 73 (.pointer (some ⟨g32, 1, none⟩)))⟩,
      ⟨[14, 15], [], [], Fct.cond (!x49) (some 74) (Fct.val 74 (.int .i64 p1.2))⟩,
      ⟨[14], [5], [], Fct.cond (!x49) (some 75) (Fct.val 75 (.pointer (some ⟨g36, 2, none⟩)))⟩,
      ⟨[14, 17], [], [], Fct.cond (!x49) (some 76) (Fct.val 76 (.pointer (some ⟨g36, 3, none⟩)))⟩,
      ⟨[14, 18], [], [], Fct.cond (!x49) (some 77) (Fct.val 77 (.int .i64 b3.2.2))⟩,
      ⟨[14, 16, 19], [], [], Fct.cond (!x49) (some 78) (Fct.val 78 (.bool (decide (p1.2 = b3.2.2))))⟩,
      ⟨[14, 20], [], [], Fct.cond (!x49) (some 79) (Fct.val 79 (.bool (decide (p1.2 = b3.2.2))))⟩,
      ⟨[21], [4], [], Fct.cond ((!x49) && (decide (p1.2 = b3.2.2))) (some 80) (Fct.val 80 (.pointer (some ⟨g34, 1, none⟩)))⟩,
      ⟨[21, 22], [], [], Fct.cond ((!x49) && (decide (p1.2 = b3.2.2))) (some 81) (Fct.val 81 (.int .i64 q2.2))⟩,
      ⟨[21], [5], [], Fct.cond ((!x49) && (decide (p1.2 = b3.2.2))) (some 82) (Fct.val 82 (.pointer (some ⟨g36, 2, none⟩)))⟩,
      ⟨[21, 24], [], [], Fct.cond ((!x49) && (decide (p1.2 = b3.2.2))) (some 83) (Fct.val 83 (.pointer (some ⟨g36, 3, none⟩)))⟩,
      ⟨[21, 25], [], [], Fct.cond ((!x49) && (decide (p1.2 = b3.2.2))) (some 84) (Fct.val 84 (.int .i64 b3.2.2))⟩,
      ⟨[21, 23, 26], [], [], Fct.cond ((!x49) && (decide (p1.2 = b3.2.2))) (some 85) (Fct.val 85 (.bool (decide (q2.2 = b3.2.2))))⟩,
      ⟨[14, 21, 27], [], [], Fct.cond (!x49) (some 86) (Fct.val 86 (.bool x50))⟩,
      ⟨[14, 28], [], [], Fct.val 87 (.bool (x49 || x50))⟩,
      ⟨[29], [], [], Fct.val 8 (.bool (x49 || x50))⟩]) (by kernel_rfl) hz48 hd48 (fun _ h => nomatch h) ?_ ?_
  · refine steps_cons (fun own a wx hf hsl hE => ?_) ?_
    · obtain ⟨s_3, -⟩ := hsl
      exact sg_plain rfl rfl (or_field fo37_1 (s_3.trans e48_3) (by rfl))
    refine steps_cons (fun own a wx hf hsl hE => ?_) ?_
    · obtain ⟨(f_58 : a.eval (.tmp 58) = .pointer (some ⟨g32, 1, none⟩)), -⟩ := hf
      exact sg_plain rfl rfl (or_load1 to3 f_58 (Blk.at_ (BlkO.evo (by decide) hE b48_g32).2 1 rfl))
    refine steps_cons (fun own a wx hf hsl hE => ?_) ?_
    · obtain ⟨s_5, -⟩ := hsl
      exact sg_plain rfl rfl (or_field fo39_0 (s_5.trans e48_5) (by rfl))
    refine steps_cons (fun own a wx hf hsl hE => ?_) ?_
    · obtain ⟨(f_60 : a.eval (.tmp 60) = .pointer (some ⟨g36, 0, none⟩)), -⟩ := hf
      exact sg_plain rfl rfl (or_field fo37_1 f_60 (by rfl))
    refine steps_cons (fun own a wx hf hsl hE => ?_) ?_
    · obtain ⟨(f_61 : a.eval (.tmp 61) = .pointer (some ⟨g36, 1, none⟩)), -⟩ := hf
      exact sg_plain rfl rfl (or_load1 to3 f_61 (Blk.at_ (BlkO.evo (by decide) hE b48_g36).2 1 rfl))
    refine steps_cons (fun own a wx hf hsl hE => ?_) ?_
    · obtain ⟨(f_59 : a.eval (.tmp 59) = .int .i64 p1.2), (f_62 : a.eval (.tmp 62) = .int .i64 b3.1.2), -⟩ := hf
      exact sg_plain rfl rfl (or_eql f_59 f_62 rfl)
    refine steps_cons (fun own a wx hf hsl hE => ?_) ?_
    · obtain ⟨(f_63 : a.eval (.tmp 63) = .bool (decide (p1.2 = b3.1.2))), -⟩ := hf
      exact sg_plain rfl rfl (or_move f_63)
    refine steps_cons (fun own a wx hf hsl hE => ?_) ?_
    · obtain ⟨(f_64 : a.eval (.tmp 64) = .bool (decide (p1.2 = b3.1.2))), -⟩ := hf
      obtain ⟨s_4, -⟩ := hsl
      refine sg_t rfl rfl rfl f_64 (fun hg => ?_)
      exact or_field fo37_1 (s_4.trans e48_4) (by rfl)
    refine steps_cons (fun own a wx hf hsl hE => ?_) ?_
    · obtain ⟨(f_64 : a.eval (.tmp 64) = .bool (decide (p1.2 = b3.1.2))), c_65, -⟩ := hf
      refine sg_t rfl rfl rfl f_64 (fun hg => ?_)
      have f_65 : a.eval (.tmp 65) = .pointer (some ⟨g34, 1, none⟩) := c_65.1 hg
      exact or_load1 to3 f_65 (Blk.at_ (BlkO.evo (by decide) hE b48_g34).2 1 rfl)
    refine steps_cons (fun own a wx hf hsl hE => ?_) ?_
    · obtain ⟨(f_64 : a.eval (.tmp 64) = .bool (decide (p1.2 = b3.1.2))), -⟩ := hf
      obtain ⟨s_5, -⟩ := hsl
      refine sg_t rfl rfl rfl f_64 (fun hg => ?_)
      exact or_field fo39_0 (s_5.trans e48_5) (by rfl)
    refine steps_cons (fun own a wx hf hsl hE => ?_) ?_
    · obtain ⟨(f_64 : a.eval (.tmp 64) = .bool (decide (p1.2 = b3.1.2))), c_67, -⟩ := hf
      refine sg_t rfl rfl rfl f_64 (fun hg => ?_)
      have f_67 : a.eval (.tmp 67) = .pointer (some ⟨g36, 0, none⟩) := c_67.1 hg
      exact or_field fo37_1 f_67 (by rfl)
    refine steps_cons (fun own a wx hf hsl hE => ?_) ?_
    · obtain ⟨(f_64 : a.eval (.tmp 64) = .bool (decide (p1.2 = b3.1.2))), c_68, -⟩ := hf
      refine sg_t rfl rfl rfl f_64 (fun hg => ?_)
      have f_68 : a.eval (.tmp 68) = .pointer (some ⟨g36, 1, none⟩) := c_68.1 hg
      exact or_load1 to3 f_68 (Blk.at_ (BlkO.evo (by decide) hE b48_g36).2 1 rfl)
    refine steps_cons (fun own a wx hf hsl hE => ?_) ?_
    · obtain ⟨(f_64 : a.eval (.tmp 64) = .bool (decide (p1.2 = b3.1.2))), c_66, c_69, -⟩ := hf
      refine sg_t rfl rfl rfl f_64 (fun hg => ?_)
      have f_66 : a.eval (.tmp 66) = .int .i64 q2.2 := c_66.1 hg
      have f_69 : a.eval (.tmp 69) = .int .i64 b3.1.2 := c_69.1 hg
      exact or_eql f_66 f_69 rfl
    refine steps_cons (fun own a wx hf hsl hE => ?_) ?_
    · obtain ⟨(f_64 : a.eval (.tmp 64) = .bool (decide (p1.2 = b3.1.2))), c_70, -⟩ := hf
      exact sg_plain rfl rfl (or_and f_64 (fun hx => c_70.1 hx) rfl (osome hx49).symm)
    refine steps_cons (fun own a wx hf hsl hE => ?_) ?_
    · obtain ⟨(f_71 : a.eval (.tmp 71) = .bool x49), -⟩ := hf
      exact sg_plain rfl rfl (or_move f_71)
    refine steps_cons (fun own a wx hf hsl hE => ?_) ?_
    · obtain ⟨(f_72 : a.eval (.tmp 72) = .bool x49), -⟩ := hf
      obtain ⟨s_3, -⟩ := hsl
      refine sg_f rfl rfl rfl f_72 (fun hg => ?_)
      exact or_field fo37_1 (s_3.trans e48_3) (by rfl)
    refine steps_cons (fun own a wx hf hsl hE => ?_) ?_
    · obtain ⟨(f_72 : a.eval (.tmp 72) = .bool x49), c_73, -⟩ := hf
      refine sg_f rfl rfl rfl f_72 (fun hg => ?_)
      have f_73 : a.eval (.tmp 73) = .pointer (some ⟨g32, 1, none⟩) := c_73.1 hg
      exact or_load1 to3 f_73 (Blk.at_ (BlkO.evo (by decide) hE b48_g32).2 1 rfl)
    refine steps_cons (fun own a wx hf hsl hE => ?_) ?_
    · obtain ⟨(f_72 : a.eval (.tmp 72) = .bool x49), -⟩ := hf
      obtain ⟨s_5, -⟩ := hsl
      refine sg_f rfl rfl rfl f_72 (fun hg => ?_)
      exact or_field fo39_1 (s_5.trans e48_5) (by rfl)
    refine steps_cons (fun own a wx hf hsl hE => ?_) ?_
    · obtain ⟨(f_72 : a.eval (.tmp 72) = .bool x49), c_75, -⟩ := hf
      refine sg_f rfl rfl rfl f_72 (fun hg => ?_)
      have f_75 : a.eval (.tmp 75) = .pointer (some ⟨g36, 2, none⟩) := c_75.1 hg
      exact or_field fo37_1 f_75 (by rfl)
    refine steps_cons (fun own a wx hf hsl hE => ?_) ?_
    · obtain ⟨(f_72 : a.eval (.tmp 72) = .bool x49), c_76, -⟩ := hf
      refine sg_f rfl rfl rfl f_72 (fun hg => ?_)
      have f_76 : a.eval (.tmp 76) = .pointer (some ⟨g36, 3, none⟩) := c_76.1 hg
      exact or_load1 to3 f_76 (Blk.at_ (BlkO.evo (by decide) hE b48_g36).2 3 rfl)
    refine steps_cons (fun own a wx hf hsl hE => ?_) ?_
    · obtain ⟨(f_72 : a.eval (.tmp 72) = .bool x49), c_74, c_77, -⟩ := hf
      refine sg_f rfl rfl rfl f_72 (fun hg => ?_)
      have f_74 : a.eval (.tmp 74) = .int .i64 p1.2 := c_74.1 hg
      have f_77 : a.eval (.tmp 77) = .int .i64 b3.2.2 := c_77.1 hg
      exact or_eql f_74 f_77 rfl
    refine steps_cons (fun own a wx hf hsl hE => ?_) ?_
    · obtain ⟨(f_72 : a.eval (.tmp 72) = .bool x49), c_78, -⟩ := hf
      refine sg_f rfl rfl rfl f_72 (fun hg => ?_)
      have f_78 : a.eval (.tmp 78) = .bool (decide (p1.2 = b3.2.2)) := c_78.1 hg
      exact or_move f_78
    refine steps_cons (fun own a wx hf hsl hE => ?_) ?_
    · obtain ⟨c_79, -⟩ := hf
      obtain ⟨s_4, -⟩ := hsl
      refine sg_tc rfl rfl rfl c_79 (fun hg => ?_)
      have f_79 : a.eval (.tmp 79) = .bool (decide (p1.2 = b3.2.2)) := c_79.1 (gL hg)
      exact or_field fo37_1 (s_4.trans e48_4) (by rfl)
    refine steps_cons (fun own a wx hf hsl hE => ?_) ?_
    · obtain ⟨c_79, c_80, -⟩ := hf
      refine sg_tc rfl rfl rfl c_79 (fun hg => ?_)
      have f_79 : a.eval (.tmp 79) = .bool (decide (p1.2 = b3.2.2)) := c_79.1 (gL hg)
      have f_80 : a.eval (.tmp 80) = .pointer (some ⟨g34, 1, none⟩) := c_80.1 hg
      exact or_load1 to3 f_80 (Blk.at_ (BlkO.evo (by decide) hE b48_g34).2 1 rfl)
    refine steps_cons (fun own a wx hf hsl hE => ?_) ?_
    · obtain ⟨c_79, -⟩ := hf
      obtain ⟨s_5, -⟩ := hsl
      refine sg_tc rfl rfl rfl c_79 (fun hg => ?_)
      have f_79 : a.eval (.tmp 79) = .bool (decide (p1.2 = b3.2.2)) := c_79.1 (gL hg)
      exact or_field fo39_1 (s_5.trans e48_5) (by rfl)
    refine steps_cons (fun own a wx hf hsl hE => ?_) ?_
    · obtain ⟨c_79, c_82, -⟩ := hf
      refine sg_tc rfl rfl rfl c_79 (fun hg => ?_)
      have f_79 : a.eval (.tmp 79) = .bool (decide (p1.2 = b3.2.2)) := c_79.1 (gL hg)
      have f_82 : a.eval (.tmp 82) = .pointer (some ⟨g36, 2, none⟩) := c_82.1 hg
      exact or_field fo37_1 f_82 (by rfl)
    refine steps_cons (fun own a wx hf hsl hE => ?_) ?_
    · obtain ⟨c_79, c_83, -⟩ := hf
      refine sg_tc rfl rfl rfl c_79 (fun hg => ?_)
      have f_79 : a.eval (.tmp 79) = .bool (decide (p1.2 = b3.2.2)) := c_79.1 (gL hg)
      have f_83 : a.eval (.tmp 83) = .pointer (some ⟨g36, 3, none⟩) := c_83.1 hg
      exact or_load1 to3 f_83 (Blk.at_ (BlkO.evo (by decide) hE b48_g36).2 3 rfl)
    refine steps_cons (fun own a wx hf hsl hE => ?_) ?_
    · obtain ⟨c_79, c_81, c_84, -⟩ := hf
      refine sg_tc rfl rfl rfl c_79 (fun hg => ?_)
      have f_79 : a.eval (.tmp 79) = .bool (decide (p1.2 = b3.2.2)) := c_79.1 (gL hg)
      have f_81 : a.eval (.tmp 81) = .int .i64 q2.2 := c_81.1 hg
      have f_84 : a.eval (.tmp 84) = .int .i64 b3.2.2 := c_84.1 hg
      exact or_eql f_81 f_84 rfl
    refine steps_cons (fun own a wx hf hsl hE => ?_) ?_
    · obtain ⟨(f_72 : a.eval (.tmp 72) = .bool x49), c_79, c_85, -⟩ := hf
      refine sg_f rfl rfl rfl f_72 (fun hg => ?_)
      have f_79 : a.eval (.tmp 79) = .bool (decide (p1.2 = b3.2.2)) := c_79.1 hg
      exact or_and f_79 (fun hx => c_85.1 (gI hg hx)) rfl (osome hx50).symm
    refine steps_cons (fun own a wx hf hsl hE => ?_) ?_
    · obtain ⟨(f_72 : a.eval (.tmp 72) = .bool x49), c_86, -⟩ := hf
      exact sg_plain rfl rfl (or_or f_72 rfl (fun hx => c_86.1 hx) rfl)
    refine steps_cons (fun own a wx hf hsl hE => ?_) ?_
    · obtain ⟨(f_87 : a.eval (.tmp 87) = .bool (x49 || x50)), -⟩ := hf
      exact sg_plain rfl rfl (or_assign f_87)
    exact steps_nil
  intro own51 a51 w51 hd51 hz51 hk51 hf51 hE51
  have e51_7 : a51.eval (.tmp 7) = .bool (x46 || x47) := (hk51 7 rfl).trans e48_7
  obtain ⟨(f_8 : a51.eval (.tmp 8) = .bool (x49 || x50)), -⟩ := hf51 [30] rfl
  have e51_8 := f_8
  have hX51 := Evo.step hX48 (fun _ => Nat.le_refl 0) hE51 rfl
  refine rg_plain_seq (n := 94) (rs := []) (own0 := own51) (K := [])
      (bs := [0, 1, 3, 7, 15, 31, 63])
      (ds := [⟨[], [7], [], Fct.val 88 (.bool (x46 || x47))⟩,
      ⟨[0], [], [], Fct.val 89 (.bool (!(x46 || x47)))⟩,
      ⟨[1], [], [], Fct.val 90 (.bool (!(x46 || x47)))⟩,
      ⟨[2], [8], [], Fct.cond (!(x46 || x47)) (some 91) (Fct.val 91 (.bool (x49 || x50)))⟩,
      ⟨[2, 3], [], [], Fct.cond (!(x46 || x47)) (some 92) (Fct.val 92 (.bool (!(x49 || x50))))⟩,
      ⟨[2, 4], [], [], Fct.val 93 (.bool ((!(x46 || x47)) && (!(x49 || x50))))⟩,
      ⟨[5], [], [], Fct.val 6 (.bool ((!(x46 || x47)) && (!(x49 || x50))))⟩]) (by kernel_rfl) hz51 hd51 (fun _ h => nomatch h) ?_ ?_
  · refine steps_cons (fun own a wx hf hsl hE => ?_) ?_
    · obtain ⟨s_7, -⟩ := hsl
      exact sg_plain rfl rfl (or_move (s_7.trans e51_7))
    refine steps_cons (fun own a wx hf hsl hE => ?_) ?_
    · obtain ⟨(f_88 : a.eval (.tmp 88) = .bool (x46 || x47)), -⟩ := hf
      exact sg_plain rfl rfl (or_not f_88 rfl)
    refine steps_cons (fun own a wx hf hsl hE => ?_) ?_
    · obtain ⟨(f_89 : a.eval (.tmp 89) = .bool (!(x46 || x47))), -⟩ := hf
      exact sg_plain rfl rfl (or_move f_89)
    refine steps_cons (fun own a wx hf hsl hE => ?_) ?_
    · obtain ⟨(f_90 : a.eval (.tmp 90) = .bool (!(x46 || x47))), -⟩ := hf
      obtain ⟨s_8, -⟩ := hsl
      refine sg_t rfl rfl rfl f_90 (fun hg => ?_)
      exact or_move (s_8.trans e51_8)
    refine steps_cons (fun own a wx hf hsl hE => ?_) ?_
    · obtain ⟨(f_90 : a.eval (.tmp 90) = .bool (!(x46 || x47))), c_91, -⟩ := hf
      refine sg_t rfl rfl rfl f_90 (fun hg => ?_)
      have f_91 : a.eval (.tmp 91) = .bool (x49 || x50) := c_91.1 hg
      exact or_not f_91 rfl
    refine steps_cons (fun own a wx hf hsl hE => ?_) ?_
    · obtain ⟨(f_90 : a.eval (.tmp 90) = .bool (!(x46 || x47))), c_92, -⟩ := hf
      exact sg_plain rfl rfl (or_and f_90 (fun hx => c_92.1 hx) rfl rfl)
    refine steps_cons (fun own a wx hf hsl hE => ?_) ?_
    · obtain ⟨(f_93 : a.eval (.tmp 93) = .bool ((!(x46 || x47)) && (!(x49 || x50)))), -⟩ := hf
      exact sg_plain rfl rfl (or_assign f_93)
    exact steps_nil
  intro own52 a52 w52 hd52 hz52 hk52 hf52 hE52
  obtain ⟨(f_6 : a52.eval (.tmp 6) = .bool ((!(x46 || x47)) && (!(x49 || x50)))), -⟩ := hf52 [6] rfl
  have e52_6 := f_6
  have hX52 := Evo.step hX51 (fun _ => Nat.le_refl 0) hE52 rfl
  refine fl_ret ?_
  obtain rfl := osome hs
  exact hret _ _ _ _ (.inl rfl) hd52 (results1_ rfl (RVal.tmp_ e52_6)) ⟨own52, rfl, hX52⟩

theorem ref22_Parts_w (w : World) (l1 : List (Int × Int)) (Al1 : Option Addr) (cl1 : Nat) (b2 : (Int × Int) × (Int × Int)) (hl1 : RdO (fun _ => 0) [0] w R37 Al1 cl1 l1) (r : List (List (Int × Int))) (hs : ref22_Parts l1 b2 = some r) :
    Calls Try.prog 17 #[.slice Al1 l1.length cl1, .agg #[.int .i64 b2.1.1, .int .i64 b2.1.2, .int .i64 b2.2.1, .int .i64 b2.2.2]] w fun e w' => ∃ (own' : Own) (x : Option Addr × Nat), e = .returned (.slice x.1 r.length x.2) ∧ Evo [] (fun _ => 0) own' w w' ∧ RwO own' 1 [2] w' 26 R26 x.1 x.2 r := by
  refine fl_enter (n := 60) rfl rfl rfl (Nat.le_of_ble_eq_true rfl) ?_
  intro a0 Q hd0 hz0 harg hret
  have ha0 := harg 0 _ rfl
  have ha1 := harg 1 _ rfl
  clear harg
  have hE0 : Evo [] (fun _ => 0) (fun _ => 0) w w := Evo.refl _ _ _
  refine rg_plain_seq (n := 60) (rs := []) (own0 := (fun _ => 0)) (K := [])
      (bs := [0, 0])
      (ds := [⟨[], [1], [], Fct.blk 329 3 (fun g => .pointer (some ⟨g, 0, none⟩)) 39 #[.int .i64 b2.1.1, .int .i64 b2.1.2, .int .i64 b2.2.1, .int .i64 b2.2.2]⟩,
      ⟨[], [], [], Fct.val 4 (.slice none 0 0)⟩]) (by kernel_rfl) hz0 hd0 (fun _ h => nomatch h) ?_ ?_
  · refine steps_cons (fun own a wx hf hsl hE => ?_) ?_
    · obtain ⟨s_1, -⟩ := hsl
      exact sg_plain rfl rfl (or_new [(1, .agg #[.int .i64 b2.1.1, .int .i64 b2.1.2, .int .i64 b2.2.1, .int .i64 b2.2.2])] rfl rfl ⟨(s_1.trans ha1), trivial⟩ (by kernel_rfl))
    refine steps_cons (fun own a wx hf hsl hE => ?_) ?_
    · exact sg_plain rfl rfl (or_assign rfl)
    exact steps_nil
  intro own330 a330 w330 hd330 hz330 hk330 hf330 hE330
  have e330_0 : a330.eval (.tmp 0) = .slice Al1 l1.length cl1 := (hk330 0 rfl).trans ha0
  obtain ⟨⟨g328, (f_3 : a330.eval (.tmp 3) = .pointer (some ⟨g328, 0, none⟩)), (b_g328 : BlkO own330 329 w330 g328 39 #[.int .i64 b2.1.1, .int .i64 b2.1.2, .int .i64 b2.2.1, .int .i64 b2.2.2])⟩, -⟩ := hf330 [0] rfl
  have e330_3 := f_3
  have hX330 := Evo.step hE0 (fun _ => Nat.le_refl 0) hE330 rfl
  have b330_Al1 := RdO.evo rfl hE330 hl1
  have b330_g328 := b_g328
  refine rg_plain_seq (n := 60) (rs := []) (own0 := own330) (K := [])
      (bs := [0])
      (ds := [⟨[], [], [], Fct.val 5 (.slice none 0 0)⟩]) (by kernel_rfl) hz330 hd330 (fun _ h => nomatch h) ?_ ?_
  · refine steps_cons (fun own a wx hf hsl hE => ?_) ?_
    · exact sg_plain rfl rfl (or_assign rfl)
    exact steps_nil
  intro own331 a331 w331 hd331 hz331 hk331 hf331 hE331
  have e331_0 : a331.eval (.tmp 0) = .slice Al1 l1.length cl1 := (hk331 0 rfl).trans e330_0
  have e331_3 : a331.eval (.tmp 3) = .pointer (some ⟨g328, 0, none⟩) := (hk331 3 rfl).trans e330_3
  obtain ⟨(f_5 : a331.eval (.tmp 5) = .slice none 0 0), -⟩ := hf331 [0] rfl
  have e331_5 := f_5
  have hX331 := Evo.step hX330 (fun _ => Nat.le_refl 0) hE331 rfl
  have b331_Al1 := RdO.evo rfl hE331 b330_Al1
  have b331_g328 := BlkO.evo (by decide) hE331 b330_g328
  refine rg_plain_seq (n := 60) (rs := []) (own0 := own331) (K := [])
      (bs := [0])
      (ds := [⟨[], [], [], Fct.val 6 (.bool false)⟩]) (by kernel_rfl) hz331 hd331 (fun _ h => nomatch h) ?_ ?_
  · refine steps_cons (fun own a wx hf hsl hE => ?_) ?_
    · exact sg_plain rfl rfl (or_assign rfl)
    exact steps_nil
  intro own332 a332 w332 hd332 hz332 hk332 hf332 hE332
  have e332_0 : a332.eval (.tmp 0) = .slice Al1 l1.length cl1 := (hk332 0 rfl).trans e331_0
  have e332_3 : a332.eval (.tmp 3) = .pointer (some ⟨g328, 0, none⟩) := (hk332 3 rfl).trans e331_3
  have e332_5 : a332.eval (.tmp 5) = .slice none 0 0 := (hk332 5 rfl).trans e331_5
  obtain ⟨(f_6 : a332.eval (.tmp 6) = .bool false), -⟩ := hf332 [0] rfl
  have e332_6 := f_6
  have hX332 := Evo.step hX331 (fun _ => Nat.le_refl 0) hE332 rfl
  have b332_Al1 := RdO.evo rfl hE332 b331_Al1
  have b332_g328 := BlkO.evo (by decide) hE332 b331_g328
  refine fl_seq (fun Q333 hn333 hp333 => ?_)
  refine rg_plain_seq (n := 60) (rs := []) (own0 := own332) (K := [])
      (bs := [0])
      (ds := [⟨[], [], [], Fct.val 7 (.int .i64 1)⟩]) (by kernel_rfl) hz332 hd332 (fun _ h => nomatch h) ?_ ?_
  · refine steps_cons (fun own a wx hf hsl hE => ?_) ?_
    · exact sg_plain rfl rfl (or_assign rfl)
    exact steps_nil
  intro own334 a334 w334 hd334 hz334 hk334 hf334 hE334
  have e334_0 : a334.eval (.tmp 0) = .slice Al1 l1.length cl1 := (hk334 0 rfl).trans e332_0
  have e334_3 : a334.eval (.tmp 3) = .pointer (some ⟨g328, 0, none⟩) := (hk334 3 rfl).trans e332_3
  have e334_5 : a334.eval (.tmp 5) = .slice none 0 0 := (hk334 5 rfl).trans e332_5
  have e334_6 : a334.eval (.tmp 6) = .bool false := (hk334 6 rfl).trans e332_6
  obtain ⟨(f_7 : a334.eval (.tmp 7) = .int .i64 1), -⟩ := hf334 [0] rfl
  have e334_7 := f_7
  have hX334 := Evo.step hX332 (fun _ => Nat.le_refl 0) hE334 rfl
  have b334_Al1 := RdO.evo rfl hE334 b332_Al1
  have b334_g328 := BlkO.evo (by decide) hE334 b332_g328
  refine fl_block (fun Q335 hn335 hx335 hp335 => ?_)
  refine fl_loop (body := (fun s => ref22_Parts_b1 l1 b2 s.1 s.2.1 s.2.2)) (z := r) (show loopO _ _ = _ from hs) (fun (s : (List (List (Int × Int))) × Bool × Int) a wx => match s with | (out434, goes437, i438) => ∃ (ox : Own) (A432 : Option Addr) (c433 : Nat), a.defers = [] ∧ a.tmps.size = 60 ∧ a.eval (.tmp 0) = .slice Al1 l1.length cl1 ∧ a.eval (.tmp 3) = .pointer (some ⟨g328, 0, none⟩) ∧ a.eval (.tmp 5) = .slice A432 out434.length c433 ∧ a.eval (.tmp 6) = .bool goes437 ∧ a.eval (.tmp 7) = .int .i64 i438 ∧ Evo [] (fun _ => 0) ox w wx ∧ RdO ox [0] wx R37 Al1 cl1 l1 ∧ BlkO ox 329 wx g328 39 #[.int .i64 b2.1.1, .int .i64 b2.1.2, .int .i64 b2.2.1, .int .i64 b2.2.2] ∧ RwN ox 435 436 [] wx 26 37 R37 A432 c433 out434) ?_ ?_
  · exact ⟨own334, none, 0, hd334, hz334, e334_0, e334_3, e334_5, e334_6, e334_7, hX334, b334_Al1, b334_g328, RwN.nil_⟩
  · rintro ⟨out434, goes437, i438⟩ zz541 a541 w541 ⟨own541, A432, c433, hd542, hz542, e542_0, e542_3, e542_5, e542_6, e542_7, hE542, b542_Al1, b542_g328, b542_A432⟩ hs Q541 hn541 hp541 hz541
    have hs : ref22_Parts_b1 l1 b2 out434 goes437 i438 = some zz541 := hs
    refine fl_seq (fun Q543 hn543 hp543 => ?_)
    refine rg_plain_seq (n := 60) (rs := []) (own0 := own541) (K := [])
        (bs := [0, 0, 2, 7])
        (ds := [⟨[], [7], [], Fct.val 10 (.int .i64 i438)⟩,
        ⟨[], [0], [], Fct.val 11 (.slice Al1 l1.length cl1)⟩,
        ⟨[1], [], [], Fct.val 12 (.int .i64 (l1.length : Int))⟩,
        ⟨[0, 2], [], [], Fct.val 13 (.bool (decide (i438 < (l1.length : Int))))⟩]) (by kernel_rfl) hz542 hd542 (fun _ h => nomatch h) ?_ ?_
    · refine steps_cons (fun own a wx hf hsl hE => ?_) ?_
      · obtain ⟨s_7, -⟩ := hsl
        exact sg_plain rfl rfl (or_move (s_7.trans e542_7))
      refine steps_cons (fun own a wx hf hsl hE => ?_) ?_
      · obtain ⟨s_0, -⟩ := hsl
        exact sg_plain rfl rfl (or_move (s_0.trans e542_0))
      refine steps_cons (fun own a wx hf hsl hE => ?_) ?_
      · obtain ⟨(f_11 : a.eval (.tmp 11) = .slice Al1 l1.length cl1), -⟩ := hf
        exact sg_plain rfl rfl (or_len tu26 f_11 rfl)
      refine steps_cons (fun own a wx hf hsl hE => ?_) ?_
      · obtain ⟨(f_10 : a.eval (.tmp 10) = .int .i64 i438), (f_12 : a.eval (.tmp 12) = .int .i64 (l1.length : Int)), -⟩ := hf
        exact sg_plain rfl rfl (or_lss f_10 f_12 rfl)
      exact steps_nil
    intro own544 a544 w544 hd544 hz544 hk544 hf544 hE544
    have e544_0 : a544.eval (.tmp 0) = .slice Al1 l1.length cl1 := (hk544 0 rfl).trans e542_0
    have e544_3 : a544.eval (.tmp 3) = .pointer (some ⟨g328, 0, none⟩) := (hk544 3 rfl).trans e542_3
    have e544_5 : a544.eval (.tmp 5) = .slice A432 out434.length c433 := (hk544 5 rfl).trans e542_5
    have e544_6 : a544.eval (.tmp 6) = .bool goes437 := (hk544 6 rfl).trans e542_6
    have e544_7 : a544.eval (.tmp 7) = .int .i64 i438 := (hk544 7 rfl).trans e542_7
    obtain ⟨(f_13 : a544.eval (.tmp 13) = .bool (decide (i438 < (l1.length : Int)))), -⟩ := hf544 [3] rfl
    have e544_13 := f_13
    have hX544 := Evo.step hE542 (fun _ => Nat.le_refl 0) hE544 rfl
    have b544_Al1 := RdO.evo rfl hE544 b542_Al1
    have b544_g328 := BlkO.evo (by decide) hE544 b542_g328
    have b544_A432 := RwN.evo rfl hE544 b542_A432
    refine fl_cond e544_13 hs (fun c545 hs => ?_) (fun c545 hs => ?_)
    · refine fl_skip ?_
      refine hn543 _ _ ?_
      refine fl_seq (fun Q546 hn546 hp546 => ?_)
      refine fl_block (fun Q547 hn547 hx547 hp547 => ?_)
      obtain ⟨x548, hx548, hs⟩ := obind hs
      obtain ⟨x549, hx549, hs⟩ := obind hs
      obtain ⟨r550, hr550, hs⟩ := obind hs
      refine rg_draw_seq g_mixed (n := 60) (rs := []) (own0 := own544) (K := [])
          (bs := [0, 0, 2, 7, 15, 0, 0, 96, 224, 0, 1023, 2047])
          (ds := [⟨[], [0], [], Fct.val 16 (.slice Al1 l1.length cl1)⟩,
          ⟨[], [7], [], Fct.val 17 (.int .i64 i438)⟩,
          ⟨[1], [], [], Fct.val 18 (.int .i64 (sb i438 1))⟩,
          ⟨[0, 2], [], [], Fct.val 19 (.pointer (some ((adr Al1).add ((sb i438 1 : Int).toNat * R37.s))))⟩,
          ⟨[3], [], [], Fct.val 20 (.agg #[.int .i64 x548.1, .int .i64 x548.2])⟩,
          ⟨[], [0], [], Fct.val 21 (.slice Al1 l1.length cl1)⟩,
          ⟨[], [7], [], Fct.val 22 (.int .i64 i438)⟩,
          ⟨[5, 6], [], [], Fct.val 23 (.pointer (some ((adr Al1).add ((i438 : Int).toNat * R37.s))))⟩,
          ⟨[7], [], [], Fct.val 24 (.agg #[.int .i64 x549.1, .int .i64 x549.2])⟩,
          ⟨[], [3], [], Fct.val 25 (.agg #[.int .i64 b2.1.1, .int .i64 b2.1.2, .int .i64 b2.2.1, .int .i64 b2.2.2])⟩,
          ⟨[4, 8, 9], [], [], Fct.val 26 (.bool r550)⟩,
          ⟨[10], [], [], Fct.val 8 (.bool r550)⟩]) (by kernel_rfl) hz544 hd544 (fun _ h => nomatch h) ?_ ?_
      · refine steps_cons (fun own a wx hf hsl hE => ?_) ?_
        · obtain ⟨s_0, -⟩ := hsl
          exact sg_plain rfl rfl (or_move (s_0.trans e544_0))
        refine steps_cons (fun own a wx hf hsl hE => ?_) ?_
        · obtain ⟨s_7, -⟩ := hsl
          exact sg_plain rfl rfl (or_move (s_7.trans e544_7))
        refine steps_cons (fun own a wx hf hsl hE => ?_) ?_
        · obtain ⟨(f_17 : a.eval (.tmp 17) = .int .i64 i438), -⟩ := hf
          exact sg_plain rfl rfl (or_sub f_17 rfl rfl)
        refine steps_cons (fun own a wx hf hsl hE => ?_) ?_
        · obtain ⟨(f_16 : a.eval (.tmp 16) = .slice Al1 l1.length cl1), (f_18 : a.eval (.tmp 18) = .int .i64 (sb i438 1)), -⟩ := hf
          exact sg_plain rfl rfl (or_index (R := R37) (l := l1) tl26 f_16 f_18 (RdO.some_ b544_Al1 hx548) hx548)
        refine steps_cons (fun own a wx hf hsl hE => ?_) ?_
        · obtain ⟨(f_19 : a.eval (.tmp 19) = .pointer (some ((adr Al1).add ((sb i438 1 : Int).toNat * R37.s)))), -⟩ := hf
          exact sg_plain rfl rfl (or_load (l := E37.f x548) ta37 f_19 (RdO.cells (F := E37) (RdO.evo rfl hE b544_Al1) hx548) rfl)
        refine steps_cons (fun own a wx hf hsl hE => ?_) ?_
        · obtain ⟨s_0, -⟩ := hsl
          exact sg_plain rfl rfl (or_move (s_0.trans e544_0))
        refine steps_cons (fun own a wx hf hsl hE => ?_) ?_
        · obtain ⟨s_7, -⟩ := hsl
          exact sg_plain rfl rfl (or_move (s_7.trans e544_7))
        refine steps_cons (fun own a wx hf hsl hE => ?_) ?_
        · obtain ⟨(f_21 : a.eval (.tmp 21) = .slice Al1 l1.length cl1), (f_22 : a.eval (.tmp 22) = .int .i64 i438), -⟩ := hf
          exact sg_plain rfl rfl (or_index (R := R37) (l := l1) tl26 f_21 f_22 (RdO.some_ b544_Al1 hx549) hx549)
        refine steps_cons (fun own a wx hf hsl hE => ?_) ?_
        · obtain ⟨(f_23 : a.eval (.tmp 23) = .pointer (some ((adr Al1).add ((i438 : Int).toNat * R37.s)))), -⟩ := hf
          exact sg_plain rfl rfl (or_load (l := E37.f x549) ta37 f_23 (RdO.cells (F := E37) (RdO.evo rfl hE b544_Al1) hx549) rfl)
        refine steps_cons (fun own a wx hf hsl hE => ?_) ?_
        · obtain ⟨s_3, -⟩ := hsl
          exact sg_plain rfl rfl (or_load (l := [.int .i64 b2.1.1, .int .i64 b2.1.2, .int .i64 b2.2.1, .int .i64 b2.2.2]) ta39 (s_3.trans e544_3) (Blk.cellsFrom (BlkO.evo (by decide) hE b544_g328).2 0 rfl) rfl)
        refine steps_cons (fun own a wx hf hsl hE => ?_) ?_
        · obtain ⟨(f_20 : a.eval (.tmp 20) = .agg #[.int .i64 x548.1, .int .i64 x548.2]), (f_24 : a.eval (.tmp 24) = .agg #[.int .i64 x549.1, .int .i64 x549.2]), (f_25 : a.eval (.tmp 25) = .agg #[.int .i64 b2.1.1, .int .i64 b2.1.2, .int .i64 b2.2.1, .int .i64 b2.2.2]), -⟩ := hf
          exact sg_plain rfl rfl (or_call cf14 (args3 f_20 f_24 f_25) (ref22_Shown_w _ x548 x549 b2  r550 hr550) post_val)
        refine steps_cons (fun own a wx hf hsl hE => ?_) ?_
        · obtain ⟨(f_26 : a.eval (.tmp 26) = .bool r550), -⟩ := hf
          exact sg_plain rfl rfl (or_assign f_26)
        exact steps_nil
      intro own551 a551 w551 hd551 hz551 hk551 hf551 hE551
      have e551_0 : a551.eval (.tmp 0) = .slice Al1 l1.length cl1 := (hk551 0 rfl).trans e544_0
      have e551_3 : a551.eval (.tmp 3) = .pointer (some ⟨g328, 0, none⟩) := (hk551 3 rfl).trans e544_3
      have e551_5 : a551.eval (.tmp 5) = .slice A432 out434.length c433 := (hk551 5 rfl).trans e544_5
      have e551_6 : a551.eval (.tmp 6) = .bool goes437 := (hk551 6 rfl).trans e544_6
      have e551_7 : a551.eval (.tmp 7) = .int .i64 i438 := (hk551 7 rfl).trans e544_7
      obtain ⟨(f_8 : a551.eval (.tmp 8) = .bool r550), -⟩ := hf551 [11] rfl
      have e551_8 := f_8
      have hX551 := Evo.step hX544 (fun _ => Nat.le_refl 0) hE551 rfl
      have b551_Al1 := RdO.evo rfl hE551 b544_Al1
      have b551_g328 := BlkO.evo (by decide) hE551 b544_g328
      have b551_A432 := RwN.evo rfl hE551 b544_A432
      refine fl_seq (fun Q552 hn552 hp552 => ?_)
      have K575 : ∀ (a575 : Act) (w575 : World) (own575 : Own) (out572 : List (List (Int × Int))) (A570 : Option Addr) (c571 : Nat), a575.defers = [] → a575.tmps.size = 60 → a575.eval (.tmp 0) = .slice Al1 l1.length cl1 → a575.eval (.tmp 3) = .pointer (some ⟨g328, 0, none⟩) → a575.eval (.tmp 5) = .slice A570 out572.length c571 → a575.eval (.tmp 7) = .int .i64 i438 → a575.eval (.tmp 8) = .bool r550 → Evo [] (fun _ => 0) own575 w w575 → RdO own575 [0] w575 R37 Al1 cl1 l1 → BlkO own575 329 w575 g328 39 #[.int .i64 b2.1.1, .int .i64 b2.1.2, .int .i64 b2.2.1, .int .i64 b2.2.2] → RwN own575 573 574 [] w575 26 37 R37 A570 c571 out572 → ref22_Parts_k2 l1 i438 r550 out572 = some zz541 → Q552 .normal a575 w575 := by
        intro a575 w575 own575 out572 A570 c571 hd576 hz576 e576_0 e576_3 e576_5 e576_7 e576_8 hE576 b576_Al1 b576_g328 b576_A570 hs
        refine hn552 _ _ ?_
        refine fl_seq (fun Q577 hn577 hp577 => ?_)
        have K602 : ∀ (a602 : Act) (w602 : World) (own602 : Own) (out599 : List (List (Int × Int))), a602.defers = [] → a602.tmps.size = 60 → a602.eval (.tmp 0) = .slice Al1 l1.length cl1 → a602.eval (.tmp 3) = .pointer (some ⟨g328, 0, none⟩) → a602.eval (.tmp 5) = .slice A570 out599.length c571 → a602.eval (.tmp 7) = .int .i64 i438 → a602.eval (.tmp 8) = .bool r550 → Evo [] (fun _ => 0) own602 w w602 → RdO own602 [0] w602 R37 Al1 cl1 l1 → BlkO own602 329 w602 g328 39 #[.int .i64 b2.1.1, .int .i64 b2.1.2, .int .i64 b2.2.1, .int .i64 b2.2.2] → RwN own602 600 601 [] w602 26 37 R37 A570 c571 out599 → ref22_Parts_k3 i438 r550 out599 = some zz541 → Q577 .normal a602 w602 := by
          intro a602 w602 own602 out599 hd603 hz603 e603_0 e603_3 e603_5 e603_7 e603_8 hE603 b603_Al1 b603_g328 b603_A570 hs
          refine hn577 _ _ ?_
          refine rg_plain (n := 60) (rs := []) (own0 := own602) (K := [])
              (bs := [0, 1])
              (ds := [⟨[], [8], [], Fct.val 58 (.bool r550)⟩,
              ⟨[0], [], [], Fct.val 6 (.bool r550)⟩]) (by kernel_rfl) hz603 hd603 (fun _ h => nomatch h) ?_ ?_
          · refine steps_cons (fun own a wx hf hsl hE => ?_) ?_
            · obtain ⟨s_8, -⟩ := hsl
              exact sg_plain rfl rfl (or_move (s_8.trans e603_8))
            refine steps_cons (fun own a wx hf hsl hE => ?_) ?_
            · obtain ⟨(f_58 : a.eval (.tmp 58) = .bool r550), -⟩ := hf
              exact sg_plain rfl rfl (or_assign f_58)
            exact steps_nil
          intro own604 a604 w604 hd604 hz604 hk604 hf604 hE604
          have e604_0 : a604.eval (.tmp 0) = .slice Al1 l1.length cl1 := (hk604 0 rfl).trans e603_0
          have e604_3 : a604.eval (.tmp 3) = .pointer (some ⟨g328, 0, none⟩) := (hk604 3 rfl).trans e603_3
          have e604_5 : a604.eval (.tmp 5) = .slice A570 out599.length c571 := (hk604 5 rfl).trans e603_5
          have e604_7 : a604.eval (.tmp 7) = .int .i64 i438 := (hk604 7 rfl).trans e603_7
          obtain ⟨(f_6 : a604.eval (.tmp 6) = .bool r550), -⟩ := hf604 [1] rfl
          have e604_6 := f_6
          have hX604 := Evo.step hE603 (fun _ => Nat.le_refl 0) hE604 rfl
          have b604_Al1 := RdO.evo rfl hE604 b603_Al1
          have b604_g328 := BlkO.evo (by decide) hE604 b603_g328
          have b604_A570 := RwN.evo rfl hE604 b603_A570
          refine hn547 _ _ ?_
          refine hn546 _ _ ?_
          refine rg_plain (n := 60) (rs := []) (own0 := own604) (K := [])
              (bs := [0, 1, 3])
              (ds := [⟨[], [7], [], Fct.val 14 (.int .i64 i438)⟩,
              ⟨[0], [], [], Fct.val 15 (.int .i64 (ad i438 1))⟩,
              ⟨[1], [], [], Fct.val 7 (.int .i64 (ad i438 1))⟩]) (by kernel_rfl) hz604 hd604 (fun _ h => nomatch h) ?_ ?_
          · refine steps_cons (fun own a wx hf hsl hE => ?_) ?_
            · obtain ⟨s_7, -⟩ := hsl
              exact sg_plain rfl rfl (or_move (s_7.trans e604_7))
            refine steps_cons (fun own a wx hf hsl hE => ?_) ?_
            · obtain ⟨(f_14 : a.eval (.tmp 14) = .int .i64 i438), -⟩ := hf
              exact sg_plain rfl rfl (or_add f_14 rfl rfl)
            refine steps_cons (fun own a wx hf hsl hE => ?_) ?_
            · obtain ⟨(f_15 : a.eval (.tmp 15) = .int .i64 (ad i438 1)), -⟩ := hf
              exact sg_plain rfl rfl (or_assign f_15)
            exact steps_nil
          intro own605 a605 w605 hd605 hz605 hk605 hf605 hE605
          have e605_0 : a605.eval (.tmp 0) = .slice Al1 l1.length cl1 := (hk605 0 rfl).trans e604_0
          have e605_3 : a605.eval (.tmp 3) = .pointer (some ⟨g328, 0, none⟩) := (hk605 3 rfl).trans e604_3
          have e605_5 : a605.eval (.tmp 5) = .slice A570 out599.length c571 := (hk605 5 rfl).trans e604_5
          have e605_6 : a605.eval (.tmp 6) = .bool r550 := (hk605 6 rfl).trans e604_6
          obtain ⟨(f_7 : a605.eval (.tmp 7) = .int .i64 (ad i438 1)), -⟩ := hf605 [2] rfl
          have e605_7 := f_7
          have hX605 := Evo.step hX604 (fun _ => Nat.le_refl 0) hE605 rfl
          have b605_Al1 := RdO.evo rfl hE605 b604_Al1
          have b605_g328 := BlkO.evo (by decide) hE605 b604_g328
          have b605_A570 := RwN.evo rfl hE605 b604_A570
          exact hn541 _ _ _ hs ⟨(rl [(600, 435), (601, 436)] own605), A570, c571, hd605, hz605, e605_0, e605_3, e605_5, e605_6, e605_7, (Evo.rl_ hX605 (fun _ => Nat.le_refl 0) rfl), (RdO.rl_ (mm := [(600, 435), (601, 436)]) b605_Al1), (BlkO.rl_ (mm := [(600, 435), (601, 436)]) b605_g328), (RwN.rl_ (mm := [(600, 435), (601, 436)]) b605_A570)⟩
        refine rg_plain_seq (n := 60) (rs := []) (own0 := own575) (K := [])
            (bs := [0])
            (ds := [⟨[], [8], [], Fct.val 41 (.bool r550)⟩]) (by kernel_rfl) hz576 hd576 (fun _ h => nomatch h) ?_ ?_
        · refine steps_cons (fun own a wx hf hsl hE => ?_) ?_
          · obtain ⟨s_8, -⟩ := hsl
            exact sg_plain rfl rfl (or_move (s_8.trans e576_8))
          exact steps_nil
        intro own606 a606 w606 hd606 hz606 hk606 hf606 hE606
        have e606_0 : a606.eval (.tmp 0) = .slice Al1 l1.length cl1 := (hk606 0 rfl).trans e576_0
        have e606_3 : a606.eval (.tmp 3) = .pointer (some ⟨g328, 0, none⟩) := (hk606 3 rfl).trans e576_3
        have e606_5 : a606.eval (.tmp 5) = .slice A570 out572.length c571 := (hk606 5 rfl).trans e576_5
        have e606_7 : a606.eval (.tmp 7) = .int .i64 i438 := (hk606 7 rfl).trans e576_7
        have e606_8 : a606.eval (.tmp 8) = .bool r550 := (hk606 8 rfl).trans e576_8
        obtain ⟨(f_41 : a606.eval (.tmp 41) = .bool r550), -⟩ := hf606 [0] rfl
        have e606_41 := f_41
        have hX606 := Evo.step hE576 (fun _ => Nat.le_refl 0) hE606 rfl
        have b606_Al1 := RdO.evo rfl hE606 b576_Al1
        have b606_g328 := BlkO.evo (by decide) hE606 b576_g328
        have b606_A570 := RwN.evo rfl hE606 b576_A570
        refine fl_cond e606_41 hs (fun c607 hs => ?_) (fun c607 hs => ?_)
        · refine rg_plain_seq (n := 60) (rs := []) (own0 := own606) (K := [])
              (bs := [0, 1, 3, 7])
              (ds := [⟨[], [5], [], Fct.val 42 (.slice A570 out572.length c571)⟩,
              ⟨[0], [], [], Fct.val 43 (.int .i64 (out572.length : Int))⟩,
              ⟨[1], [], [], Fct.val 44 (.int .i64 (sb (out572.length : Int) 1))⟩,
              ⟨[2], [], [], Fct.val 9 (.int .i64 (sb (out572.length : Int) 1))⟩]) (by kernel_rfl) hz606 hd606 (fun _ h => nomatch h) ?_ ?_
          · refine steps_cons (fun own a wx hf hsl hE => ?_) ?_
            · obtain ⟨s_5, -⟩ := hsl
              exact sg_plain rfl rfl (or_move (s_5.trans e606_5))
            refine steps_cons (fun own a wx hf hsl hE => ?_) ?_
            · obtain ⟨(f_42 : a.eval (.tmp 42) = .slice A570 out572.length c571), -⟩ := hf
              exact sg_plain rfl rfl (or_len tu23 f_42 rfl)
            refine steps_cons (fun own a wx hf hsl hE => ?_) ?_
            · obtain ⟨(f_43 : a.eval (.tmp 43) = .int .i64 (out572.length : Int)), -⟩ := hf
              exact sg_plain rfl rfl (or_sub f_43 rfl rfl)
            refine steps_cons (fun own a wx hf hsl hE => ?_) ?_
            · obtain ⟨(f_44 : a.eval (.tmp 44) = .int .i64 (sb (out572.length : Int) 1)), -⟩ := hf
              exact sg_plain rfl rfl (or_assign f_44)
            exact steps_nil
          intro own608 a608 w608 hd608 hz608 hk608 hf608 hE608
          have e608_0 : a608.eval (.tmp 0) = .slice Al1 l1.length cl1 := (hk608 0 rfl).trans e606_0
          have e608_3 : a608.eval (.tmp 3) = .pointer (some ⟨g328, 0, none⟩) := (hk608 3 rfl).trans e606_3
          have e608_5 : a608.eval (.tmp 5) = .slice A570 out572.length c571 := (hk608 5 rfl).trans e606_5
          have e608_7 : a608.eval (.tmp 7) = .int .i64 i438 := (hk608 7 rfl).trans e606_7
          have e608_8 : a608.eval (.tmp 8) = .bool r550 := (hk608 8 rfl).trans e606_8
          obtain ⟨(f_9 : a608.eval (.tmp 9) = .int .i64 (sb (out572.length : Int) 1)), -⟩ := hf608 [3] rfl
          have e608_9 := f_9
          have hX608 := Evo.step hX606 (fun _ => Nat.le_refl 0) hE608 rfl
          have b608_Al1 := RdO.evo rfl hE608 b606_Al1
          have b608_g328 := BlkO.evo (by decide) hE608 b606_g328
          have b608_A570 := RwN.evo rfl hE608 b606_A570
          obtain ⟨x614, hx614, hs⟩ := obind hs
          obtain ⟨x616, hx616, hs⟩ := obind hs
          obtain ⟨x619, hx619, hs⟩ := obind hs
          obtain ⟨x622, hx622, hs⟩ := obind hs
          obtain ⟨l623, hl623, hs⟩ := obind hs
          refine rg_draw g_mixed (n := 60) (rs := [Fct.rownAt 573 574 [] 26 37 R37 A570 c571 out572]) (own0 := own608) (K := [574, 573])
              (bs := [0, 0, 0, 0, 12, 28, 0, 0, 192, 448, 960, 2044, 4095, 8191])
              (ds := [⟨[], [5], [], Fct.val 45 (.slice A570 out572.length c571)⟩,
              ⟨[], [9], [], Fct.val 46 (.int .i64 (sb (out572.length : Int) 1))⟩,
              ⟨[], [5], [], Fct.val 47 (.slice A570 out572.length c571)⟩,
              ⟨[], [9], [], Fct.val 48 (.int .i64 (sb (out572.length : Int) 1))⟩,
              ⟨[2, 3], [], [], Fct.val 49 (.pointer (some ((adr A570).add ((sb (out572.length : Int) 1 : Int).toNat * R26.s))))⟩,
              ⟨[4, 14], [], [], Fct.bor 573 574 [] 50 26 37 R37 A570 c571 out572 (sb (out572.length : Int) 1 : Int).toNat x614⟩,
              ⟨[], [0], [], Fct.val 51 (.slice Al1 l1.length cl1)⟩,
              ⟨[], [7], [], Fct.val 52 (.int .i64 i438)⟩,
              ⟨[6, 7], [], [], Fct.val 53 (.pointer (some ((adr Al1).add ((i438 : Int).toNat * R37.s))))⟩,
              ⟨[8], [], [], Fct.val 54 (.agg #[.int .i64 x616.1, .int .i64 x616.2])⟩,
              ⟨[9], [], [], Fct.row 618 [] 55 37 R37 [x616]⟩,
              ⟨[5, 10], [], [574], Fct.hole 573 620 [] 56 26 37 R37 A570 c571 out572 (sb (out572.length : Int) 1 : Int).toNat x619⟩,
              ⟨[0, 1], [], [], Fct.val 57 (.pointer (some ((adr A570).add ((sb (out572.length : Int) 1 : Int).toNat * R26.s))))⟩,
              ⟨[12, 11], [], [573], Fct.rownAt 624 620 [] 26 37 R37 A570 c571 l623⟩]) (by kernel_rfl) hz608 hd608 (by simp only [List.forall_mem_cons]; exact ⟨b608_A570, fun _ h => nomatch h⟩) ?_ ?_
          · refine steps_cons (fun own a wx hf hsl hE => ?_) ?_
            · obtain ⟨s_5, -⟩ := hsl
              exact sg_plain rfl rfl (or_move (s_5.trans e608_5))
            refine steps_cons (fun own a wx hf hsl hE => ?_) ?_
            · obtain ⟨s_9, -⟩ := hsl
              exact sg_plain rfl rfl (or_move (s_9.trans e608_9))
            refine steps_cons (fun own a wx hf hsl hE => ?_) ?_
            · obtain ⟨s_5, -⟩ := hsl
              exact sg_plain rfl rfl (or_move (s_5.trans e608_5))
            refine steps_cons (fun own a wx hf hsl hE => ?_) ?_
            · obtain ⟨s_9, -⟩ := hsl
              exact sg_plain rfl rfl (or_move (s_9.trans e608_9))
            refine steps_cons (fun own a wx hf hsl hE => ?_) ?_
            · obtain ⟨(f_47 : a.eval (.tmp 47) = .slice A570 out572.length c571), (f_48 : a.eval (.tmp 48) = .int .i64 (sb (out572.length : Int) 1)), -⟩ := hf
              exact sg_plain rfl rfl (or_index (R := R26) (l := out572) tl23 f_47 f_48 (RdO.some_ (RwN.rd b608_A570) hx614) hx614)
            refine steps_cons (fun own a wx hf hsl hE => ?_) ?_
            · obtain ⟨(f_49 : a.eval (.tmp 49) = .pointer (some ((adr A570).add ((sb (out572.length : Int) 1 : Int).toNat * R26.s)))), (b_A570 : RwN own 573 574 [] wx 26 37 R37 A570 c571 out572), -⟩ := hf
              exact sg_plain rfl rfl (or_borrow to26 f_49 b_A570 hx614)
            refine steps_cons (fun own a wx hf hsl hE => ?_) ?_
            · obtain ⟨s_0, -⟩ := hsl
              exact sg_plain rfl rfl (or_move (s_0.trans e608_0))
            refine steps_cons (fun own a wx hf hsl hE => ?_) ?_
            · obtain ⟨s_7, -⟩ := hsl
              exact sg_plain rfl rfl (or_move (s_7.trans e608_7))
            refine steps_cons (fun own a wx hf hsl hE => ?_) ?_
            · obtain ⟨(f_51 : a.eval (.tmp 51) = .slice Al1 l1.length cl1), (f_52 : a.eval (.tmp 52) = .int .i64 i438), -⟩ := hf
              exact sg_plain rfl rfl (or_index (R := R37) (l := l1) tl26 f_51 f_52 (RdO.some_ b608_Al1 hx616) hx616)
            refine steps_cons (fun own a wx hf hsl hE => ?_) ?_
            · obtain ⟨(f_53 : a.eval (.tmp 53) = .pointer (some ((adr Al1).add ((i438 : Int).toNat * R37.s)))), -⟩ := hf
              exact sg_plain rfl rfl (or_load (l := E37.f x616) ta37 f_53 (RdO.cells (F := E37) (RdO.evo rfl hE b608_Al1) hx616) rfl)
            refine steps_cons (fun own a wx hf hsl hE => ?_) ?_
            · obtain ⟨(f_54 : a.eval (.tmp 54) = .agg #[.int .i64 x616.1, .int .i64 x616.2]), -⟩ := hf
              exact sg_plain rfl rfl (or_lit (lab := 618) (e := 37) (cs := #[.int .i64 x616.1, .int .i64 x616.2]) (F := E37) (or_new [(54, .agg #[.int .i64 x616.1, .int .i64 x616.2])] rfl rfl ⟨f_54, trivial⟩ (by kernel_rfl)) rfl rfl (show 1 ≤ maxLen by decide))
            refine steps_cons (fun own a wx hf hsl hE => ?_) ?_
            · obtain ⟨⟨⟨A615, cA615⟩, (f_50 : a.eval (.tmp 50) = .slice A615 x614.length cA615), (b_A615 : RwNa own 573 574 [] wx 26 37 R37 A570 c571 out572 (sb (out572.length : Int) 1 : Int).toNat (A615, cA615))⟩, ⟨⟨A617, cA617⟩, (f_55 : a.eval (.tmp 55) = .slice A617 [x616].length cA617), (b_A617 : RwO own 618 [] wx 37 R37 A617 cA617 [x616])⟩, -⟩ := hf
              exact sg_plain rfl rfl (or_grow (R := R37) (lab := 573) (lab2 := 620) (L := []) (L3 := []) tp26 f_50 b_A615 (ix_some hx614).2.2 f_55 (RwO.rd b_A617) hx619 (by decide) (by decide) (by decide) (mem_of rfl) rfl rfl rfl (by decide) (.inl (Rep.fl_flat _)))
            refine steps_cons (fun own a wx hf hsl hE => ?_) ?_
            · obtain ⟨(f_45 : a.eval (.tmp 45) = .slice A570 out572.length c571), (f_46 : a.eval (.tmp 46) = .int .i64 (sb (out572.length : Int) 1)), -⟩ := hf
              exact sg_plain rfl rfl (or_index (R := R26) (l := out572) tl23 f_45 f_46 (RdO.some_ (RwN.rd b608_A570) hx622) hx622)
            refine steps_cons (fun own a wx hf hsl hE => ?_) ?_
            · obtain ⟨(f_57 : a.eval (.tmp 57) = .pointer (some ((adr A570).add ((sb (out572.length : Int) 1 : Int).toNat * R26.s)))), ⟨⟨A621, cA621⟩, (f_56 : a.eval (.tmp 56) = .slice A621 x619.length cA621), (b_A621 : RwNh own 573 620 [] wx 26 37 R37 A570 c571 out572 (sb (out572.length : Int) 1 : Int).toNat (A621, cA621) x619)⟩, -⟩ := hf
              exact sg_plain rfl rfl (or_putB (R := R37) (lab := 573) (lab2 := 624) (labE := 620) (L := []) ts26 f_57 f_56 b_A621 hl623 (mem_of rfl) (by decide) rfl (fun own' a' w' ha hb => hb))
            exact steps_nil
          intro own625 a625 w625 hd625 hz625 hk625 hf625 hE625
          have e625_0 : a625.eval (.tmp 0) = .slice Al1 l1.length cl1 := (hk625 0 rfl).trans e608_0
          have e625_3 : a625.eval (.tmp 3) = .pointer (some ⟨g328, 0, none⟩) := (hk625 3 rfl).trans e608_3
          have e625_5 : a625.eval (.tmp 5) = .slice A570 out572.length c571 := (hk625 5 rfl).trans e608_5
          have e625_7 : a625.eval (.tmp 7) = .int .i64 i438 := (hk625 7 rfl).trans e608_7
          have e625_8 : a625.eval (.tmp 8) = .bool r550 := (hk625 8 rfl).trans e608_8
          obtain ⟨(b_A570 : RwN own625 624 620 [] w625 26 37 R37 A570 c571 l623), -⟩ := hf625 [13] rfl
          have hX625 := Evo.step hX608 (fun _ => Nat.le_refl 0) hE625 rfl
          have b625_Al1 := RdO.evo rfl hE625 b608_Al1
          have b625_g328 := BlkO.evo (by decide) hE625 b608_g328
          have b625_A570 := b_A570
          have m626_5 : a625.eval (.tmp 5) = .slice A570 l623.length c571 := e625_5.trans (by rw [put_len hl623])
          exact (K602 _ _ (rl [(620, 601), (624, 600)] own625) _ hd625 hz625 e625_0 e625_3 m626_5 e625_7 e625_8 (Evo.rl_ hX625 (fun _ => Nat.le_refl 0) rfl) (RdO.rl_ (mm := [(620, 601), (624, 600)]) b625_Al1) (BlkO.rl_ (mm := [(620, 601), (624, 600)]) b625_g328) (RwN.rl_ (mm := [(620, 601), (624, 600)]) b625_A570) hs)
        refine fl_skip ?_
        exact (K602 _ _ (rl [(573, 600), (574, 601)] own606) _ hd606 hz606 e606_0 e606_3 e606_5 e606_7 e606_8 (Evo.rl_ hX606 (fun _ => Nat.le_refl 0) rfl) (RdO.rl_ (mm := [(573, 600), (574, 601)]) b606_Al1) (BlkO.rl_ (mm := [(573, 600), (574, 601)]) b606_g328) (RwN.rl_ (mm := [(573, 600), (574, 601)]) b606_A570) hs)
      refine rg_plain_seq (n := 60) (rs := []) (own0 := own551) (K := [])
          (bs := [0, 1, 3, 7, 15])
          (ds := [⟨[], [8], [], Fct.val 27 (.bool r550)⟩,
          ⟨[0], [], [], Fct.val 28 (.bool r550)⟩,
          ⟨[1], [6], [], Fct.cond r550 (some 29) (Fct.val 29 (.bool goes437))⟩,
          ⟨[1, 2], [], [], Fct.cond r550 (some 30) (Fct.val 30 (.bool (!goes437)))⟩,
          ⟨[1, 3], [], [], Fct.val 31 (.bool (r550 && (!goes437)))⟩]) (by kernel_rfl) hz551 hd551 (fun _ h => nomatch h) ?_ ?_
      · refine steps_cons (fun own a wx hf hsl hE => ?_) ?_
        · obtain ⟨s_8, -⟩ := hsl
          exact sg_plain rfl rfl (or_move (s_8.trans e551_8))
        refine steps_cons (fun own a wx hf hsl hE => ?_) ?_
        · obtain ⟨(f_27 : a.eval (.tmp 27) = .bool r550), -⟩ := hf
          exact sg_plain rfl rfl (or_move f_27)
        refine steps_cons (fun own a wx hf hsl hE => ?_) ?_
        · obtain ⟨(f_28 : a.eval (.tmp 28) = .bool r550), -⟩ := hf
          obtain ⟨s_6, -⟩ := hsl
          refine sg_t rfl rfl rfl f_28 (fun hg => ?_)
          exact or_move (s_6.trans e551_6)
        refine steps_cons (fun own a wx hf hsl hE => ?_) ?_
        · obtain ⟨(f_28 : a.eval (.tmp 28) = .bool r550), c_29, -⟩ := hf
          refine sg_t rfl rfl rfl f_28 (fun hg => ?_)
          have f_29 : a.eval (.tmp 29) = .bool goes437 := c_29.1 hg
          exact or_not f_29 rfl
        refine steps_cons (fun own a wx hf hsl hE => ?_) ?_
        · obtain ⟨(f_28 : a.eval (.tmp 28) = .bool r550), c_30, -⟩ := hf
          exact sg_plain rfl rfl (or_and f_28 (fun hx => c_30.1 hx) rfl rfl)
        exact steps_nil
      intro own627 a627 w627 hd627 hz627 hk627 hf627 hE627
      have e627_0 : a627.eval (.tmp 0) = .slice Al1 l1.length cl1 := (hk627 0 rfl).trans e551_0
      have e627_3 : a627.eval (.tmp 3) = .pointer (some ⟨g328, 0, none⟩) := (hk627 3 rfl).trans e551_3
      have e627_5 : a627.eval (.tmp 5) = .slice A432 out434.length c433 := (hk627 5 rfl).trans e551_5
      have e627_7 : a627.eval (.tmp 7) = .int .i64 i438 := (hk627 7 rfl).trans e551_7
      have e627_8 : a627.eval (.tmp 8) = .bool r550 := (hk627 8 rfl).trans e551_8
      obtain ⟨(f_31 : a627.eval (.tmp 31) = .bool (r550 && (!goes437))), -⟩ := hf627 [4] rfl
      have e627_31 := f_31
      have hX627 := Evo.step hX551 (fun _ => Nat.le_refl 0) hE627 rfl
      have b627_Al1 := RdO.evo rfl hE627 b551_Al1
      have b627_g328 := BlkO.evo (by decide) hE627 b551_g328
      have b627_A432 := RwN.evo rfl hE627 b551_A432
      refine fl_cond e627_31 hs (fun c628 hs => ?_) (fun c628 hs => ?_)
      · obtain ⟨x634, hx634, hs⟩ := obind hs
        obtain ⟨x639, hx639, hs⟩ := obind hs
        refine rg_plain (n := 60) (rs := [Fct.rownAt 435 436 [] 26 37 R37 A432 c433 out434]) (own0 := own627) (K := [435, 436, 636])
            (bs := [0, 0, 0, 4, 14, 30, 62, 126, 255, 511])
            (ds := [⟨[], [5], [], Fct.val 32 (.slice A432 out434.length c433)⟩,
            ⟨[], [0], [], Fct.val 33 (.slice Al1 l1.length cl1)⟩,
            ⟨[], [7], [], Fct.val 34 (.int .i64 i438)⟩,
            ⟨[2], [], [], Fct.val 35 (.int .i64 (sb i438 1))⟩,
            ⟨[1, 3], [], [], Fct.val 36 (.pointer (some ((adr Al1).add ((sb i438 1 : Int).toNat * R37.s))))⟩,
            ⟨[4], [], [], Fct.val 37 (.agg #[.int .i64 x634.1, .int .i64 x634.2])⟩,
            ⟨[5], [], [], Fct.row 636 [] 38 37 R37 [x634]⟩,
            ⟨[6], [], [], Fct.rown 638 636 [] 39 26 37 R37 [[x634]]⟩,
            ⟨[0, 7, 10], [], [435, 436, 636], Fct.rown 640 641 [] 40 26 37 R37 x639⟩,
            ⟨[8], [], [], Fct.rel [5, 40] (fun l => ∀ (A642 : Option Addr) (cA642 : Nat), l.getD 1 undef = .slice A642 x639.length cA642 → l.getD 0 undef = .slice A642 x639.length cA642)⟩]) (by kernel_rfl) hz627 hd627 (by simp only [List.forall_mem_cons]; exact ⟨b627_A432, fun _ h => nomatch h⟩) ?_ ?_
        · refine steps_cons (fun own a wx hf hsl hE => ?_) ?_
          · obtain ⟨s_5, -⟩ := hsl
            exact sg_plain rfl rfl (or_move (s_5.trans e627_5))
          refine steps_cons (fun own a wx hf hsl hE => ?_) ?_
          · obtain ⟨s_0, -⟩ := hsl
            exact sg_plain rfl rfl (or_move (s_0.trans e627_0))
          refine steps_cons (fun own a wx hf hsl hE => ?_) ?_
          · obtain ⟨s_7, -⟩ := hsl
            exact sg_plain rfl rfl (or_move (s_7.trans e627_7))
          refine steps_cons (fun own a wx hf hsl hE => ?_) ?_
          · obtain ⟨(f_34 : a.eval (.tmp 34) = .int .i64 i438), -⟩ := hf
            exact sg_plain rfl rfl (or_sub f_34 rfl rfl)
          refine steps_cons (fun own a wx hf hsl hE => ?_) ?_
          · obtain ⟨(f_33 : a.eval (.tmp 33) = .slice Al1 l1.length cl1), (f_35 : a.eval (.tmp 35) = .int .i64 (sb i438 1)), -⟩ := hf
            exact sg_plain rfl rfl (or_index (R := R37) (l := l1) tl26 f_33 f_35 (RdO.some_ b627_Al1 hx634) hx634)
          refine steps_cons (fun own a wx hf hsl hE => ?_) ?_
          · obtain ⟨(f_36 : a.eval (.tmp 36) = .pointer (some ((adr Al1).add ((sb i438 1 : Int).toNat * R37.s)))), -⟩ := hf
            exact sg_plain rfl rfl (or_load (l := E37.f x634) ta37 f_36 (RdO.cells (F := E37) (RdO.evo rfl hE b627_Al1) hx634) rfl)
          refine steps_cons (fun own a wx hf hsl hE => ?_) ?_
          · obtain ⟨(f_37 : a.eval (.tmp 37) = .agg #[.int .i64 x634.1, .int .i64 x634.2]), -⟩ := hf
            exact sg_plain rfl rfl (or_lit (lab := 636) (e := 37) (cs := #[.int .i64 x634.1, .int .i64 x634.2]) (F := E37) (or_new [(37, .agg #[.int .i64 x634.1, .int .i64 x634.2])] rfl rfl ⟨f_37, trivial⟩ (by kernel_rfl)) rfl rfl (show 1 ≤ maxLen by decide))
          refine steps_cons (fun own a wx hf hsl hE => ?_) ?_
          · obtain ⟨⟨⟨A635, cA635⟩, (f_38 : a.eval (.tmp 38) = .slice A635 [x634].length cA635), (b_A635 : RwO own 636 [] wx 37 R37 A635 cA635 [x634])⟩, -⟩ := hf
            exact sg_plain rfl rfl (or_litO (R := R37) (lab := 638) (labE := 636) (L := []) (e := 26) (e2 := 37) (xl := [x634]) [(38, .slice A635 [x634].length cA635)] rfl rfl ⟨f_38, trivial⟩ (by kernel_rfl) rfl b_A635 rfl)
          refine steps_cons (fun own a wx hf hsl hE => ?_) ?_
          · obtain ⟨(f_32 : a.eval (.tmp 32) = .slice A432 out434.length c433), ⟨⟨A637, cA637⟩, (f_39 : a.eval (.tmp 39) = .slice A637 [[x634]].length cA637), (b_A637 : RwN own 638 636 [] wx 26 37 R37 A637 cA637 [[x634]])⟩, (b_A432 : RwN own 435 436 [] wx 26 37 R37 A432 c433 out434), -⟩ := hf
            exact sg_plain rfl rfl (or_appendO (R := R37) (lab := 435) (labE := 436) (lab2 := 640) (lab3 := 641) (L := []) (L3 := []) tp23 f_32 b_A432 f_39 b_A637 hx639 (by decide) (by decide) (mem_of rfl) (mem_of rfl) (mem_of rfl) (by decide) (by decide) (by decide) (by decide) (by decide) (by decide) (by decide) rfl (by decide) (by decide))
          refine steps_cons (fun own a wx hf hsl hE => ?_) ?_
          · obtain ⟨⟨⟨A642, cA642⟩, (f_40 : a.eval (.tmp 40) = .slice A642 x639.length cA642), (b_A642 : RwN own 640 641 [] wx 26 37 R37 A642 cA642 x639)⟩, -⟩ := hf
            exact sg_plain rfl rfl (or_mono (f := Fct.val 5 (.slice A642 x639.length cA642)) (or_assign f_40) (fun own' a' w' v' hp h => fun _ _ h0' => by cases (f_40.symm.trans ((hp.2 40 (by decide)).symm.trans h0')); exact h))
          exact steps_nil
        intro own643 a643 w643 hd643 hz643 hk643 hf643 hE643
        have e643_0 : a643.eval (.tmp 0) = .slice Al1 l1.length cl1 := (hk643 0 rfl).trans e627_0
        have e643_3 : a643.eval (.tmp 3) = .pointer (some ⟨g328, 0, none⟩) := (hk643 3 rfl).trans e627_3
        have e643_7 : a643.eval (.tmp 7) = .int .i64 i438 := (hk643 7 rfl).trans e627_7
        have e643_8 : a643.eval (.tmp 8) = .bool r550 := (hk643 8 rfl).trans e627_8
        obtain ⟨⟨⟨A642, cA642⟩, (f_40 : a643.eval (.tmp 40) = .slice A642 x639.length cA642), (b_A642 : RwN own643 640 641 [] w643 26 37 R37 A642 cA642 x639)⟩, (q_5 : ∀ (A642 : Option Addr) (cA642 : Nat), a643.eval (.tmp 40) = .slice A642 x639.length cA642 → a643.eval (.tmp 5) = .slice A642 x639.length cA642), -⟩ := hf643 [8, 9] rfl
        have f_5 := q_5 _ _ f_40
        have e643_5 := f_5
        have hX643 := Evo.step hX627 (fun _ => Nat.le_refl 0) hE643 rfl
        have b643_Al1 := RdO.evo rfl hE643 b627_Al1
        have b643_g328 := BlkO.evo (by decide) hE643 b627_g328
        have b643_A642 := b_A642
        exact (K575 _ _ (rl [(640, 573), (641, 574)] own643) _ A642 cA642 hd643 hz643 e643_0 e643_3 e643_5 e643_7 e643_8 (Evo.rl_ hX643 (fun _ => Nat.le_refl 0) rfl) (RdO.rl_ (mm := [(640, 573), (641, 574)]) b643_Al1) (BlkO.rl_ (mm := [(640, 573), (641, 574)]) b643_g328) (RwN.rl_ (mm := [(640, 573), (641, 574)]) b643_A642) hs)
      refine fl_skip ?_
      exact (K575 _ _ (rl [(435, 573), (436, 574)] own627) _ A432 c433 hd627 hz627 e627_0 e627_3 e627_5 e627_7 e627_8 (Evo.rl_ hX627 (fun _ => Nat.le_refl 0) rfl) (RdO.rl_ (mm := [(435, 573), (436, 574)]) b627_Al1) (BlkO.rl_ (mm := [(435, 573), (436, 574)]) b627_g328) (RwN.rl_ (mm := [(435, 573), (436, 574)]) b627_A432) hs)
    refine fl_exit ?_
    refine hp543 _ _ _ rfl ?_
    replace hs := hz541 _ hs
    refine hp541 _ _ _ rfl ?_
    refine hx335 _ _ ?_
    refine hn333 _ _ ?_
    refine rg_plain_seq (n := 60) (rs := []) (own0 := own544) (K := [])
        (bs := [0, 1])
        (ds := [⟨[], [5], [], Fct.val 59 (.slice A432 out434.length c433)⟩,
        ⟨[0], [], [], Fct.val 4 (.slice A432 out434.length c433)⟩]) (by kernel_rfl) hz544 hd544 (fun _ h => nomatch h) ?_ ?_
    · refine steps_cons (fun own a wx hf hsl hE => ?_) ?_
      · obtain ⟨s_5, -⟩ := hsl
        exact sg_plain rfl rfl (or_move (s_5.trans e544_5))
      refine steps_cons (fun own a wx hf hsl hE => ?_) ?_
      · obtain ⟨(f_59 : a.eval (.tmp 59) = .slice A432 out434.length c433), -⟩ := hf
        exact sg_plain rfl rfl (or_assign f_59)
      exact steps_nil
    intro own644 a644 w644 hd644 hz644 hk644 hf644 hE644
    obtain ⟨(f_4 : a644.eval (.tmp 4) = .slice A432 out434.length c433), -⟩ := hf644 [1] rfl
    have e644_4 := f_4
    have hX644 := Evo.step hX544 (fun _ => Nat.le_refl 0) hE644 rfl
    have b644_A432 := RwN.evo rfl hE644 b544_A432
    refine fl_ret ?_
    obtain rfl := (osome hs).symm
    exact hret _ _ _ _ (.inl rfl) hd644 (results1_ rfl (RVal.tmp_ e644_4)) ⟨(rl [(435, 1), (436, 2)] own644), (A432, c433), rfl, (Evo.rl_ hX644 (fun _ => Nat.le_refl 0) rfl), (RwO.rl_ (mm := [(435, 1), (436, 2)]) (RwN.rw_ b644_A432 (by decide)))⟩

end Go.Proofs.Ythjcpojcpafbjaa
