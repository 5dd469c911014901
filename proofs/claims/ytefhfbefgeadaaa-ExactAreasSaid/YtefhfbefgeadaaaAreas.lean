/-
  The law ExactAreas: whatever the input, the call returns true, and nothing that was there turns. Conditions: none.
-/
import Derived.Test.YtefhfbefgeadaaaTy
import Derived.Test.YtefhfbefgeadaaaKnown01
import Derived.Test.YtefhfbefgeadaaaRef3
import Derived.Test.YtefhfbefgeadaaaFrame
namespace Go.Proofs.Ytefhfbefgeadaaa
open Go.RowKit

theorem areas_eq {x y : Int} (h : x = y) : (x == y) = true := by simp [h]
theorem turn_signZ (a b c : Pt) : turn a b c = signZ (cross a b c) := rfl
set_option maxHeartbeats 4000000 in
theorem exactAreas_core (ax ay bx bY cx cy : Int) (w : World)  :
    Calls Try.prog 4 #[.agg #[.int .i64 ax, .int .i64 ay], .agg #[.int .i64 bx, .int .i64 bY], .agg #[.int .i64 cx, .int .i64 cy]] w fun e w' => e = .returned (.bool true) ∧ Below w.heap.size w w' := by
  have hR0 : rightAll [] = true := rfl
  refine fl_enter (n := 74) (fun a => a.eval (.tmp 6)) Try.func4 rfl rfl (by simp) (res1 rfl) (fun a0 Q0 hd0 hz0 hA hret hend => ?_)
  have e0_0 : a0.eval (.tmp 0) = .agg #[.int .i64 ax, .int .i64 ay] := hA 0 _ rfl
  have e0_1 : a0.eval (.tmp 1) = .agg #[.int .i64 bx, .int .i64 bY] := hA 1 _ rfl
  have e0_2 : a0.eval (.tmp 2) = .agg #[.int .i64 cx, .int .i64 cy] := hA 2 _ rfl
  clear hA
  have hB0 := Below.refl w.heap.size w
  have hX0 : Ext (fun _ => False) w w := Ext.refl _ _
  refine rg_plain_seq (n := 74) (pu := false) (kl := []) (rs := []) (oth := 4) (own0 := (fun _ => 4))
      (bs := [0, 0, 0, 0])
      (ds := [⟨[], [0], Fct.blk 0 3 w.heap.size (fun g => .pointer (some ⟨g, 0, none⟩)) 29 #[.int .i64 ax, .int .i64 ay]⟩,
      ⟨[], [1], Fct.blk 1 4 w.heap.size (fun g => .pointer (some ⟨g, 0, none⟩)) 29 #[.int .i64 bx, .int .i64 bY]⟩,
      ⟨[], [2], Fct.blk 2 5 w.heap.size (fun g => .pointer (some ⟨g, 0, none⟩)) 29 #[.int .i64 cx, .int .i64 cy]⟩,
      ⟨[], [], Fct.val 3 6 (.bool false)⟩]) (by kernel_rfl) hz0 hd0 (fun _ h => nomatch h) ?_ ?_
  · refine steps_cons (fun own a wx hf hs hE hO => ?_) ?_
    · obtain ⟨s0, -⟩ := hs
      exact sg_plain rfl (or_new [(0, .agg #[.int .i64 ax, .int .i64 ay])] rfl rfl ⟨(s0.trans e0_0), trivial⟩ rfl hE.size (by kernel_rfl))
    refine steps_cons (fun own a wx hf hs hE hO => ?_) ?_
    · obtain ⟨s1, -⟩ := hs
      exact sg_plain rfl (or_new [(1, .agg #[.int .i64 bx, .int .i64 bY])] rfl rfl ⟨(s1.trans e0_1), trivial⟩ rfl hE.size (by kernel_rfl))
    refine steps_cons (fun own a wx hf hs hE hO => ?_) ?_
    · obtain ⟨s2, -⟩ := hs
      exact sg_plain rfl (or_new [(2, .agg #[.int .i64 cx, .int .i64 cy])] rfl rfl ⟨(s2.trans e0_2), trivial⟩ rfl hE.size (by kernel_rfl))
    refine steps_cons (fun own a wx hf hs hE hO => ?_) ?_
    · exact sg_plain rfl (or_assign rfl)
    exact steps_nil
  intro owna4 a4 w5 hda4 hza4 hsa4 hfa4 hEa4 hOa4 hpa4
  obtain ⟨(ea4_6 : a4.eval (.tmp 6) = .bool false), ⟨g1, (ea4_3 : a4.eval (.tmp 3) = .pointer (some ⟨g1, 0, none⟩)), (og1_a4 : owna4 g1 = 0), (lg1_a4 : w.heap.size ≤ g1), (bg1_w5 : Blk w5 g1 29 #[.int .i64 ax, .int .i64 ay])⟩, ⟨g2, (ea4_4 : a4.eval (.tmp 4) = .pointer (some ⟨g2, 0, none⟩)), (og2_a4 : owna4 g2 = 1), (lg2_a4 : w.heap.size ≤ g2), (bg2_w5 : Blk w5 g2 29 #[.int .i64 bx, .int .i64 bY])⟩, ⟨g3, (ea4_5 : a4.eval (.tmp 5) = .pointer (some ⟨g3, 0, none⟩)), (og3_a4 : owna4 g3 = 2), (lg3_a4 : w.heap.size ≤ g3), (bg3_w5 : Blk w5 g3 29 #[.int .i64 cx, .int .i64 cy])⟩, -⟩ := hfa4 [3, 0, 1, 2] rfl
  have ng1_g2 : g1 ≠ g2 := fun h => by rw [h] at og1_a4; exact absurd (og1_a4.symm.trans og2_a4) (by decide)
  have ng1_g3 : g1 ≠ g3 := fun h => by rw [h] at og1_a4; exact absurd (og1_a4.symm.trans og3_a4) (by decide)
  have ng2_g3 : g2 ≠ g3 := fun h => by rw [h] at og2_a4; exact absurd (og2_a4.symm.trans og3_a4) (by decide)
  have hNa4 : Ext (fun _ => False) w w5 := hEa4.mono_ (fun _ h => h rfl)
  have hXw5_w := hX0.trans_ hNa4 (fun b hb h1 h2 => by exact h2)
  have hBw5 : Below w.heap.size w w5 := hXw5_w.below (Nat.le_refl _) (fun _ _ h => h)
  have kg1_a4 := Nat.le_trans hB0.size lg1_a4
  have tg1_a4 := bg1_w5.lt
  have kg2_a4 := Nat.le_trans hB0.size lg2_a4
  have tg2_a4 := bg2_w5.lt
  have kg3_a4 := Nat.le_trans hB0.size lg3_a4
  have tg3_a4 := bg3_w5.lt
  clear hEa4 hOa4 hpa4 hfa4 hsa4
  refine rg_draw_seq g_mixed (n := 74) (pu := false) (kl := [(9, 6), (10, 7), (11, 8)]) (rs := []) (oth := 12) (own0 := (fun _ => 12))
      (bs := [0, 1, 0, 7, 0, 31, 0, 0, 0, 511, 1023, 2047])
      (ds := [⟨[], [3], Fct.val 0 11 (.agg #[.int .i64 ax, .int .i64 ay])⟩,
      ⟨[0], [], Fct.val 1 12 (.agg #[.int .i64 ax, .int .i64 ay])⟩,
      ⟨[], [4], Fct.val 2 13 (.agg #[.int .i64 bx, .int .i64 bY])⟩,
      ⟨[2], [], Fct.val 3 14 (.agg #[.int .i64 bx, .int .i64 bY])⟩,
      ⟨[], [5], Fct.val 4 15 (.agg #[.int .i64 cx, .int .i64 cy])⟩,
      ⟨[4], [], Fct.val 5 16 (.agg #[.int .i64 cx, .int .i64 cy])⟩,
      ⟨[], [], Fct.blk 6 7 w5.heap.size (fun g => .pointer (some ⟨g, 0, none⟩)) 30 #[.int .i64 0, .int .i64 0]⟩,
      ⟨[], [], Fct.blk 7 8 w5.heap.size (fun g => .pointer (some ⟨g, 0, none⟩)) 30 #[.int .i64 0, .int .i64 0]⟩,
      ⟨[], [], Fct.blk 8 9 w5.heap.size (fun g => .pointer (some ⟨g, 0, none⟩)) 30 #[.int .i64 0, .int .i64 0]⟩,
      ⟨[6, 1], [], Fct.blk 9 7 w5.heap.size (fun g => .pointer (some ⟨g, 0, none⟩)) 30 #[.int .i64 ax, .int .i64 ay]⟩,
      ⟨[7, 3], [], Fct.blk 10 8 w5.heap.size (fun g => .pointer (some ⟨g, 0, none⟩)) 30 #[.int .i64 bx, .int .i64 bY]⟩,
      ⟨[8, 5], [], Fct.blk 11 9 w5.heap.size (fun g => .pointer (some ⟨g, 0, none⟩)) 30 #[.int .i64 cx, .int .i64 cy]⟩]) (by kernel_rfl) hza4 hda4 (fun _ h => nomatch h) ?_ ?_
  · refine steps_cons (fun own a wx hf hs hE hO => ?_) ?_
    · obtain ⟨s3, -⟩ := hs
      exact sg_plain rfl (or_load ta29 (s3.trans ea4_3) (Blk.cellsFrom (hE.blk bg1_w5 (fun h => h rfl)) 0 rfl) rfl)
    refine steps_cons (fun own a wx hf hs hE hO => ?_) ?_
    · obtain ⟨(f11 : a.eval (.tmp 11) = .agg #[.int .i64 ax, .int .i64 ay]), -⟩ := hf
      exact sg_plain rfl (or_call cf16 (args1 f11) (of_any _ _ _) (post_val rfl))
    refine steps_cons (fun own a wx hf hs hE hO => ?_) ?_
    · obtain ⟨s4, -⟩ := hs
      exact sg_plain rfl (or_load ta29 (s4.trans ea4_4) (Blk.cellsFrom (hE.blk bg2_w5 (fun h => h rfl)) 0 rfl) rfl)
    refine steps_cons (fun own a wx hf hs hE hO => ?_) ?_
    · obtain ⟨(f13 : a.eval (.tmp 13) = .agg #[.int .i64 bx, .int .i64 bY]), -⟩ := hf
      exact sg_plain rfl (or_call cf16 (args1 f13) (of_any _ _ _) (post_val rfl))
    refine steps_cons (fun own a wx hf hs hE hO => ?_) ?_
    · obtain ⟨s5, -⟩ := hs
      exact sg_plain rfl (or_load ta29 (s5.trans ea4_5) (Blk.cellsFrom (hE.blk bg3_w5 (fun h => h rfl)) 0 rfl) rfl)
    refine steps_cons (fun own a wx hf hs hE hO => ?_) ?_
    · obtain ⟨(f15 : a.eval (.tmp 15) = .agg #[.int .i64 cx, .int .i64 cy]), -⟩ := hf
      exact sg_plain rfl (or_call cf16 (args1 f15) (of_any _ _ _) (post_val rfl))
    refine steps_cons (fun own a wx hf hs hE hO => ?_) ?_
    · exact sg_plain rfl (or_new [] rfl rfl trivial rfl hE.size (by kernel_rfl))
    refine steps_cons (fun own a wx hf hs hE hO => ?_) ?_
    · exact sg_plain rfl (or_new [] rfl rfl trivial rfl hE.size (by kernel_rfl))
    refine steps_cons (fun own a wx hf hs hE hO => ?_) ?_
    · exact sg_plain rfl (or_new [] rfl rfl trivial rfl hE.size (by kernel_rfl))
    refine steps_cons (fun own a wx hf hs hE hO => ?_) ?_
    · obtain ⟨⟨g6, (f7 : a.eval (.tmp 7) = .pointer (some ⟨g6, 0, none⟩)), og6, lg6, bg6⟩, (f12 : a.eval (.tmp 12) = .agg #[.int .i64 ax, .int .i64 ay]), -⟩ := hf
      exact sg_plain rfl (or_store (l := #[.int .i64 ax, .int .i64 ay]) ts30 rfl f7 f12 bg6 (by simp) (by kernel_rfl) (by rw [og6]; decide) (by kernel_rfl) (fun own' a' w' ho ha hb => ⟨_, (ha 7).trans f7, ho, lg6, hb⟩))
    refine steps_cons (fun own a wx hf hs hE hO => ?_) ?_
    · obtain ⟨⟨g7, (f8 : a.eval (.tmp 8) = .pointer (some ⟨g7, 0, none⟩)), og7, lg7, bg7⟩, (f14 : a.eval (.tmp 14) = .agg #[.int .i64 bx, .int .i64 bY]), -⟩ := hf
      exact sg_plain rfl (or_store (l := #[.int .i64 bx, .int .i64 bY]) ts30 rfl f8 f14 bg7 (by simp) (by kernel_rfl) (by rw [og7]; decide) (by kernel_rfl) (fun own' a' w' ho ha hb => ⟨_, (ha 8).trans f8, ho, lg7, hb⟩))
    refine steps_cons (fun own a wx hf hs hE hO => ?_) ?_
    · obtain ⟨⟨g8, (f9 : a.eval (.tmp 9) = .pointer (some ⟨g8, 0, none⟩)), og8, lg8, bg8⟩, (f16 : a.eval (.tmp 16) = .agg #[.int .i64 cx, .int .i64 cy]), -⟩ := hf
      exact sg_plain rfl (or_store (l := #[.int .i64 cx, .int .i64 cy]) ts30 rfl f9 f16 bg8 (by simp) (by kernel_rfl) (by rw [og8]; decide) (by kernel_rfl) (fun own' a' w' ho ha hb => ⟨_, (ha 9).trans f9, ho, lg8, hb⟩))
    exact steps_nil
  intro owna9 a9 w10 hda9 hza9 hsa9 hfa9 hEa9 hOa9 hpa9
  have ea9_6 : a9.eval (.tmp 6) = .bool false := (hsa9 6 rfl).trans ea4_6
  have ea9_3 : a9.eval (.tmp 3) = .pointer (some ⟨g1, 0, none⟩) := (hsa9 3 rfl).trans ea4_3
  have ea9_4 : a9.eval (.tmp 4) = .pointer (some ⟨g2, 0, none⟩) := (hsa9 4 rfl).trans ea4_4
  have ea9_5 : a9.eval (.tmp 5) = .pointer (some ⟨g3, 0, none⟩) := (hsa9 5 rfl).trans ea4_5
  obtain ⟨⟨g6, (ea9_7 : a9.eval (.tmp 7) = .pointer (some ⟨g6, 0, none⟩)), (og6_a9 : owna9 g6 = 9), (lg6_a9 : w5.heap.size ≤ g6), (bg6_w10 : Blk w10 g6 30 #[.int .i64 ax, .int .i64 ay])⟩, ⟨g7, (ea9_8 : a9.eval (.tmp 8) = .pointer (some ⟨g7, 0, none⟩)), (og7_a9 : owna9 g7 = 10), (lg7_a9 : w5.heap.size ≤ g7), (bg7_w10 : Blk w10 g7 30 #[.int .i64 bx, .int .i64 bY])⟩, ⟨g8, (ea9_9 : a9.eval (.tmp 9) = .pointer (some ⟨g8, 0, none⟩)), (og8_a9 : owna9 g8 = 11), (lg8_a9 : w5.heap.size ≤ g8), (bg8_w10 : Blk w10 g8 30 #[.int .i64 cx, .int .i64 cy])⟩, -⟩ := hfa9 [9, 10, 11] rfl
  have ng6_g7 : g6 ≠ g7 := fun h => by rw [h] at og6_a9; exact absurd (og6_a9.symm.trans og7_a9) (by decide)
  have ng6_g8 : g6 ≠ g8 := fun h => by rw [h] at og6_a9; exact absurd (og6_a9.symm.trans og8_a9) (by decide)
  have ng7_g8 : g7 ≠ g8 := fun h => by rw [h] at og7_a9; exact absurd (og7_a9.symm.trans og8_a9) (by decide)
  have hNa9 : Ext (fun _ => False) w5 w10 := hEa9.mono_ (fun _ h => h rfl)
  have bg1_w10 := hNa9.blk bg1_w5 (fun h => h)
  have bg2_w10 := hNa9.blk bg2_w5 (fun h => h)
  have bg3_w10 := hNa9.blk bg3_w5 (fun h => h)
  have hXw10_w := hXw5_w.trans_ hNa9 (fun b hb h1 h2 => by exact h2)
  have hBw10 : Below w.heap.size w w10 := hXw10_w.below (Nat.le_refl _) (fun _ _ h => h)
  have kg6_a9 := Nat.le_trans hBw5.size lg6_a9
  have tg6_a9 := bg6_w10.lt
  have kg7_a9 := Nat.le_trans hBw5.size lg7_a9
  have tg7_a9 := bg7_w10.lt
  have kg8_a9 := Nat.le_trans hBw5.size lg8_a9
  have tg8_a9 := bg8_w10.lt
  clear hEa9 hOa9 hpa9 hfa9 hsa9
  refine rg_plain_seq (n := 74) (pu := true) (kl := []) (rs := []) (oth := 1) (own0 := (fun _ => 1))
      (bs := [0])
      (ds := [⟨[], [], Fct.val 0 10 (.int .i64 0)⟩]) (by kernel_rfl) hza9 hda9 (fun _ h => nomatch h) ?_ ?_
  · refine steps_cons (fun own a wx hf hs hE hO => ?_) ?_
    · exact sg_plain rfl (or_assign rfl)
    exact steps_nil
  intro owna11 a11 w12 hda11 hza11 hsa11 hfa11 hEa11 hOa11 hpa11
  have ea11_6 : a11.eval (.tmp 6) = .bool false := (hsa11 6 rfl).trans ea9_6
  have ea11_3 : a11.eval (.tmp 3) = .pointer (some ⟨g1, 0, none⟩) := (hsa11 3 rfl).trans ea9_3
  have ea11_4 : a11.eval (.tmp 4) = .pointer (some ⟨g2, 0, none⟩) := (hsa11 4 rfl).trans ea9_4
  have ea11_5 : a11.eval (.tmp 5) = .pointer (some ⟨g3, 0, none⟩) := (hsa11 5 rfl).trans ea9_5
  have ea11_7 : a11.eval (.tmp 7) = .pointer (some ⟨g6, 0, none⟩) := (hsa11 7 rfl).trans ea9_7
  have ea11_8 : a11.eval (.tmp 8) = .pointer (some ⟨g7, 0, none⟩) := (hsa11 8 rfl).trans ea9_8
  have ea11_9 : a11.eval (.tmp 9) = .pointer (some ⟨g8, 0, none⟩) := (hsa11 9 rfl).trans ea9_9
  obtain ⟨(ea11_10 : a11.eval (.tmp 10) = .int .i64 0), -⟩ := hfa11 [0] rfl
  have hwa11 : w10 = w12 := (hpa11 rfl).symm
  clear hEa11 hOa11 hpa11 hfa11 hsa11
  subst hwa11
  refine fl_seq (fun Q13 hn13 hp13 => ?_)
  rcases Bool.eq_false_or_eq_true (rightB (ax, ay)) with c14 | c14
  · rcases Bool.eq_false_or_eq_true (rightB (bx, bY)) with c15 | c15
    · refine rg_plain_seq (n := 74) (pu := false) (kl := []) (rs := []) (oth := 10) (own0 := (fun _ => 10))
          (bs := [0, 1, 3, 7, 15, 31, 63, 127, 255, 511])
          (ds := [⟨[], [7], Fct.val 0 17 (.agg #[.int .i64 ax, .int .i64 ay])⟩,
          ⟨[0], [], Fct.val 1 18 (.bool true)⟩,
          ⟨[1], [], Fct.val 2 19 (.bool true)⟩,
          ⟨[2], [8], Fct.val 3 20 (.agg #[.int .i64 bx, .int .i64 bY])⟩,
          ⟨[2, 3], [], Fct.val 4 21 (.bool true)⟩,
          ⟨[2, 4], [], Fct.val 5 22 (.bool true)⟩,
          ⟨[5], [], Fct.val 6 23 (.bool true)⟩,
          ⟨[6], [9], Fct.val 7 24 (.agg #[.int .i64 cx, .int .i64 cy])⟩,
          ⟨[6, 7], [], Fct.val 8 25 (.bool (rightB (cx, cy)))⟩,
          ⟨[6, 8], [], Fct.val 9 26 (.bool (rightB (cx, cy)))⟩]) (by kernel_rfl) hza11 hda11 (fun _ h => nomatch h) ?_ ?_
      · refine steps_cons (fun own a wx hf hs hE hO => ?_) ?_
        · obtain ⟨s7, -⟩ := hs
          exact sg_plain rfl (or_load ta30 (s7.trans ea11_7) (Blk.cellsFrom (hE.blk bg6_w10 (fun h => h rfl)) 0 rfl) rfl)
        refine steps_cons (fun own a wx hf hs hE hO => ?_) ?_
        · obtain ⟨(f17 : a.eval (.tmp 17) = .agg #[.int .i64 ax, .int .i64 ay]), -⟩ := hf
          exact sg_plain rfl (or_call cf17 (args1 f17) ((may_any _ _ _).mono fun _ _ hh => ⟨hh.1.trans (congrArg (fun b => Ending.returned (.bool b)) c14), hh.2⟩) (post_val rfl))
        refine steps_cons (fun own a wx hf hs hE hO => ?_) ?_
        · obtain ⟨(f18 : a.eval (.tmp 18) = .bool true), -⟩ := hf
          exact sg_plain rfl (or_move f18)
        refine steps_cons (fun own a wx hf hs hE hO => ?_) ?_
        · obtain ⟨(f19 : a.eval (.tmp 19) = .bool true), -⟩ := hf
          obtain ⟨s8, -⟩ := hs
          exact sg_yes rfl rfl f19 (or_load ta30 (s8.trans ea11_8) (Blk.cellsFrom (hE.blk bg7_w10 (fun h => h rfl)) 0 rfl) rfl)
        refine steps_cons (fun own a wx hf hs hE hO => ?_) ?_
        · obtain ⟨(f19 : a.eval (.tmp 19) = .bool true), (f20 : a.eval (.tmp 20) = .agg #[.int .i64 bx, .int .i64 bY]), -⟩ := hf
          exact sg_yes rfl rfl f19 (or_call cf17 (args1 f20) ((may_any _ _ _).mono fun _ _ hh => ⟨hh.1.trans (congrArg (fun b => Ending.returned (.bool b)) c15), hh.2⟩) (post_val rfl))
        refine steps_cons (fun own a wx hf hs hE hO => ?_) ?_
        · obtain ⟨(f19 : a.eval (.tmp 19) = .bool true), (f21 : a.eval (.tmp 21) = .bool true), -⟩ := hf
          exact sg_plain rfl (or_pick_t f19 f21)
        refine steps_cons (fun own a wx hf hs hE hO => ?_) ?_
        · obtain ⟨(f22 : a.eval (.tmp 22) = .bool true), -⟩ := hf
          exact sg_plain rfl (or_move f22)
        refine steps_cons (fun own a wx hf hs hE hO => ?_) ?_
        · obtain ⟨(f23 : a.eval (.tmp 23) = .bool true), -⟩ := hf
          obtain ⟨s9, -⟩ := hs
          exact sg_yes rfl rfl f23 (or_load ta30 (s9.trans ea11_9) (Blk.cellsFrom (hE.blk bg8_w10 (fun h => h rfl)) 0 rfl) rfl)
        refine steps_cons (fun own a wx hf hs hE hO => ?_) ?_
        · obtain ⟨(f23 : a.eval (.tmp 23) = .bool true), (f24 : a.eval (.tmp 24) = .agg #[.int .i64 cx, .int .i64 cy]), -⟩ := hf
          exact sg_yes rfl rfl f23 (or_call cf17 (args1 f24) (may_any _ _ _) (post_val rfl))
        refine steps_cons (fun own a wx hf hs hE hO => ?_) ?_
        · obtain ⟨(f23 : a.eval (.tmp 23) = .bool true), (f25 : a.eval (.tmp 25) = .bool (rightB (cx, cy))), -⟩ := hf
          exact sg_plain rfl (or_pick_t f23 f25)
        exact steps_nil
      intro owna16 a16 w17 hda16 hza16 hsa16 hfa16 hEa16 hOa16 hpa16
      have ea16_6 : a16.eval (.tmp 6) = .bool false := (hsa16 6 rfl).trans ea11_6
      have ea16_3 : a16.eval (.tmp 3) = .pointer (some ⟨g1, 0, none⟩) := (hsa16 3 rfl).trans ea11_3
      have ea16_4 : a16.eval (.tmp 4) = .pointer (some ⟨g2, 0, none⟩) := (hsa16 4 rfl).trans ea11_4
      have ea16_5 : a16.eval (.tmp 5) = .pointer (some ⟨g3, 0, none⟩) := (hsa16 5 rfl).trans ea11_5
      have ea16_7 : a16.eval (.tmp 7) = .pointer (some ⟨g6, 0, none⟩) := (hsa16 7 rfl).trans ea11_7
      have ea16_8 : a16.eval (.tmp 8) = .pointer (some ⟨g7, 0, none⟩) := (hsa16 8 rfl).trans ea11_8
      have ea16_9 : a16.eval (.tmp 9) = .pointer (some ⟨g8, 0, none⟩) := (hsa16 9 rfl).trans ea11_9
      have ea16_10 : a16.eval (.tmp 10) = .int .i64 0 := (hsa16 10 rfl).trans ea11_10
      obtain ⟨(ea16_26 : a16.eval (.tmp 26) = .bool (rightB (cx, cy))), -⟩ := hfa16 [9] rfl
      have hNa16 : Ext (fun _ => False) w10 w17 := hEa16.mono_ (fun _ h => h rfl)
      have bg1_w17 := hNa16.blk bg1_w10 (fun h => h)
      have bg2_w17 := hNa16.blk bg2_w10 (fun h => h)
      have bg3_w17 := hNa16.blk bg3_w10 (fun h => h)
      have bg6_w17 := hNa16.blk bg6_w10 (fun h => h)
      have bg7_w17 := hNa16.blk bg7_w10 (fun h => h)
      have bg8_w17 := hNa16.blk bg8_w10 (fun h => h)
      have hXw17_w := hXw10_w.trans_ hNa16 (fun b hb h1 h2 => by exact h2)
      have hBw17 : Below w.heap.size w w17 := hXw17_w.below (Nat.le_refl _) (fun _ _ h => h)
      clear hEa16 hOa16 hpa16 hfa16 hsa16
      refine fl_cond ea16_26 (fun c18 => ?_) (fun c18 => ?_)
      · refine rg_plain (n := 74) (pu := false) (kl := []) (rs := []) (oth := 5) (own0 := (fun _ => 5))
            (bs := [0, 0, 0, 7, 15])
            (ds := [⟨[], [7], Fct.val 0 27 (.agg #[.int .i64 ax, .int .i64 ay])⟩,
            ⟨[], [8], Fct.val 1 28 (.agg #[.int .i64 bx, .int .i64 bY])⟩,
            ⟨[], [9], Fct.val 2 29 (.agg #[.int .i64 cx, .int .i64 cy])⟩,
            ⟨[0, 1, 2], [], Fct.val 3 30 (.int .i64 (crossZ (ax, ay) (bx, bY) (cx, cy)))⟩,
            ⟨[3], [], Fct.val 4 10 (.int .i64 (crossZ (ax, ay) (bx, bY) (cx, cy)))⟩]) (by kernel_rfl) hza16 hda16 (fun _ h => nomatch h) ?_ ?_
        · refine steps_cons (fun own a wx hf hs hE hO => ?_) ?_
          · obtain ⟨s7, -⟩ := hs
            exact sg_plain rfl (or_load ta30 (s7.trans ea16_7) (Blk.cellsFrom (hE.blk bg6_w17 (fun h => h rfl)) 0 rfl) rfl)
          refine steps_cons (fun own a wx hf hs hE hO => ?_) ?_
          · obtain ⟨s8, -⟩ := hs
            exact sg_plain rfl (or_load ta30 (s8.trans ea16_8) (Blk.cellsFrom (hE.blk bg7_w17 (fun h => h rfl)) 0 rfl) rfl)
          refine steps_cons (fun own a wx hf hs hE hO => ?_) ?_
          · obtain ⟨s9, -⟩ := hs
            exact sg_plain rfl (or_load ta30 (s9.trans ea16_9) (Blk.cellsFrom (hE.blk bg8_w17 (fun h => h rfl)) 0 rfl) rfl)
          refine steps_cons (fun own a wx hf hs hE hO => ?_) ?_
          · obtain ⟨(f27 : a.eval (.tmp 27) = .agg #[.int .i64 ax, .int .i64 ay]), (f28 : a.eval (.tmp 28) = .agg #[.int .i64 bx, .int .i64 bY]), (f29 : a.eval (.tmp 29) = .agg #[.int .i64 cx, .int .i64 cy]), -⟩ := hf
            exact sg_plain rfl (or_call cf18 (args3 f27 f28 f29) (refCross_any _ _ _ _ _ _ _ (by assumption) (by assumption) (by assumption)) (post_val rfl))
          refine steps_cons (fun own a wx hf hs hE hO => ?_) ?_
          · obtain ⟨(f30 : a.eval (.tmp 30) = .int .i64 (crossZ (ax, ay) (bx, bY) (cx, cy))), -⟩ := hf
            exact sg_plain rfl (or_assign f30)
          exact steps_nil
        intro owna19 a19 w20 hda19 hza19 hsa19 hfa19 hEa19 hOa19 hpa19
        have ea19_6 : a19.eval (.tmp 6) = .bool false := (hsa19 6 rfl).trans ea16_6
        have ea19_3 : a19.eval (.tmp 3) = .pointer (some ⟨g1, 0, none⟩) := (hsa19 3 rfl).trans ea16_3
        have ea19_4 : a19.eval (.tmp 4) = .pointer (some ⟨g2, 0, none⟩) := (hsa19 4 rfl).trans ea16_4
        have ea19_5 : a19.eval (.tmp 5) = .pointer (some ⟨g3, 0, none⟩) := (hsa19 5 rfl).trans ea16_5
        have ea19_7 : a19.eval (.tmp 7) = .pointer (some ⟨g6, 0, none⟩) := (hsa19 7 rfl).trans ea16_7
        have ea19_8 : a19.eval (.tmp 8) = .pointer (some ⟨g7, 0, none⟩) := (hsa19 8 rfl).trans ea16_8
        have ea19_9 : a19.eval (.tmp 9) = .pointer (some ⟨g8, 0, none⟩) := (hsa19 9 rfl).trans ea16_9
        obtain ⟨(ea19_10 : a19.eval (.tmp 10) = .int .i64 (crossZ (ax, ay) (bx, bY) (cx, cy))), -⟩ := hfa19 [4] rfl
        have hNa19 : Ext (fun _ => False) w17 w20 := hEa19.mono_ (fun _ h => h rfl)
        have bg1_w20 := hNa19.blk bg1_w17 (fun h => h)
        have bg2_w20 := hNa19.blk bg2_w17 (fun h => h)
        have bg3_w20 := hNa19.blk bg3_w17 (fun h => h)
        have bg6_w20 := hNa19.blk bg6_w17 (fun h => h)
        have bg7_w20 := hNa19.blk bg7_w17 (fun h => h)
        have bg8_w20 := hNa19.blk bg8_w17 (fun h => h)
        have hXw20_w := hXw17_w.trans_ hNa19 (fun b hb h1 h2 => by exact h2)
        have hBw20 : Below w.heap.size w w20 := hXw20_w.below (Nat.le_refl _) (fun _ _ h => h)
        clear hEa19 hOa19 hpa19 hfa19 hsa19
        refine hn13 _ _ ?_
        refine rg_draw_seq g_mixed (n := 74) (pu := false) (kl := []) (rs := []) (oth := 44) (own0 := (fun _ => 44))
            (bs := [0, 1, 3, 3, 3, 31, 63, 3, 3, 3, 899, 2047, 4095, 8191, 16383, 32767, 65535, 131071, 262143, 262143, 1048575, 262143, 262143, 8388607, 16777215, 33554431, 67108863, 134217727, 134217727, 134217727, 1073741823, 134217727, 4294967295, 8589934591, 17179869183, 34359738367, 34359738367, 34359738367, 274877906943, 34359738367, 1099511627775, 2199023255551, 4398046511103, 8796093022207])
            (ds := [⟨[], [], Fct.val 0 31 (.bool true)⟩,
            ⟨[0], [], Fct.val 1 32 (.bool true)⟩,
            ⟨[1], [3], Fct.val 2 33 (.agg #[.int .i64 ax, .int .i64 ay])⟩,
            ⟨[1], [4], Fct.val 3 34 (.agg #[.int .i64 bx, .int .i64 bY])⟩,
            ⟨[1], [5], Fct.val 4 35 (.agg #[.int .i64 cx, .int .i64 cy])⟩,
            ⟨[1, 2, 3, 4], [], Fct.blk 5 36 w20.heap.size (fun g => .slice (some ⟨g, 0, none⟩) 3 3) 29 #[.int .i64 ax, .int .i64 ay, .int .i64 bx, .int .i64 bY, .int .i64 cx, .int .i64 cy]⟩,
            ⟨[1, 5], [], Fct.val 6 37 (.bool (rightAll [(ax, ay), (bx, bY), (cx, cy)]))⟩,
            ⟨[1], [7], Fct.val 7 38 (.agg #[.int .i64 ax, .int .i64 ay])⟩,
            ⟨[1], [8], Fct.val 8 39 (.agg #[.int .i64 bx, .int .i64 bY])⟩,
            ⟨[1], [9], Fct.val 9 40 (.agg #[.int .i64 cx, .int .i64 cy])⟩,
            ⟨[1, 7, 8, 9], [], Fct.blk 10 41 w20.heap.size (fun g => .slice (some ⟨g, 0, none⟩) 3 3) 30 #[.int .i64 ax, .int .i64 ay, .int .i64 bx, .int .i64 bY, .int .i64 cx, .int .i64 cy]⟩,
            ⟨[1, 10], [], Fct.val 11 42 (.bool (rightAll [(ax, ay), (bx, bY), (cx, cy)]))⟩,
            ⟨[1, 6, 11], [], Fct.val 12 43 (.bool true)⟩,
            ⟨[1, 12], [], Fct.val 13 44 (.bool true)⟩,
            ⟨[13], [], Fct.val 14 45 (.bool true)⟩,
            ⟨[14], [], Fct.val 15 46 (.bool true)⟩,
            ⟨[14, 15], [], Fct.val 16 47 (.bool true)⟩,
            ⟨[16], [], Fct.val 17 48 (.bool true)⟩,
            ⟨[17], [3], Fct.val 18 49 (.agg #[.int .i64 ax, .int .i64 ay])⟩,
            ⟨[17], [4], Fct.val 19 50 (.agg #[.int .i64 bx, .int .i64 bY])⟩,
            ⟨[17, 18, 19], [], Fct.val 20 51 (.bool (lessB (ax, ay) (bx, bY)))⟩,
            ⟨[17], [7], Fct.val 21 52 (.agg #[.int .i64 ax, .int .i64 ay])⟩,
            ⟨[17], [8], Fct.val 22 53 (.agg #[.int .i64 bx, .int .i64 bY])⟩,
            ⟨[17, 21, 22], [], Fct.val 23 54 (.bool (lessB (ax, ay) (bx, bY)))⟩,
            ⟨[17, 20, 23], [], Fct.val 24 55 (.bool true)⟩,
            ⟨[17, 24], [], Fct.val 25 56 (.bool true)⟩,
            ⟨[25], [], Fct.val 26 57 (.bool true)⟩,
            ⟨[26], [3], Fct.val 27 58 (.agg #[.int .i64 ax, .int .i64 ay])⟩,
            ⟨[26], [4], Fct.val 28 59 (.agg #[.int .i64 bx, .int .i64 bY])⟩,
            ⟨[26], [5], Fct.val 29 60 (.agg #[.int .i64 cx, .int .i64 cy])⟩,
            ⟨[26, 27, 28, 29], [], Fct.val 30 61 (.int .i64 (cross (ax, ay) (bx, bY) (cx, cy)))⟩,
            ⟨[26], [10], Fct.val 31 62 (.int .i64 (crossZ (ax, ay) (bx, bY) (cx, cy)))⟩,
            ⟨[26, 30, 31], [], Fct.val 32 63 (.bool true)⟩,
            ⟨[26, 32], [], Fct.val 33 64 (.bool true)⟩,
            ⟨[33], [], Fct.val 34 65 (.bool true)⟩,
            ⟨[34], [3], Fct.val 35 66 (.agg #[.int .i64 ax, .int .i64 ay])⟩,
            ⟨[34], [4], Fct.val 36 67 (.agg #[.int .i64 bx, .int .i64 bY])⟩,
            ⟨[34], [5], Fct.val 37 68 (.agg #[.int .i64 cx, .int .i64 cy])⟩,
            ⟨[34, 35, 36, 37], [], Fct.val 38 69 (.int .i64 (turn (ax, ay) (bx, bY) (cx, cy)))⟩,
            ⟨[34], [10], Fct.val 39 70 (.int .i64 (crossZ (ax, ay) (bx, bY) (cx, cy)))⟩,
            ⟨[34, 39], [], Fct.val 40 71 (.int .i64 (signZ (crossZ (ax, ay) (bx, bY) (cx, cy))))⟩,
            ⟨[34, 38, 40], [], Fct.val 41 72 (.bool true)⟩,
            ⟨[34, 41], [], Fct.val 42 73 (.bool true)⟩,
            ⟨[42], [], Fct.val 43 6 (.bool true)⟩]) (by kernel_rfl) hza19 hda19 (fun _ h => nomatch h) ?_ ?_
        · refine steps_cons (fun own a wx hf hs hE hO => ?_) ?_
          · exact sg_plain rfl (or_call cf15 (args0) (known_any _) (post_val rfl))
          refine steps_cons (fun own a wx hf hs hE hO => ?_) ?_
          · obtain ⟨(f31 : a.eval (.tmp 31) = .bool true), -⟩ := hf
            exact sg_plain rfl (or_move f31)
          refine steps_cons (fun own a wx hf hs hE hO => ?_) ?_
          · obtain ⟨(f32 : a.eval (.tmp 32) = .bool true), -⟩ := hf
            obtain ⟨s3, -⟩ := hs
            exact sg_yes rfl rfl f32 (or_load ta29 (s3.trans ea19_3) (Blk.cellsFrom (hE.blk bg1_w20 (fun h => h rfl)) 0 rfl) rfl)
          refine steps_cons (fun own a wx hf hs hE hO => ?_) ?_
          · obtain ⟨(f32 : a.eval (.tmp 32) = .bool true), -⟩ := hf
            obtain ⟨s4, -⟩ := hs
            exact sg_yes rfl rfl f32 (or_load ta29 (s4.trans ea19_4) (Blk.cellsFrom (hE.blk bg2_w20 (fun h => h rfl)) 0 rfl) rfl)
          refine steps_cons (fun own a wx hf hs hE hO => ?_) ?_
          · obtain ⟨(f32 : a.eval (.tmp 32) = .bool true), -⟩ := hf
            obtain ⟨s5, -⟩ := hs
            exact sg_yes rfl rfl f32 (or_load ta29 (s5.trans ea19_5) (Blk.cellsFrom (hE.blk bg3_w20 (fun h => h rfl)) 0 rfl) rfl)
          refine steps_cons (fun own a wx hf hs hE hO => ?_) ?_
          · obtain ⟨(f32 : a.eval (.tmp 32) = .bool true), (f33 : a.eval (.tmp 33) = .agg #[.int .i64 ax, .int .i64 ay]), (f34 : a.eval (.tmp 34) = .agg #[.int .i64 bx, .int .i64 bY]), (f35 : a.eval (.tmp 35) = .agg #[.int .i64 cx, .int .i64 cy]), -⟩ := hf
            exact sg_yes rfl rfl f32 (or_new [(33, .agg #[.int .i64 ax, .int .i64 ay]), (34, .agg #[.int .i64 bx, .int .i64 bY]), (35, .agg #[.int .i64 cx, .int .i64 cy])] rfl rfl ⟨f33, f34, f35, trivial⟩ rfl hE.size (by kernel_rfl))
          refine steps_cons (fun own a wx hf hs hE hO => ?_) ?_
          · obtain ⟨(f32 : a.eval (.tmp 32) = .bool true), ⟨g21, (f36 : a.eval (.tmp 36) = .slice (some ⟨g21, 0, none⟩) 3 3), og21, lg21, bg21⟩, -⟩ := hf
            exact sg_yes rfl rfl f32 (or_call cf19 (args1 f36) (right_any _ _ _ [(ax, ay), (bx, bY), (cx, cy)] _ (blk_reads bg21 rfl rfl) rfl (by simp)) (post_val rfl))
          refine steps_cons (fun own a wx hf hs hE hO => ?_) ?_
          · obtain ⟨(f32 : a.eval (.tmp 32) = .bool true), -⟩ := hf
            obtain ⟨s7, -⟩ := hs
            exact sg_yes rfl rfl f32 (or_load ta30 (s7.trans ea19_7) (Blk.cellsFrom (hE.blk bg6_w20 (fun h => h rfl)) 0 rfl) rfl)
          refine steps_cons (fun own a wx hf hs hE hO => ?_) ?_
          · obtain ⟨(f32 : a.eval (.tmp 32) = .bool true), -⟩ := hf
            obtain ⟨s8, -⟩ := hs
            exact sg_yes rfl rfl f32 (or_load ta30 (s8.trans ea19_8) (Blk.cellsFrom (hE.blk bg7_w20 (fun h => h rfl)) 0 rfl) rfl)
          refine steps_cons (fun own a wx hf hs hE hO => ?_) ?_
          · obtain ⟨(f32 : a.eval (.tmp 32) = .bool true), -⟩ := hf
            obtain ⟨s9, -⟩ := hs
            exact sg_yes rfl rfl f32 (or_load ta30 (s9.trans ea19_9) (Blk.cellsFrom (hE.blk bg8_w20 (fun h => h rfl)) 0 rfl) rfl)
          refine steps_cons (fun own a wx hf hs hE hO => ?_) ?_
          · obtain ⟨(f32 : a.eval (.tmp 32) = .bool true), (f38 : a.eval (.tmp 38) = .agg #[.int .i64 ax, .int .i64 ay]), (f39 : a.eval (.tmp 39) = .agg #[.int .i64 bx, .int .i64 bY]), (f40 : a.eval (.tmp 40) = .agg #[.int .i64 cx, .int .i64 cy]), -⟩ := hf
            exact sg_yes rfl rfl f32 (or_new [(38, .agg #[.int .i64 ax, .int .i64 ay]), (39, .agg #[.int .i64 bx, .int .i64 bY]), (40, .agg #[.int .i64 cx, .int .i64 cy])] rfl rfl ⟨f38, f39, f40, trivial⟩ rfl hE.size (by kernel_rfl))
          refine steps_cons (fun own a wx hf hs hE hO => ?_) ?_
          · obtain ⟨(f32 : a.eval (.tmp 32) = .bool true), ⟨g22, (f41 : a.eval (.tmp 41) = .slice (some ⟨g22, 0, none⟩) 3 3), og22, lg22, bg22⟩, -⟩ := hf
            exact sg_yes rfl rfl f32 (or_call cf20 (args1 f41) (all_any _ _ _ [(ax, ay), (bx, bY), (cx, cy)] _ (blk_reads bg22 rfl rfl) rfl (by simp)) (post_val rfl))
          refine steps_cons (fun own a wx hf hs hE hO => ?_) ?_
          · obtain ⟨(f32 : a.eval (.tmp 32) = .bool true), (f37 : a.eval (.tmp 37) = .bool (rightAll [(ax, ay), (bx, bY), (cx, cy)])), (f42 : a.eval (.tmp 42) = .bool (rightAll [(ax, ay), (bx, bY), (cx, cy)])), -⟩ := hf
            exact sg_yes rfl rfl f32 (or_eqlb tb4 f37 f42 (by simp))
          refine steps_cons (fun own a wx hf hs hE hO => ?_) ?_
          · obtain ⟨(f32 : a.eval (.tmp 32) = .bool true), (f43 : a.eval (.tmp 43) = .bool true), -⟩ := hf
            exact sg_plain rfl (or_pick_t f32 f43)
          refine steps_cons (fun own a wx hf hs hE hO => ?_) ?_
          · obtain ⟨(f44 : a.eval (.tmp 44) = .bool true), -⟩ := hf
            exact sg_plain rfl (or_move f44)
          refine steps_cons (fun own a wx hf hs hE hO => ?_) ?_
          · obtain ⟨(f45 : a.eval (.tmp 45) = .bool true), -⟩ := hf
            exact sg_yes rfl rfl f45 (or_call cf19 (args1 rfl) ((right_any _ _ _ [] _ Reads.none_ rfl (by simp)).mono fun _ _ hh => ⟨hh.1.trans (congrArg (fun b => Ending.returned (.bool b)) hR0), hh.2⟩) (post_val rfl))
          refine steps_cons (fun own a wx hf hs hE hO => ?_) ?_
          · obtain ⟨(f45 : a.eval (.tmp 45) = .bool true), (f46 : a.eval (.tmp 46) = .bool true), -⟩ := hf
            exact sg_plain rfl (or_pick_t f45 f46)
          refine steps_cons (fun own a wx hf hs hE hO => ?_) ?_
          · obtain ⟨(f47 : a.eval (.tmp 47) = .bool true), -⟩ := hf
            exact sg_plain rfl (or_move f47)
          refine steps_cons (fun own a wx hf hs hE hO => ?_) ?_
          · obtain ⟨(f48 : a.eval (.tmp 48) = .bool true), -⟩ := hf
            obtain ⟨s3, -⟩ := hs
            exact sg_yes rfl rfl f48 (or_load ta29 (s3.trans ea19_3) (Blk.cellsFrom (hE.blk bg1_w20 (fun h => h rfl)) 0 rfl) rfl)
          refine steps_cons (fun own a wx hf hs hE hO => ?_) ?_
          · obtain ⟨(f48 : a.eval (.tmp 48) = .bool true), -⟩ := hf
            obtain ⟨s4, -⟩ := hs
            exact sg_yes rfl rfl f48 (or_load ta29 (s4.trans ea19_4) (Blk.cellsFrom (hE.blk bg2_w20 (fun h => h rfl)) 0 rfl) rfl)
          refine steps_cons (fun own a wx hf hs hE hO => ?_) ?_
          · obtain ⟨(f48 : a.eval (.tmp 48) = .bool true), (f49 : a.eval (.tmp 49) = .agg #[.int .i64 ax, .int .i64 ay]), (f50 : a.eval (.tmp 50) = .agg #[.int .i64 bx, .int .i64 bY]), -⟩ := hf
            exact sg_yes rfl rfl f48 (or_call cf21 (args2 f49 f50) (less_any _ _ _ _ _) (post_val rfl))
          refine steps_cons (fun own a wx hf hs hE hO => ?_) ?_
          · obtain ⟨(f48 : a.eval (.tmp 48) = .bool true), -⟩ := hf
            obtain ⟨s7, -⟩ := hs
            exact sg_yes rfl rfl f48 (or_load ta30 (s7.trans ea19_7) (Blk.cellsFrom (hE.blk bg6_w20 (fun h => h rfl)) 0 rfl) rfl)
          refine steps_cons (fun own a wx hf hs hE hO => ?_) ?_
          · obtain ⟨(f48 : a.eval (.tmp 48) = .bool true), -⟩ := hf
            obtain ⟨s8, -⟩ := hs
            exact sg_yes rfl rfl f48 (or_load ta30 (s8.trans ea19_8) (Blk.cellsFrom (hE.blk bg7_w20 (fun h => h rfl)) 0 rfl) rfl)
          refine steps_cons (fun own a wx hf hs hE hO => ?_) ?_
          · obtain ⟨(f48 : a.eval (.tmp 48) = .bool true), (f52 : a.eval (.tmp 52) = .agg #[.int .i64 ax, .int .i64 ay]), (f53 : a.eval (.tmp 53) = .agg #[.int .i64 bx, .int .i64 bY]), -⟩ := hf
            exact sg_yes rfl rfl f48 (or_call cf22 (args2 f52 f53) (refLess_any _ _ _ _ _) (post_val rfl))
          refine steps_cons (fun own a wx hf hs hE hO => ?_) ?_
          · obtain ⟨(f48 : a.eval (.tmp 48) = .bool true), (f51 : a.eval (.tmp 51) = .bool (lessB (ax, ay) (bx, bY))), (f54 : a.eval (.tmp 54) = .bool (lessB (ax, ay) (bx, bY))), -⟩ := hf
            exact sg_yes rfl rfl f48 (or_eqlb tb4 f51 f54 (by simp))
          refine steps_cons (fun own a wx hf hs hE hO => ?_) ?_
          · obtain ⟨(f48 : a.eval (.tmp 48) = .bool true), (f55 : a.eval (.tmp 55) = .bool true), -⟩ := hf
            exact sg_plain rfl (or_pick_t f48 f55)
          refine steps_cons (fun own a wx hf hs hE hO => ?_) ?_
          · obtain ⟨(f56 : a.eval (.tmp 56) = .bool true), -⟩ := hf
            exact sg_plain rfl (or_move f56)
          refine steps_cons (fun own a wx hf hs hE hO => ?_) ?_
          · obtain ⟨(f57 : a.eval (.tmp 57) = .bool true), -⟩ := hf
            obtain ⟨s3, -⟩ := hs
            exact sg_yes rfl rfl f57 (or_load ta29 (s3.trans ea19_3) (Blk.cellsFrom (hE.blk bg1_w20 (fun h => h rfl)) 0 rfl) rfl)
          refine steps_cons (fun own a wx hf hs hE hO => ?_) ?_
          · obtain ⟨(f57 : a.eval (.tmp 57) = .bool true), -⟩ := hf
            obtain ⟨s4, -⟩ := hs
            exact sg_yes rfl rfl f57 (or_load ta29 (s4.trans ea19_4) (Blk.cellsFrom (hE.blk bg2_w20 (fun h => h rfl)) 0 rfl) rfl)
          refine steps_cons (fun own a wx hf hs hE hO => ?_) ?_
          · obtain ⟨(f57 : a.eval (.tmp 57) = .bool true), -⟩ := hf
            obtain ⟨s5, -⟩ := hs
            exact sg_yes rfl rfl f57 (or_load ta29 (s5.trans ea19_5) (Blk.cellsFrom (hE.blk bg3_w20 (fun h => h rfl)) 0 rfl) rfl)
          refine steps_cons (fun own a wx hf hs hE hO => ?_) ?_
          · obtain ⟨(f57 : a.eval (.tmp 57) = .bool true), (f58 : a.eval (.tmp 58) = .agg #[.int .i64 ax, .int .i64 ay]), (f59 : a.eval (.tmp 59) = .agg #[.int .i64 bx, .int .i64 bY]), (f60 : a.eval (.tmp 60) = .agg #[.int .i64 cx, .int .i64 cy]), -⟩ := hf
            exact sg_yes rfl rfl f57 (or_call cf23 (args3 f58 f59 f60) (cross_any _ _ _ _ _ _ _) (post_val rfl))
          refine steps_cons (fun own a wx hf hs hE hO => ?_) ?_
          · obtain ⟨(f57 : a.eval (.tmp 57) = .bool true), -⟩ := hf
            obtain ⟨s10, -⟩ := hs
            exact sg_yes rfl rfl f57 (or_move (s10.trans ea19_10))
          refine steps_cons (fun own a wx hf hs hE hO => ?_) ?_
          · obtain ⟨(f57 : a.eval (.tmp 57) = .bool true), (f61 : a.eval (.tmp 61) = .int .i64 (cross (ax, ay) (bx, bY) (cx, cy))), (f62 : a.eval (.tmp 62) = .int .i64 (crossZ (ax, ay) (bx, bY) (cx, cy))), -⟩ := hf
            exact sg_yes rfl rfl f57 (or_eql f61 f62 (areas_eq (by simp [cross, c14, c15, c18])))
          refine steps_cons (fun own a wx hf hs hE hO => ?_) ?_
          · obtain ⟨(f57 : a.eval (.tmp 57) = .bool true), (f63 : a.eval (.tmp 63) = .bool true), -⟩ := hf
            exact sg_plain rfl (or_pick_t f57 f63)
          refine steps_cons (fun own a wx hf hs hE hO => ?_) ?_
          · obtain ⟨(f64 : a.eval (.tmp 64) = .bool true), -⟩ := hf
            exact sg_plain rfl (or_move f64)
          refine steps_cons (fun own a wx hf hs hE hO => ?_) ?_
          · obtain ⟨(f65 : a.eval (.tmp 65) = .bool true), -⟩ := hf
            obtain ⟨s3, -⟩ := hs
            exact sg_yes rfl rfl f65 (or_load ta29 (s3.trans ea19_3) (Blk.cellsFrom (hE.blk bg1_w20 (fun h => h rfl)) 0 rfl) rfl)
          refine steps_cons (fun own a wx hf hs hE hO => ?_) ?_
          · obtain ⟨(f65 : a.eval (.tmp 65) = .bool true), -⟩ := hf
            obtain ⟨s4, -⟩ := hs
            exact sg_yes rfl rfl f65 (or_load ta29 (s4.trans ea19_4) (Blk.cellsFrom (hE.blk bg2_w20 (fun h => h rfl)) 0 rfl) rfl)
          refine steps_cons (fun own a wx hf hs hE hO => ?_) ?_
          · obtain ⟨(f65 : a.eval (.tmp 65) = .bool true), -⟩ := hf
            obtain ⟨s5, -⟩ := hs
            exact sg_yes rfl rfl f65 (or_load ta29 (s5.trans ea19_5) (Blk.cellsFrom (hE.blk bg3_w20 (fun h => h rfl)) 0 rfl) rfl)
          refine steps_cons (fun own a wx hf hs hE hO => ?_) ?_
          · obtain ⟨(f65 : a.eval (.tmp 65) = .bool true), (f66 : a.eval (.tmp 66) = .agg #[.int .i64 ax, .int .i64 ay]), (f67 : a.eval (.tmp 67) = .agg #[.int .i64 bx, .int .i64 bY]), (f68 : a.eval (.tmp 68) = .agg #[.int .i64 cx, .int .i64 cy]), -⟩ := hf
            exact sg_yes rfl rfl f65 (or_call cf24 (args3 f66 f67 f68) (turn_any _ _ _ _ _ _ _) (post_val rfl))
          refine steps_cons (fun own a wx hf hs hE hO => ?_) ?_
          · obtain ⟨(f65 : a.eval (.tmp 65) = .bool true), -⟩ := hf
            obtain ⟨s10, -⟩ := hs
            exact sg_yes rfl rfl f65 (or_move (s10.trans ea19_10))
          refine steps_cons (fun own a wx hf hs hE hO => ?_) ?_
          · obtain ⟨(f65 : a.eval (.tmp 65) = .bool true), (f70 : a.eval (.tmp 70) = .int .i64 (crossZ (ax, ay) (bx, bY) (cx, cy))), -⟩ := hf
            exact sg_yes rfl rfl f65 (or_call cf25 (args1 f70) (refSign_any _ _) post_same)
          refine steps_cons (fun own a wx hf hs hE hO => ?_) ?_
          · obtain ⟨(f65 : a.eval (.tmp 65) = .bool true), (f69 : a.eval (.tmp 69) = .int .i64 (turn (ax, ay) (bx, bY) (cx, cy))), (f71 : a.eval (.tmp 71) = .int .i64 (signZ (crossZ (ax, ay) (bx, bY) (cx, cy)))), -⟩ := hf
            exact sg_yes rfl rfl f65 (or_eql f69 f71 (areas_eq (by simp [turn_signZ, cross, c14, c15, c18])))
          refine steps_cons (fun own a wx hf hs hE hO => ?_) ?_
          · obtain ⟨(f65 : a.eval (.tmp 65) = .bool true), (f72 : a.eval (.tmp 72) = .bool true), -⟩ := hf
            exact sg_plain rfl (or_pick_t f65 f72)
          refine steps_cons (fun own a wx hf hs hE hO => ?_) ?_
          · obtain ⟨(f73 : a.eval (.tmp 73) = .bool true), -⟩ := hf
            exact sg_plain rfl (or_assign f73)
          exact steps_nil
        intro owna23 a23 w24 hda23 hza23 hsa23 hfa23 hEa23 hOa23 hpa23
        obtain ⟨(ea23_6 : a23.eval (.tmp 6) = .bool true), -⟩ := hfa23 [43] rfl
        have hNa23 : Ext (fun _ => False) w20 w24 := hEa23.mono_ (fun _ h => h rfl)
        have hXw24_w := hXw20_w.trans_ hNa23 (fun b hb h1 h2 => by exact h2)
        have hBw24 : Below w.heap.size w w24 := hXw24_w.below (Nat.le_refl _) (fun _ _ h => h)
        clear hEa23 hOa23 hpa23 hfa23 hsa23
        refine fl_ret ?_
        refine hret _ _ hda23 ?_
        exact ⟨congrArg Ending.returned ea23_6, hBw24⟩
      refine fl_skip ?_
      refine hn13 _ _ ?_
      refine rg_draw_seq g_mixed (n := 74) (pu := false) (kl := []) (rs := []) (oth := 44) (own0 := (fun _ => 44))
          (bs := [0, 1, 3, 3, 3, 31, 63, 3, 3, 3, 899, 2047, 4095, 8191, 16383, 32767, 65535, 131071, 262143, 262143, 1048575, 262143, 262143, 8388607, 16777215, 33554431, 67108863, 134217727, 134217727, 134217727, 1073741823, 134217727, 4294967295, 8589934591, 17179869183, 34359738367, 34359738367, 34359738367, 274877906943, 34359738367, 1099511627775, 2199023255551, 4398046511103, 8796093022207])
          (ds := [⟨[], [], Fct.val 0 31 (.bool true)⟩,
          ⟨[0], [], Fct.val 1 32 (.bool true)⟩,
          ⟨[1], [3], Fct.val 2 33 (.agg #[.int .i64 ax, .int .i64 ay])⟩,
          ⟨[1], [4], Fct.val 3 34 (.agg #[.int .i64 bx, .int .i64 bY])⟩,
          ⟨[1], [5], Fct.val 4 35 (.agg #[.int .i64 cx, .int .i64 cy])⟩,
          ⟨[1, 2, 3, 4], [], Fct.blk 5 36 w17.heap.size (fun g => .slice (some ⟨g, 0, none⟩) 3 3) 29 #[.int .i64 ax, .int .i64 ay, .int .i64 bx, .int .i64 bY, .int .i64 cx, .int .i64 cy]⟩,
          ⟨[1, 5], [], Fct.val 6 37 (.bool (rightAll [(ax, ay), (bx, bY), (cx, cy)]))⟩,
          ⟨[1], [7], Fct.val 7 38 (.agg #[.int .i64 ax, .int .i64 ay])⟩,
          ⟨[1], [8], Fct.val 8 39 (.agg #[.int .i64 bx, .int .i64 bY])⟩,
          ⟨[1], [9], Fct.val 9 40 (.agg #[.int .i64 cx, .int .i64 cy])⟩,
          ⟨[1, 7, 8, 9], [], Fct.blk 10 41 w17.heap.size (fun g => .slice (some ⟨g, 0, none⟩) 3 3) 30 #[.int .i64 ax, .int .i64 ay, .int .i64 bx, .int .i64 bY, .int .i64 cx, .int .i64 cy]⟩,
          ⟨[1, 10], [], Fct.val 11 42 (.bool (rightAll [(ax, ay), (bx, bY), (cx, cy)]))⟩,
          ⟨[1, 6, 11], [], Fct.val 12 43 (.bool true)⟩,
          ⟨[1, 12], [], Fct.val 13 44 (.bool true)⟩,
          ⟨[13], [], Fct.val 14 45 (.bool true)⟩,
          ⟨[14], [], Fct.val 15 46 (.bool true)⟩,
          ⟨[14, 15], [], Fct.val 16 47 (.bool true)⟩,
          ⟨[16], [], Fct.val 17 48 (.bool true)⟩,
          ⟨[17], [3], Fct.val 18 49 (.agg #[.int .i64 ax, .int .i64 ay])⟩,
          ⟨[17], [4], Fct.val 19 50 (.agg #[.int .i64 bx, .int .i64 bY])⟩,
          ⟨[17, 18, 19], [], Fct.val 20 51 (.bool (lessB (ax, ay) (bx, bY)))⟩,
          ⟨[17], [7], Fct.val 21 52 (.agg #[.int .i64 ax, .int .i64 ay])⟩,
          ⟨[17], [8], Fct.val 22 53 (.agg #[.int .i64 bx, .int .i64 bY])⟩,
          ⟨[17, 21, 22], [], Fct.val 23 54 (.bool (lessB (ax, ay) (bx, bY)))⟩,
          ⟨[17, 20, 23], [], Fct.val 24 55 (.bool true)⟩,
          ⟨[17, 24], [], Fct.val 25 56 (.bool true)⟩,
          ⟨[25], [], Fct.val 26 57 (.bool true)⟩,
          ⟨[26], [3], Fct.val 27 58 (.agg #[.int .i64 ax, .int .i64 ay])⟩,
          ⟨[26], [4], Fct.val 28 59 (.agg #[.int .i64 bx, .int .i64 bY])⟩,
          ⟨[26], [5], Fct.val 29 60 (.agg #[.int .i64 cx, .int .i64 cy])⟩,
          ⟨[26, 27, 28, 29], [], Fct.val 30 61 (.int .i64 (cross (ax, ay) (bx, bY) (cx, cy)))⟩,
          ⟨[26], [10], Fct.val 31 62 (.int .i64 0)⟩,
          ⟨[26, 30, 31], [], Fct.val 32 63 (.bool true)⟩,
          ⟨[26, 32], [], Fct.val 33 64 (.bool true)⟩,
          ⟨[33], [], Fct.val 34 65 (.bool true)⟩,
          ⟨[34], [3], Fct.val 35 66 (.agg #[.int .i64 ax, .int .i64 ay])⟩,
          ⟨[34], [4], Fct.val 36 67 (.agg #[.int .i64 bx, .int .i64 bY])⟩,
          ⟨[34], [5], Fct.val 37 68 (.agg #[.int .i64 cx, .int .i64 cy])⟩,
          ⟨[34, 35, 36, 37], [], Fct.val 38 69 (.int .i64 (turn (ax, ay) (bx, bY) (cx, cy)))⟩,
          ⟨[34], [10], Fct.val 39 70 (.int .i64 0)⟩,
          ⟨[34, 39], [], Fct.val 40 71 (.int .i64 (signZ 0))⟩,
          ⟨[34, 38, 40], [], Fct.val 41 72 (.bool true)⟩,
          ⟨[34, 41], [], Fct.val 42 73 (.bool true)⟩,
          ⟨[42], [], Fct.val 43 6 (.bool true)⟩]) (by kernel_rfl) hza16 hda16 (fun _ h => nomatch h) ?_ ?_
      · refine steps_cons (fun own a wx hf hs hE hO => ?_) ?_
        · exact sg_plain rfl (or_call cf15 (args0) (known_any _) (post_val rfl))
        refine steps_cons (fun own a wx hf hs hE hO => ?_) ?_
        · obtain ⟨(f31 : a.eval (.tmp 31) = .bool true), -⟩ := hf
          exact sg_plain rfl (or_move f31)
        refine steps_cons (fun own a wx hf hs hE hO => ?_) ?_
        · obtain ⟨(f32 : a.eval (.tmp 32) = .bool true), -⟩ := hf
          obtain ⟨s3, -⟩ := hs
          exact sg_yes rfl rfl f32 (or_load ta29 (s3.trans ea16_3) (Blk.cellsFrom (hE.blk bg1_w17 (fun h => h rfl)) 0 rfl) rfl)
        refine steps_cons (fun own a wx hf hs hE hO => ?_) ?_
        · obtain ⟨(f32 : a.eval (.tmp 32) = .bool true), -⟩ := hf
          obtain ⟨s4, -⟩ := hs
          exact sg_yes rfl rfl f32 (or_load ta29 (s4.trans ea16_4) (Blk.cellsFrom (hE.blk bg2_w17 (fun h => h rfl)) 0 rfl) rfl)
        refine steps_cons (fun own a wx hf hs hE hO => ?_) ?_
        · obtain ⟨(f32 : a.eval (.tmp 32) = .bool true), -⟩ := hf
          obtain ⟨s5, -⟩ := hs
          exact sg_yes rfl rfl f32 (or_load ta29 (s5.trans ea16_5) (Blk.cellsFrom (hE.blk bg3_w17 (fun h => h rfl)) 0 rfl) rfl)
        refine steps_cons (fun own a wx hf hs hE hO => ?_) ?_
        · obtain ⟨(f32 : a.eval (.tmp 32) = .bool true), (f33 : a.eval (.tmp 33) = .agg #[.int .i64 ax, .int .i64 ay]), (f34 : a.eval (.tmp 34) = .agg #[.int .i64 bx, .int .i64 bY]), (f35 : a.eval (.tmp 35) = .agg #[.int .i64 cx, .int .i64 cy]), -⟩ := hf
          exact sg_yes rfl rfl f32 (or_new [(33, .agg #[.int .i64 ax, .int .i64 ay]), (34, .agg #[.int .i64 bx, .int .i64 bY]), (35, .agg #[.int .i64 cx, .int .i64 cy])] rfl rfl ⟨f33, f34, f35, trivial⟩ rfl hE.size (by kernel_rfl))
        refine steps_cons (fun own a wx hf hs hE hO => ?_) ?_
        · obtain ⟨(f32 : a.eval (.tmp 32) = .bool true), ⟨g25, (f36 : a.eval (.tmp 36) = .slice (some ⟨g25, 0, none⟩) 3 3), og25, lg25, bg25⟩, -⟩ := hf
          exact sg_yes rfl rfl f32 (or_call cf19 (args1 f36) (right_any _ _ _ [(ax, ay), (bx, bY), (cx, cy)] _ (blk_reads bg25 rfl rfl) rfl (by simp)) (post_val rfl))
        refine steps_cons (fun own a wx hf hs hE hO => ?_) ?_
        · obtain ⟨(f32 : a.eval (.tmp 32) = .bool true), -⟩ := hf
          obtain ⟨s7, -⟩ := hs
          exact sg_yes rfl rfl f32 (or_load ta30 (s7.trans ea16_7) (Blk.cellsFrom (hE.blk bg6_w17 (fun h => h rfl)) 0 rfl) rfl)
        refine steps_cons (fun own a wx hf hs hE hO => ?_) ?_
        · obtain ⟨(f32 : a.eval (.tmp 32) = .bool true), -⟩ := hf
          obtain ⟨s8, -⟩ := hs
          exact sg_yes rfl rfl f32 (or_load ta30 (s8.trans ea16_8) (Blk.cellsFrom (hE.blk bg7_w17 (fun h => h rfl)) 0 rfl) rfl)
        refine steps_cons (fun own a wx hf hs hE hO => ?_) ?_
        · obtain ⟨(f32 : a.eval (.tmp 32) = .bool true), -⟩ := hf
          obtain ⟨s9, -⟩ := hs
          exact sg_yes rfl rfl f32 (or_load ta30 (s9.trans ea16_9) (Blk.cellsFrom (hE.blk bg8_w17 (fun h => h rfl)) 0 rfl) rfl)
        refine steps_cons (fun own a wx hf hs hE hO => ?_) ?_
        · obtain ⟨(f32 : a.eval (.tmp 32) = .bool true), (f38 : a.eval (.tmp 38) = .agg #[.int .i64 ax, .int .i64 ay]), (f39 : a.eval (.tmp 39) = .agg #[.int .i64 bx, .int .i64 bY]), (f40 : a.eval (.tmp 40) = .agg #[.int .i64 cx, .int .i64 cy]), -⟩ := hf
          exact sg_yes rfl rfl f32 (or_new [(38, .agg #[.int .i64 ax, .int .i64 ay]), (39, .agg #[.int .i64 bx, .int .i64 bY]), (40, .agg #[.int .i64 cx, .int .i64 cy])] rfl rfl ⟨f38, f39, f40, trivial⟩ rfl hE.size (by kernel_rfl))
        refine steps_cons (fun own a wx hf hs hE hO => ?_) ?_
        · obtain ⟨(f32 : a.eval (.tmp 32) = .bool true), ⟨g26, (f41 : a.eval (.tmp 41) = .slice (some ⟨g26, 0, none⟩) 3 3), og26, lg26, bg26⟩, -⟩ := hf
          exact sg_yes rfl rfl f32 (or_call cf20 (args1 f41) (all_any _ _ _ [(ax, ay), (bx, bY), (cx, cy)] _ (blk_reads bg26 rfl rfl) rfl (by simp)) (post_val rfl))
        refine steps_cons (fun own a wx hf hs hE hO => ?_) ?_
        · obtain ⟨(f32 : a.eval (.tmp 32) = .bool true), (f37 : a.eval (.tmp 37) = .bool (rightAll [(ax, ay), (bx, bY), (cx, cy)])), (f42 : a.eval (.tmp 42) = .bool (rightAll [(ax, ay), (bx, bY), (cx, cy)])), -⟩ := hf
          exact sg_yes rfl rfl f32 (or_eqlb tb4 f37 f42 (by simp))
        refine steps_cons (fun own a wx hf hs hE hO => ?_) ?_
        · obtain ⟨(f32 : a.eval (.tmp 32) = .bool true), (f43 : a.eval (.tmp 43) = .bool true), -⟩ := hf
          exact sg_plain rfl (or_pick_t f32 f43)
        refine steps_cons (fun own a wx hf hs hE hO => ?_) ?_
        · obtain ⟨(f44 : a.eval (.tmp 44) = .bool true), -⟩ := hf
          exact sg_plain rfl (or_move f44)
        refine steps_cons (fun own a wx hf hs hE hO => ?_) ?_
        · obtain ⟨(f45 : a.eval (.tmp 45) = .bool true), -⟩ := hf
          exact sg_yes rfl rfl f45 (or_call cf19 (args1 rfl) ((right_any _ _ _ [] _ Reads.none_ rfl (by simp)).mono fun _ _ hh => ⟨hh.1.trans (congrArg (fun b => Ending.returned (.bool b)) hR0), hh.2⟩) (post_val rfl))
        refine steps_cons (fun own a wx hf hs hE hO => ?_) ?_
        · obtain ⟨(f45 : a.eval (.tmp 45) = .bool true), (f46 : a.eval (.tmp 46) = .bool true), -⟩ := hf
          exact sg_plain rfl (or_pick_t f45 f46)
        refine steps_cons (fun own a wx hf hs hE hO => ?_) ?_
        · obtain ⟨(f47 : a.eval (.tmp 47) = .bool true), -⟩ := hf
          exact sg_plain rfl (or_move f47)
        refine steps_cons (fun own a wx hf hs hE hO => ?_) ?_
        · obtain ⟨(f48 : a.eval (.tmp 48) = .bool true), -⟩ := hf
          obtain ⟨s3, -⟩ := hs
          exact sg_yes rfl rfl f48 (or_load ta29 (s3.trans ea16_3) (Blk.cellsFrom (hE.blk bg1_w17 (fun h => h rfl)) 0 rfl) rfl)
        refine steps_cons (fun own a wx hf hs hE hO => ?_) ?_
        · obtain ⟨(f48 : a.eval (.tmp 48) = .bool true), -⟩ := hf
          obtain ⟨s4, -⟩ := hs
          exact sg_yes rfl rfl f48 (or_load ta29 (s4.trans ea16_4) (Blk.cellsFrom (hE.blk bg2_w17 (fun h => h rfl)) 0 rfl) rfl)
        refine steps_cons (fun own a wx hf hs hE hO => ?_) ?_
        · obtain ⟨(f48 : a.eval (.tmp 48) = .bool true), (f49 : a.eval (.tmp 49) = .agg #[.int .i64 ax, .int .i64 ay]), (f50 : a.eval (.tmp 50) = .agg #[.int .i64 bx, .int .i64 bY]), -⟩ := hf
          exact sg_yes rfl rfl f48 (or_call cf21 (args2 f49 f50) (less_any _ _ _ _ _) (post_val rfl))
        refine steps_cons (fun own a wx hf hs hE hO => ?_) ?_
        · obtain ⟨(f48 : a.eval (.tmp 48) = .bool true), -⟩ := hf
          obtain ⟨s7, -⟩ := hs
          exact sg_yes rfl rfl f48 (or_load ta30 (s7.trans ea16_7) (Blk.cellsFrom (hE.blk bg6_w17 (fun h => h rfl)) 0 rfl) rfl)
        refine steps_cons (fun own a wx hf hs hE hO => ?_) ?_
        · obtain ⟨(f48 : a.eval (.tmp 48) = .bool true), -⟩ := hf
          obtain ⟨s8, -⟩ := hs
          exact sg_yes rfl rfl f48 (or_load ta30 (s8.trans ea16_8) (Blk.cellsFrom (hE.blk bg7_w17 (fun h => h rfl)) 0 rfl) rfl)
        refine steps_cons (fun own a wx hf hs hE hO => ?_) ?_
        · obtain ⟨(f48 : a.eval (.tmp 48) = .bool true), (f52 : a.eval (.tmp 52) = .agg #[.int .i64 ax, .int .i64 ay]), (f53 : a.eval (.tmp 53) = .agg #[.int .i64 bx, .int .i64 bY]), -⟩ := hf
          exact sg_yes rfl rfl f48 (or_call cf22 (args2 f52 f53) (refLess_any _ _ _ _ _) (post_val rfl))
        refine steps_cons (fun own a wx hf hs hE hO => ?_) ?_
        · obtain ⟨(f48 : a.eval (.tmp 48) = .bool true), (f51 : a.eval (.tmp 51) = .bool (lessB (ax, ay) (bx, bY))), (f54 : a.eval (.tmp 54) = .bool (lessB (ax, ay) (bx, bY))), -⟩ := hf
          exact sg_yes rfl rfl f48 (or_eqlb tb4 f51 f54 (by simp))
        refine steps_cons (fun own a wx hf hs hE hO => ?_) ?_
        · obtain ⟨(f48 : a.eval (.tmp 48) = .bool true), (f55 : a.eval (.tmp 55) = .bool true), -⟩ := hf
          exact sg_plain rfl (or_pick_t f48 f55)
        refine steps_cons (fun own a wx hf hs hE hO => ?_) ?_
        · obtain ⟨(f56 : a.eval (.tmp 56) = .bool true), -⟩ := hf
          exact sg_plain rfl (or_move f56)
        refine steps_cons (fun own a wx hf hs hE hO => ?_) ?_
        · obtain ⟨(f57 : a.eval (.tmp 57) = .bool true), -⟩ := hf
          obtain ⟨s3, -⟩ := hs
          exact sg_yes rfl rfl f57 (or_load ta29 (s3.trans ea16_3) (Blk.cellsFrom (hE.blk bg1_w17 (fun h => h rfl)) 0 rfl) rfl)
        refine steps_cons (fun own a wx hf hs hE hO => ?_) ?_
        · obtain ⟨(f57 : a.eval (.tmp 57) = .bool true), -⟩ := hf
          obtain ⟨s4, -⟩ := hs
          exact sg_yes rfl rfl f57 (or_load ta29 (s4.trans ea16_4) (Blk.cellsFrom (hE.blk bg2_w17 (fun h => h rfl)) 0 rfl) rfl)
        refine steps_cons (fun own a wx hf hs hE hO => ?_) ?_
        · obtain ⟨(f57 : a.eval (.tmp 57) = .bool true), -⟩ := hf
          obtain ⟨s5, -⟩ := hs
          exact sg_yes rfl rfl f57 (or_load ta29 (s5.trans ea16_5) (Blk.cellsFrom (hE.blk bg3_w17 (fun h => h rfl)) 0 rfl) rfl)
        refine steps_cons (fun own a wx hf hs hE hO => ?_) ?_
        · obtain ⟨(f57 : a.eval (.tmp 57) = .bool true), (f58 : a.eval (.tmp 58) = .agg #[.int .i64 ax, .int .i64 ay]), (f59 : a.eval (.tmp 59) = .agg #[.int .i64 bx, .int .i64 bY]), (f60 : a.eval (.tmp 60) = .agg #[.int .i64 cx, .int .i64 cy]), -⟩ := hf
          exact sg_yes rfl rfl f57 (or_call cf23 (args3 f58 f59 f60) (cross_any _ _ _ _ _ _ _) (post_val rfl))
        refine steps_cons (fun own a wx hf hs hE hO => ?_) ?_
        · obtain ⟨(f57 : a.eval (.tmp 57) = .bool true), -⟩ := hf
          obtain ⟨s10, -⟩ := hs
          exact sg_yes rfl rfl f57 (or_move (s10.trans ea16_10))
        refine steps_cons (fun own a wx hf hs hE hO => ?_) ?_
        · obtain ⟨(f57 : a.eval (.tmp 57) = .bool true), (f61 : a.eval (.tmp 61) = .int .i64 (cross (ax, ay) (bx, bY) (cx, cy))), (f62 : a.eval (.tmp 62) = .int .i64 0), -⟩ := hf
          exact sg_yes rfl rfl f57 (or_eql f61 f62 (areas_eq (by simp [cross, c14, c15, c18])))
        refine steps_cons (fun own a wx hf hs hE hO => ?_) ?_
        · obtain ⟨(f57 : a.eval (.tmp 57) = .bool true), (f63 : a.eval (.tmp 63) = .bool true), -⟩ := hf
          exact sg_plain rfl (or_pick_t f57 f63)
        refine steps_cons (fun own a wx hf hs hE hO => ?_) ?_
        · obtain ⟨(f64 : a.eval (.tmp 64) = .bool true), -⟩ := hf
          exact sg_plain rfl (or_move f64)
        refine steps_cons (fun own a wx hf hs hE hO => ?_) ?_
        · obtain ⟨(f65 : a.eval (.tmp 65) = .bool true), -⟩ := hf
          obtain ⟨s3, -⟩ := hs
          exact sg_yes rfl rfl f65 (or_load ta29 (s3.trans ea16_3) (Blk.cellsFrom (hE.blk bg1_w17 (fun h => h rfl)) 0 rfl) rfl)
        refine steps_cons (fun own a wx hf hs hE hO => ?_) ?_
        · obtain ⟨(f65 : a.eval (.tmp 65) = .bool true), -⟩ := hf
          obtain ⟨s4, -⟩ := hs
          exact sg_yes rfl rfl f65 (or_load ta29 (s4.trans ea16_4) (Blk.cellsFrom (hE.blk bg2_w17 (fun h => h rfl)) 0 rfl) rfl)
        refine steps_cons (fun own a wx hf hs hE hO => ?_) ?_
        · obtain ⟨(f65 : a.eval (.tmp 65) = .bool true), -⟩ := hf
          obtain ⟨s5, -⟩ := hs
          exact sg_yes rfl rfl f65 (or_load ta29 (s5.trans ea16_5) (Blk.cellsFrom (hE.blk bg3_w17 (fun h => h rfl)) 0 rfl) rfl)
        refine steps_cons (fun own a wx hf hs hE hO => ?_) ?_
        · obtain ⟨(f65 : a.eval (.tmp 65) = .bool true), (f66 : a.eval (.tmp 66) = .agg #[.int .i64 ax, .int .i64 ay]), (f67 : a.eval (.tmp 67) = .agg #[.int .i64 bx, .int .i64 bY]), (f68 : a.eval (.tmp 68) = .agg #[.int .i64 cx, .int .i64 cy]), -⟩ := hf
          exact sg_yes rfl rfl f65 (or_call cf24 (args3 f66 f67 f68) (turn_any _ _ _ _ _ _ _) (post_val rfl))
        refine steps_cons (fun own a wx hf hs hE hO => ?_) ?_
        · obtain ⟨(f65 : a.eval (.tmp 65) = .bool true), -⟩ := hf
          obtain ⟨s10, -⟩ := hs
          exact sg_yes rfl rfl f65 (or_move (s10.trans ea16_10))
        refine steps_cons (fun own a wx hf hs hE hO => ?_) ?_
        · obtain ⟨(f65 : a.eval (.tmp 65) = .bool true), (f70 : a.eval (.tmp 70) = .int .i64 0), -⟩ := hf
          exact sg_yes rfl rfl f65 (or_call cf25 (args1 f70) (refSign_any _ _) post_same)
        refine steps_cons (fun own a wx hf hs hE hO => ?_) ?_
        · obtain ⟨(f65 : a.eval (.tmp 65) = .bool true), (f69 : a.eval (.tmp 69) = .int .i64 (turn (ax, ay) (bx, bY) (cx, cy))), (f71 : a.eval (.tmp 71) = .int .i64 (signZ 0)), -⟩ := hf
          exact sg_yes rfl rfl f65 (or_eql f69 f71 (areas_eq (by simp [turn_signZ, cross, c14, c15, c18])))
        refine steps_cons (fun own a wx hf hs hE hO => ?_) ?_
        · obtain ⟨(f65 : a.eval (.tmp 65) = .bool true), (f72 : a.eval (.tmp 72) = .bool true), -⟩ := hf
          exact sg_plain rfl (or_pick_t f65 f72)
        refine steps_cons (fun own a wx hf hs hE hO => ?_) ?_
        · obtain ⟨(f73 : a.eval (.tmp 73) = .bool true), -⟩ := hf
          exact sg_plain rfl (or_assign f73)
        exact steps_nil
      intro owna27 a27 w28 hda27 hza27 hsa27 hfa27 hEa27 hOa27 hpa27
      obtain ⟨(ea27_6 : a27.eval (.tmp 6) = .bool true), -⟩ := hfa27 [43] rfl
      have hNa27 : Ext (fun _ => False) w17 w28 := hEa27.mono_ (fun _ h => h rfl)
      have hXw28_w := hXw17_w.trans_ hNa27 (fun b hb h1 h2 => by exact h2)
      have hBw28 : Below w.heap.size w w28 := hXw28_w.below (Nat.le_refl _) (fun _ _ h => h)
      clear hEa27 hOa27 hpa27 hfa27 hsa27
      refine fl_ret ?_
      refine hret _ _ hda27 ?_
      exact ⟨congrArg Ending.returned ea27_6, hBw28⟩
    refine rg_plain_seq (n := 74) (pu := false) (kl := []) (rs := []) (oth := 10) (own0 := (fun _ => 10))
        (bs := [0, 1, 3, 7, 15, 31, 63, 127, 255, 511])
        (ds := [⟨[], [7], Fct.val 0 17 (.agg #[.int .i64 ax, .int .i64 ay])⟩,
        ⟨[0], [], Fct.val 1 18 (.bool true)⟩,
        ⟨[1], [], Fct.val 2 19 (.bool true)⟩,
        ⟨[2], [8], Fct.val 3 20 (.agg #[.int .i64 bx, .int .i64 bY])⟩,
        ⟨[2, 3], [], Fct.val 4 21 (.bool false)⟩,
        ⟨[2, 4], [], Fct.val 5 22 (.bool false)⟩,
        ⟨[5], [], Fct.val 6 23 (.bool false)⟩,
        ⟨[6], [], Fct.val 7 24 undef⟩,
        ⟨[6], [], Fct.val 8 25 undef⟩,
        ⟨[6], [], Fct.val 9 26 (.bool false)⟩]) (by kernel_rfl) hza11 hda11 (fun _ h => nomatch h) ?_ ?_
    · refine steps_cons (fun own a wx hf hs hE hO => ?_) ?_
      · obtain ⟨s7, -⟩ := hs
        exact sg_plain rfl (or_load ta30 (s7.trans ea11_7) (Blk.cellsFrom (hE.blk bg6_w10 (fun h => h rfl)) 0 rfl) rfl)
      refine steps_cons (fun own a wx hf hs hE hO => ?_) ?_
      · obtain ⟨(f17 : a.eval (.tmp 17) = .agg #[.int .i64 ax, .int .i64 ay]), -⟩ := hf
        exact sg_plain rfl (or_call cf17 (args1 f17) ((may_any _ _ _).mono fun _ _ hh => ⟨hh.1.trans (congrArg (fun b => Ending.returned (.bool b)) c14), hh.2⟩) (post_val rfl))
      refine steps_cons (fun own a wx hf hs hE hO => ?_) ?_
      · obtain ⟨(f18 : a.eval (.tmp 18) = .bool true), -⟩ := hf
        exact sg_plain rfl (or_move f18)
      refine steps_cons (fun own a wx hf hs hE hO => ?_) ?_
      · obtain ⟨(f19 : a.eval (.tmp 19) = .bool true), -⟩ := hf
        obtain ⟨s8, -⟩ := hs
        exact sg_yes rfl rfl f19 (or_load ta30 (s8.trans ea11_8) (Blk.cellsFrom (hE.blk bg7_w10 (fun h => h rfl)) 0 rfl) rfl)
      refine steps_cons (fun own a wx hf hs hE hO => ?_) ?_
      · obtain ⟨(f19 : a.eval (.tmp 19) = .bool true), (f20 : a.eval (.tmp 20) = .agg #[.int .i64 bx, .int .i64 bY]), -⟩ := hf
        exact sg_yes rfl rfl f19 (or_call cf17 (args1 f20) ((may_any _ _ _).mono fun _ _ hh => ⟨hh.1.trans (congrArg (fun b => Ending.returned (.bool b)) c15), hh.2⟩) (post_val rfl))
      refine steps_cons (fun own a wx hf hs hE hO => ?_) ?_
      · obtain ⟨(f19 : a.eval (.tmp 19) = .bool true), (f21 : a.eval (.tmp 21) = .bool false), -⟩ := hf
        exact sg_plain rfl (or_pick_t f19 f21)
      refine steps_cons (fun own a wx hf hs hE hO => ?_) ?_
      · obtain ⟨(f22 : a.eval (.tmp 22) = .bool false), -⟩ := hf
        exact sg_plain rfl (or_move f22)
      refine steps_cons (fun own a wx hf hs hE hO => ?_) ?_
      · obtain ⟨(f23 : a.eval (.tmp 23) = .bool false), -⟩ := hf
        exact sg_no rfl rfl f23 rfl (fun a' ha => ha.1 24 rfl)
      refine steps_cons (fun own a wx hf hs hE hO => ?_) ?_
      · obtain ⟨(f23 : a.eval (.tmp 23) = .bool false), -⟩ := hf
        exact sg_no rfl rfl f23 rfl (fun a' ha => ha.1 25 rfl)
      refine steps_cons (fun own a wx hf hs hE hO => ?_) ?_
      · obtain ⟨(f23 : a.eval (.tmp 23) = .bool false), -⟩ := hf
        exact sg_plain rfl (or_pick_f f23 rfl)
      exact steps_nil
    intro owna29 a29 w30 hda29 hza29 hsa29 hfa29 hEa29 hOa29 hpa29
    have ea29_6 : a29.eval (.tmp 6) = .bool false := (hsa29 6 rfl).trans ea11_6
    have ea29_3 : a29.eval (.tmp 3) = .pointer (some ⟨g1, 0, none⟩) := (hsa29 3 rfl).trans ea11_3
    have ea29_4 : a29.eval (.tmp 4) = .pointer (some ⟨g2, 0, none⟩) := (hsa29 4 rfl).trans ea11_4
    have ea29_5 : a29.eval (.tmp 5) = .pointer (some ⟨g3, 0, none⟩) := (hsa29 5 rfl).trans ea11_5
    have ea29_7 : a29.eval (.tmp 7) = .pointer (some ⟨g6, 0, none⟩) := (hsa29 7 rfl).trans ea11_7
    have ea29_8 : a29.eval (.tmp 8) = .pointer (some ⟨g7, 0, none⟩) := (hsa29 8 rfl).trans ea11_8
    have ea29_9 : a29.eval (.tmp 9) = .pointer (some ⟨g8, 0, none⟩) := (hsa29 9 rfl).trans ea11_9
    have ea29_10 : a29.eval (.tmp 10) = .int .i64 0 := (hsa29 10 rfl).trans ea11_10
    obtain ⟨(ea29_26 : a29.eval (.tmp 26) = .bool false), -⟩ := hfa29 [9] rfl
    have hNa29 : Ext (fun _ => False) w10 w30 := hEa29.mono_ (fun _ h => h rfl)
    have bg1_w30 := hNa29.blk bg1_w10 (fun h => h)
    have bg2_w30 := hNa29.blk bg2_w10 (fun h => h)
    have bg3_w30 := hNa29.blk bg3_w10 (fun h => h)
    have bg6_w30 := hNa29.blk bg6_w10 (fun h => h)
    have bg7_w30 := hNa29.blk bg7_w10 (fun h => h)
    have bg8_w30 := hNa29.blk bg8_w10 (fun h => h)
    have hXw30_w := hXw10_w.trans_ hNa29 (fun b hb h1 h2 => by exact h2)
    have hBw30 : Below w.heap.size w w30 := hXw30_w.below (Nat.le_refl _) (fun _ _ h => h)
    clear hEa29 hOa29 hpa29 hfa29 hsa29
    refine wp_cond_false ea29_26 ?_
    refine fl_skip ?_
    refine hn13 _ _ ?_
    refine rg_draw_seq g_mixed (n := 74) (pu := false) (kl := []) (rs := []) (oth := 44) (own0 := (fun _ => 44))
        (bs := [0, 1, 3, 3, 3, 31, 63, 3, 3, 3, 899, 2047, 4095, 8191, 16383, 32767, 65535, 131071, 262143, 262143, 1048575, 262143, 262143, 8388607, 16777215, 33554431, 67108863, 134217727, 134217727, 134217727, 1073741823, 134217727, 4294967295, 8589934591, 17179869183, 34359738367, 34359738367, 34359738367, 274877906943, 34359738367, 1099511627775, 2199023255551, 4398046511103, 8796093022207])
        (ds := [⟨[], [], Fct.val 0 31 (.bool true)⟩,
        ⟨[0], [], Fct.val 1 32 (.bool true)⟩,
        ⟨[1], [3], Fct.val 2 33 (.agg #[.int .i64 ax, .int .i64 ay])⟩,
        ⟨[1], [4], Fct.val 3 34 (.agg #[.int .i64 bx, .int .i64 bY])⟩,
        ⟨[1], [5], Fct.val 4 35 (.agg #[.int .i64 cx, .int .i64 cy])⟩,
        ⟨[1, 2, 3, 4], [], Fct.blk 5 36 w30.heap.size (fun g => .slice (some ⟨g, 0, none⟩) 3 3) 29 #[.int .i64 ax, .int .i64 ay, .int .i64 bx, .int .i64 bY, .int .i64 cx, .int .i64 cy]⟩,
        ⟨[1, 5], [], Fct.val 6 37 (.bool (rightAll [(ax, ay), (bx, bY), (cx, cy)]))⟩,
        ⟨[1], [7], Fct.val 7 38 (.agg #[.int .i64 ax, .int .i64 ay])⟩,
        ⟨[1], [8], Fct.val 8 39 (.agg #[.int .i64 bx, .int .i64 bY])⟩,
        ⟨[1], [9], Fct.val 9 40 (.agg #[.int .i64 cx, .int .i64 cy])⟩,
        ⟨[1, 7, 8, 9], [], Fct.blk 10 41 w30.heap.size (fun g => .slice (some ⟨g, 0, none⟩) 3 3) 30 #[.int .i64 ax, .int .i64 ay, .int .i64 bx, .int .i64 bY, .int .i64 cx, .int .i64 cy]⟩,
        ⟨[1, 10], [], Fct.val 11 42 (.bool (rightAll [(ax, ay), (bx, bY), (cx, cy)]))⟩,
        ⟨[1, 6, 11], [], Fct.val 12 43 (.bool true)⟩,
        ⟨[1, 12], [], Fct.val 13 44 (.bool true)⟩,
        ⟨[13], [], Fct.val 14 45 (.bool true)⟩,
        ⟨[14], [], Fct.val 15 46 (.bool true)⟩,
        ⟨[14, 15], [], Fct.val 16 47 (.bool true)⟩,
        ⟨[16], [], Fct.val 17 48 (.bool true)⟩,
        ⟨[17], [3], Fct.val 18 49 (.agg #[.int .i64 ax, .int .i64 ay])⟩,
        ⟨[17], [4], Fct.val 19 50 (.agg #[.int .i64 bx, .int .i64 bY])⟩,
        ⟨[17, 18, 19], [], Fct.val 20 51 (.bool (lessB (ax, ay) (bx, bY)))⟩,
        ⟨[17], [7], Fct.val 21 52 (.agg #[.int .i64 ax, .int .i64 ay])⟩,
        ⟨[17], [8], Fct.val 22 53 (.agg #[.int .i64 bx, .int .i64 bY])⟩,
        ⟨[17, 21, 22], [], Fct.val 23 54 (.bool (lessB (ax, ay) (bx, bY)))⟩,
        ⟨[17, 20, 23], [], Fct.val 24 55 (.bool true)⟩,
        ⟨[17, 24], [], Fct.val 25 56 (.bool true)⟩,
        ⟨[25], [], Fct.val 26 57 (.bool true)⟩,
        ⟨[26], [3], Fct.val 27 58 (.agg #[.int .i64 ax, .int .i64 ay])⟩,
        ⟨[26], [4], Fct.val 28 59 (.agg #[.int .i64 bx, .int .i64 bY])⟩,
        ⟨[26], [5], Fct.val 29 60 (.agg #[.int .i64 cx, .int .i64 cy])⟩,
        ⟨[26, 27, 28, 29], [], Fct.val 30 61 (.int .i64 (cross (ax, ay) (bx, bY) (cx, cy)))⟩,
        ⟨[26], [10], Fct.val 31 62 (.int .i64 0)⟩,
        ⟨[26, 30, 31], [], Fct.val 32 63 (.bool true)⟩,
        ⟨[26, 32], [], Fct.val 33 64 (.bool true)⟩,
        ⟨[33], [], Fct.val 34 65 (.bool true)⟩,
        ⟨[34], [3], Fct.val 35 66 (.agg #[.int .i64 ax, .int .i64 ay])⟩,
        ⟨[34], [4], Fct.val 36 67 (.agg #[.int .i64 bx, .int .i64 bY])⟩,
        ⟨[34], [5], Fct.val 37 68 (.agg #[.int .i64 cx, .int .i64 cy])⟩,
        ⟨[34, 35, 36, 37], [], Fct.val 38 69 (.int .i64 (turn (ax, ay) (bx, bY) (cx, cy)))⟩,
        ⟨[34], [10], Fct.val 39 70 (.int .i64 0)⟩,
        ⟨[34, 39], [], Fct.val 40 71 (.int .i64 (signZ 0))⟩,
        ⟨[34, 38, 40], [], Fct.val 41 72 (.bool true)⟩,
        ⟨[34, 41], [], Fct.val 42 73 (.bool true)⟩,
        ⟨[42], [], Fct.val 43 6 (.bool true)⟩]) (by kernel_rfl) hza29 hda29 (fun _ h => nomatch h) ?_ ?_
    · refine steps_cons (fun own a wx hf hs hE hO => ?_) ?_
      · exact sg_plain rfl (or_call cf15 (args0) (known_any _) (post_val rfl))
      refine steps_cons (fun own a wx hf hs hE hO => ?_) ?_
      · obtain ⟨(f31 : a.eval (.tmp 31) = .bool true), -⟩ := hf
        exact sg_plain rfl (or_move f31)
      refine steps_cons (fun own a wx hf hs hE hO => ?_) ?_
      · obtain ⟨(f32 : a.eval (.tmp 32) = .bool true), -⟩ := hf
        obtain ⟨s3, -⟩ := hs
        exact sg_yes rfl rfl f32 (or_load ta29 (s3.trans ea29_3) (Blk.cellsFrom (hE.blk bg1_w30 (fun h => h rfl)) 0 rfl) rfl)
      refine steps_cons (fun own a wx hf hs hE hO => ?_) ?_
      · obtain ⟨(f32 : a.eval (.tmp 32) = .bool true), -⟩ := hf
        obtain ⟨s4, -⟩ := hs
        exact sg_yes rfl rfl f32 (or_load ta29 (s4.trans ea29_4) (Blk.cellsFrom (hE.blk bg2_w30 (fun h => h rfl)) 0 rfl) rfl)
      refine steps_cons (fun own a wx hf hs hE hO => ?_) ?_
      · obtain ⟨(f32 : a.eval (.tmp 32) = .bool true), -⟩ := hf
        obtain ⟨s5, -⟩ := hs
        exact sg_yes rfl rfl f32 (or_load ta29 (s5.trans ea29_5) (Blk.cellsFrom (hE.blk bg3_w30 (fun h => h rfl)) 0 rfl) rfl)
      refine steps_cons (fun own a wx hf hs hE hO => ?_) ?_
      · obtain ⟨(f32 : a.eval (.tmp 32) = .bool true), (f33 : a.eval (.tmp 33) = .agg #[.int .i64 ax, .int .i64 ay]), (f34 : a.eval (.tmp 34) = .agg #[.int .i64 bx, .int .i64 bY]), (f35 : a.eval (.tmp 35) = .agg #[.int .i64 cx, .int .i64 cy]), -⟩ := hf
        exact sg_yes rfl rfl f32 (or_new [(33, .agg #[.int .i64 ax, .int .i64 ay]), (34, .agg #[.int .i64 bx, .int .i64 bY]), (35, .agg #[.int .i64 cx, .int .i64 cy])] rfl rfl ⟨f33, f34, f35, trivial⟩ rfl hE.size (by kernel_rfl))
      refine steps_cons (fun own a wx hf hs hE hO => ?_) ?_
      · obtain ⟨(f32 : a.eval (.tmp 32) = .bool true), ⟨g31, (f36 : a.eval (.tmp 36) = .slice (some ⟨g31, 0, none⟩) 3 3), og31, lg31, bg31⟩, -⟩ := hf
        exact sg_yes rfl rfl f32 (or_call cf19 (args1 f36) (right_any _ _ _ [(ax, ay), (bx, bY), (cx, cy)] _ (blk_reads bg31 rfl rfl) rfl (by simp)) (post_val rfl))
      refine steps_cons (fun own a wx hf hs hE hO => ?_) ?_
      · obtain ⟨(f32 : a.eval (.tmp 32) = .bool true), -⟩ := hf
        obtain ⟨s7, -⟩ := hs
        exact sg_yes rfl rfl f32 (or_load ta30 (s7.trans ea29_7) (Blk.cellsFrom (hE.blk bg6_w30 (fun h => h rfl)) 0 rfl) rfl)
      refine steps_cons (fun own a wx hf hs hE hO => ?_) ?_
      · obtain ⟨(f32 : a.eval (.tmp 32) = .bool true), -⟩ := hf
        obtain ⟨s8, -⟩ := hs
        exact sg_yes rfl rfl f32 (or_load ta30 (s8.trans ea29_8) (Blk.cellsFrom (hE.blk bg7_w30 (fun h => h rfl)) 0 rfl) rfl)
      refine steps_cons (fun own a wx hf hs hE hO => ?_) ?_
      · obtain ⟨(f32 : a.eval (.tmp 32) = .bool true), -⟩ := hf
        obtain ⟨s9, -⟩ := hs
        exact sg_yes rfl rfl f32 (or_load ta30 (s9.trans ea29_9) (Blk.cellsFrom (hE.blk bg8_w30 (fun h => h rfl)) 0 rfl) rfl)
      refine steps_cons (fun own a wx hf hs hE hO => ?_) ?_
      · obtain ⟨(f32 : a.eval (.tmp 32) = .bool true), (f38 : a.eval (.tmp 38) = .agg #[.int .i64 ax, .int .i64 ay]), (f39 : a.eval (.tmp 39) = .agg #[.int .i64 bx, .int .i64 bY]), (f40 : a.eval (.tmp 40) = .agg #[.int .i64 cx, .int .i64 cy]), -⟩ := hf
        exact sg_yes rfl rfl f32 (or_new [(38, .agg #[.int .i64 ax, .int .i64 ay]), (39, .agg #[.int .i64 bx, .int .i64 bY]), (40, .agg #[.int .i64 cx, .int .i64 cy])] rfl rfl ⟨f38, f39, f40, trivial⟩ rfl hE.size (by kernel_rfl))
      refine steps_cons (fun own a wx hf hs hE hO => ?_) ?_
      · obtain ⟨(f32 : a.eval (.tmp 32) = .bool true), ⟨g32, (f41 : a.eval (.tmp 41) = .slice (some ⟨g32, 0, none⟩) 3 3), og32, lg32, bg32⟩, -⟩ := hf
        exact sg_yes rfl rfl f32 (or_call cf20 (args1 f41) (all_any _ _ _ [(ax, ay), (bx, bY), (cx, cy)] _ (blk_reads bg32 rfl rfl) rfl (by simp)) (post_val rfl))
      refine steps_cons (fun own a wx hf hs hE hO => ?_) ?_
      · obtain ⟨(f32 : a.eval (.tmp 32) = .bool true), (f37 : a.eval (.tmp 37) = .bool (rightAll [(ax, ay), (bx, bY), (cx, cy)])), (f42 : a.eval (.tmp 42) = .bool (rightAll [(ax, ay), (bx, bY), (cx, cy)])), -⟩ := hf
        exact sg_yes rfl rfl f32 (or_eqlb tb4 f37 f42 (by simp))
      refine steps_cons (fun own a wx hf hs hE hO => ?_) ?_
      · obtain ⟨(f32 : a.eval (.tmp 32) = .bool true), (f43 : a.eval (.tmp 43) = .bool true), -⟩ := hf
        exact sg_plain rfl (or_pick_t f32 f43)
      refine steps_cons (fun own a wx hf hs hE hO => ?_) ?_
      · obtain ⟨(f44 : a.eval (.tmp 44) = .bool true), -⟩ := hf
        exact sg_plain rfl (or_move f44)
      refine steps_cons (fun own a wx hf hs hE hO => ?_) ?_
      · obtain ⟨(f45 : a.eval (.tmp 45) = .bool true), -⟩ := hf
        exact sg_yes rfl rfl f45 (or_call cf19 (args1 rfl) ((right_any _ _ _ [] _ Reads.none_ rfl (by simp)).mono fun _ _ hh => ⟨hh.1.trans (congrArg (fun b => Ending.returned (.bool b)) hR0), hh.2⟩) (post_val rfl))
      refine steps_cons (fun own a wx hf hs hE hO => ?_) ?_
      · obtain ⟨(f45 : a.eval (.tmp 45) = .bool true), (f46 : a.eval (.tmp 46) = .bool true), -⟩ := hf
        exact sg_plain rfl (or_pick_t f45 f46)
      refine steps_cons (fun own a wx hf hs hE hO => ?_) ?_
      · obtain ⟨(f47 : a.eval (.tmp 47) = .bool true), -⟩ := hf
        exact sg_plain rfl (or_move f47)
      refine steps_cons (fun own a wx hf hs hE hO => ?_) ?_
      · obtain ⟨(f48 : a.eval (.tmp 48) = .bool true), -⟩ := hf
        obtain ⟨s3, -⟩ := hs
        exact sg_yes rfl rfl f48 (or_load ta29 (s3.trans ea29_3) (Blk.cellsFrom (hE.blk bg1_w30 (fun h => h rfl)) 0 rfl) rfl)
      refine steps_cons (fun own a wx hf hs hE hO => ?_) ?_
      · obtain ⟨(f48 : a.eval (.tmp 48) = .bool true), -⟩ := hf
        obtain ⟨s4, -⟩ := hs
        exact sg_yes rfl rfl f48 (or_load ta29 (s4.trans ea29_4) (Blk.cellsFrom (hE.blk bg2_w30 (fun h => h rfl)) 0 rfl) rfl)
      refine steps_cons (fun own a wx hf hs hE hO => ?_) ?_
      · obtain ⟨(f48 : a.eval (.tmp 48) = .bool true), (f49 : a.eval (.tmp 49) = .agg #[.int .i64 ax, .int .i64 ay]), (f50 : a.eval (.tmp 50) = .agg #[.int .i64 bx, .int .i64 bY]), -⟩ := hf
        exact sg_yes rfl rfl f48 (or_call cf21 (args2 f49 f50) (less_any _ _ _ _ _) (post_val rfl))
      refine steps_cons (fun own a wx hf hs hE hO => ?_) ?_
      · obtain ⟨(f48 : a.eval (.tmp 48) = .bool true), -⟩ := hf
        obtain ⟨s7, -⟩ := hs
        exact sg_yes rfl rfl f48 (or_load ta30 (s7.trans ea29_7) (Blk.cellsFrom (hE.blk bg6_w30 (fun h => h rfl)) 0 rfl) rfl)
      refine steps_cons (fun own a wx hf hs hE hO => ?_) ?_
      · obtain ⟨(f48 : a.eval (.tmp 48) = .bool true), -⟩ := hf
        obtain ⟨s8, -⟩ := hs
        exact sg_yes rfl rfl f48 (or_load ta30 (s8.trans ea29_8) (Blk.cellsFrom (hE.blk bg7_w30 (fun h => h rfl)) 0 rfl) rfl)
      refine steps_cons (fun own a wx hf hs hE hO => ?_) ?_
      · obtain ⟨(f48 : a.eval (.tmp 48) = .bool true), (f52 : a.eval (.tmp 52) = .agg #[.int .i64 ax, .int .i64 ay]), (f53 : a.eval (.tmp 53) = .agg #[.int .i64 bx, .int .i64 bY]), -⟩ := hf
        exact sg_yes rfl rfl f48 (or_call cf22 (args2 f52 f53) (refLess_any _ _ _ _ _) (post_val rfl))
      refine steps_cons (fun own a wx hf hs hE hO => ?_) ?_
      · obtain ⟨(f48 : a.eval (.tmp 48) = .bool true), (f51 : a.eval (.tmp 51) = .bool (lessB (ax, ay) (bx, bY))), (f54 : a.eval (.tmp 54) = .bool (lessB (ax, ay) (bx, bY))), -⟩ := hf
        exact sg_yes rfl rfl f48 (or_eqlb tb4 f51 f54 (by simp))
      refine steps_cons (fun own a wx hf hs hE hO => ?_) ?_
      · obtain ⟨(f48 : a.eval (.tmp 48) = .bool true), (f55 : a.eval (.tmp 55) = .bool true), -⟩ := hf
        exact sg_plain rfl (or_pick_t f48 f55)
      refine steps_cons (fun own a wx hf hs hE hO => ?_) ?_
      · obtain ⟨(f56 : a.eval (.tmp 56) = .bool true), -⟩ := hf
        exact sg_plain rfl (or_move f56)
      refine steps_cons (fun own a wx hf hs hE hO => ?_) ?_
      · obtain ⟨(f57 : a.eval (.tmp 57) = .bool true), -⟩ := hf
        obtain ⟨s3, -⟩ := hs
        exact sg_yes rfl rfl f57 (or_load ta29 (s3.trans ea29_3) (Blk.cellsFrom (hE.blk bg1_w30 (fun h => h rfl)) 0 rfl) rfl)
      refine steps_cons (fun own a wx hf hs hE hO => ?_) ?_
      · obtain ⟨(f57 : a.eval (.tmp 57) = .bool true), -⟩ := hf
        obtain ⟨s4, -⟩ := hs
        exact sg_yes rfl rfl f57 (or_load ta29 (s4.trans ea29_4) (Blk.cellsFrom (hE.blk bg2_w30 (fun h => h rfl)) 0 rfl) rfl)
      refine steps_cons (fun own a wx hf hs hE hO => ?_) ?_
      · obtain ⟨(f57 : a.eval (.tmp 57) = .bool true), -⟩ := hf
        obtain ⟨s5, -⟩ := hs
        exact sg_yes rfl rfl f57 (or_load ta29 (s5.trans ea29_5) (Blk.cellsFrom (hE.blk bg3_w30 (fun h => h rfl)) 0 rfl) rfl)
      refine steps_cons (fun own a wx hf hs hE hO => ?_) ?_
      · obtain ⟨(f57 : a.eval (.tmp 57) = .bool true), (f58 : a.eval (.tmp 58) = .agg #[.int .i64 ax, .int .i64 ay]), (f59 : a.eval (.tmp 59) = .agg #[.int .i64 bx, .int .i64 bY]), (f60 : a.eval (.tmp 60) = .agg #[.int .i64 cx, .int .i64 cy]), -⟩ := hf
        exact sg_yes rfl rfl f57 (or_call cf23 (args3 f58 f59 f60) (cross_any _ _ _ _ _ _ _) (post_val rfl))
      refine steps_cons (fun own a wx hf hs hE hO => ?_) ?_
      · obtain ⟨(f57 : a.eval (.tmp 57) = .bool true), -⟩ := hf
        obtain ⟨s10, -⟩ := hs
        exact sg_yes rfl rfl f57 (or_move (s10.trans ea29_10))
      refine steps_cons (fun own a wx hf hs hE hO => ?_) ?_
      · obtain ⟨(f57 : a.eval (.tmp 57) = .bool true), (f61 : a.eval (.tmp 61) = .int .i64 (cross (ax, ay) (bx, bY) (cx, cy))), (f62 : a.eval (.tmp 62) = .int .i64 0), -⟩ := hf
        exact sg_yes rfl rfl f57 (or_eql f61 f62 (areas_eq (by simp [cross, c14, c15])))
      refine steps_cons (fun own a wx hf hs hE hO => ?_) ?_
      · obtain ⟨(f57 : a.eval (.tmp 57) = .bool true), (f63 : a.eval (.tmp 63) = .bool true), -⟩ := hf
        exact sg_plain rfl (or_pick_t f57 f63)
      refine steps_cons (fun own a wx hf hs hE hO => ?_) ?_
      · obtain ⟨(f64 : a.eval (.tmp 64) = .bool true), -⟩ := hf
        exact sg_plain rfl (or_move f64)
      refine steps_cons (fun own a wx hf hs hE hO => ?_) ?_
      · obtain ⟨(f65 : a.eval (.tmp 65) = .bool true), -⟩ := hf
        obtain ⟨s3, -⟩ := hs
        exact sg_yes rfl rfl f65 (or_load ta29 (s3.trans ea29_3) (Blk.cellsFrom (hE.blk bg1_w30 (fun h => h rfl)) 0 rfl) rfl)
      refine steps_cons (fun own a wx hf hs hE hO => ?_) ?_
      · obtain ⟨(f65 : a.eval (.tmp 65) = .bool true), -⟩ := hf
        obtain ⟨s4, -⟩ := hs
        exact sg_yes rfl rfl f65 (or_load ta29 (s4.trans ea29_4) (Blk.cellsFrom (hE.blk bg2_w30 (fun h => h rfl)) 0 rfl) rfl)
      refine steps_cons (fun own a wx hf hs hE hO => ?_) ?_
      · obtain ⟨(f65 : a.eval (.tmp 65) = .bool true), -⟩ := hf
        obtain ⟨s5, -⟩ := hs
        exact sg_yes rfl rfl f65 (or_load ta29 (s5.trans ea29_5) (Blk.cellsFrom (hE.blk bg3_w30 (fun h => h rfl)) 0 rfl) rfl)
      refine steps_cons (fun own a wx hf hs hE hO => ?_) ?_
      · obtain ⟨(f65 : a.eval (.tmp 65) = .bool true), (f66 : a.eval (.tmp 66) = .agg #[.int .i64 ax, .int .i64 ay]), (f67 : a.eval (.tmp 67) = .agg #[.int .i64 bx, .int .i64 bY]), (f68 : a.eval (.tmp 68) = .agg #[.int .i64 cx, .int .i64 cy]), -⟩ := hf
        exact sg_yes rfl rfl f65 (or_call cf24 (args3 f66 f67 f68) (turn_any _ _ _ _ _ _ _) (post_val rfl))
      refine steps_cons (fun own a wx hf hs hE hO => ?_) ?_
      · obtain ⟨(f65 : a.eval (.tmp 65) = .bool true), -⟩ := hf
        obtain ⟨s10, -⟩ := hs
        exact sg_yes rfl rfl f65 (or_move (s10.trans ea29_10))
      refine steps_cons (fun own a wx hf hs hE hO => ?_) ?_
      · obtain ⟨(f65 : a.eval (.tmp 65) = .bool true), (f70 : a.eval (.tmp 70) = .int .i64 0), -⟩ := hf
        exact sg_yes rfl rfl f65 (or_call cf25 (args1 f70) (refSign_any _ _) post_same)
      refine steps_cons (fun own a wx hf hs hE hO => ?_) ?_
      · obtain ⟨(f65 : a.eval (.tmp 65) = .bool true), (f69 : a.eval (.tmp 69) = .int .i64 (turn (ax, ay) (bx, bY) (cx, cy))), (f71 : a.eval (.tmp 71) = .int .i64 (signZ 0)), -⟩ := hf
        exact sg_yes rfl rfl f65 (or_eql f69 f71 (areas_eq (by simp [turn_signZ, cross, c14, c15])))
      refine steps_cons (fun own a wx hf hs hE hO => ?_) ?_
      · obtain ⟨(f65 : a.eval (.tmp 65) = .bool true), (f72 : a.eval (.tmp 72) = .bool true), -⟩ := hf
        exact sg_plain rfl (or_pick_t f65 f72)
      refine steps_cons (fun own a wx hf hs hE hO => ?_) ?_
      · obtain ⟨(f73 : a.eval (.tmp 73) = .bool true), -⟩ := hf
        exact sg_plain rfl (or_assign f73)
      exact steps_nil
    intro owna33 a33 w34 hda33 hza33 hsa33 hfa33 hEa33 hOa33 hpa33
    obtain ⟨(ea33_6 : a33.eval (.tmp 6) = .bool true), -⟩ := hfa33 [43] rfl
    have hNa33 : Ext (fun _ => False) w30 w34 := hEa33.mono_ (fun _ h => h rfl)
    have hXw34_w := hXw30_w.trans_ hNa33 (fun b hb h1 h2 => by exact h2)
    have hBw34 : Below w.heap.size w w34 := hXw34_w.below (Nat.le_refl _) (fun _ _ h => h)
    clear hEa33 hOa33 hpa33 hfa33 hsa33
    refine fl_ret ?_
    refine hret _ _ hda33 ?_
    exact ⟨congrArg Ending.returned ea33_6, hBw34⟩
  refine rg_plain_seq (n := 74) (pu := false) (kl := []) (rs := []) (oth := 10) (own0 := (fun _ => 10))
      (bs := [0, 1, 3, 7, 15, 31, 63, 127, 255, 511])
      (ds := [⟨[], [7], Fct.val 0 17 (.agg #[.int .i64 ax, .int .i64 ay])⟩,
      ⟨[0], [], Fct.val 1 18 (.bool false)⟩,
      ⟨[1], [], Fct.val 2 19 (.bool false)⟩,
      ⟨[2], [], Fct.val 3 20 undef⟩,
      ⟨[2], [], Fct.val 4 21 undef⟩,
      ⟨[2], [], Fct.val 5 22 (.bool false)⟩,
      ⟨[5], [], Fct.val 6 23 (.bool false)⟩,
      ⟨[6], [], Fct.val 7 24 undef⟩,
      ⟨[6], [], Fct.val 8 25 undef⟩,
      ⟨[6], [], Fct.val 9 26 (.bool false)⟩]) (by kernel_rfl) hza11 hda11 (fun _ h => nomatch h) ?_ ?_
  · refine steps_cons (fun own a wx hf hs hE hO => ?_) ?_
    · obtain ⟨s7, -⟩ := hs
      exact sg_plain rfl (or_load ta30 (s7.trans ea11_7) (Blk.cellsFrom (hE.blk bg6_w10 (fun h => h rfl)) 0 rfl) rfl)
    refine steps_cons (fun own a wx hf hs hE hO => ?_) ?_
    · obtain ⟨(f17 : a.eval (.tmp 17) = .agg #[.int .i64 ax, .int .i64 ay]), -⟩ := hf
      exact sg_plain rfl (or_call cf17 (args1 f17) ((may_any _ _ _).mono fun _ _ hh => ⟨hh.1.trans (congrArg (fun b => Ending.returned (.bool b)) c14), hh.2⟩) (post_val rfl))
    refine steps_cons (fun own a wx hf hs hE hO => ?_) ?_
    · obtain ⟨(f18 : a.eval (.tmp 18) = .bool false), -⟩ := hf
      exact sg_plain rfl (or_move f18)
    refine steps_cons (fun own a wx hf hs hE hO => ?_) ?_
    · obtain ⟨(f19 : a.eval (.tmp 19) = .bool false), -⟩ := hf
      exact sg_no rfl rfl f19 rfl (fun a' ha => ha.1 20 rfl)
    refine steps_cons (fun own a wx hf hs hE hO => ?_) ?_
    · obtain ⟨(f19 : a.eval (.tmp 19) = .bool false), -⟩ := hf
      exact sg_no rfl rfl f19 rfl (fun a' ha => ha.1 21 rfl)
    refine steps_cons (fun own a wx hf hs hE hO => ?_) ?_
    · obtain ⟨(f19 : a.eval (.tmp 19) = .bool false), -⟩ := hf
      exact sg_plain rfl (or_pick_f f19 rfl)
    refine steps_cons (fun own a wx hf hs hE hO => ?_) ?_
    · obtain ⟨(f22 : a.eval (.tmp 22) = .bool false), -⟩ := hf
      exact sg_plain rfl (or_move f22)
    refine steps_cons (fun own a wx hf hs hE hO => ?_) ?_
    · obtain ⟨(f23 : a.eval (.tmp 23) = .bool false), -⟩ := hf
      exact sg_no rfl rfl f23 rfl (fun a' ha => ha.1 24 rfl)
    refine steps_cons (fun own a wx hf hs hE hO => ?_) ?_
    · obtain ⟨(f23 : a.eval (.tmp 23) = .bool false), -⟩ := hf
      exact sg_no rfl rfl f23 rfl (fun a' ha => ha.1 25 rfl)
    refine steps_cons (fun own a wx hf hs hE hO => ?_) ?_
    · obtain ⟨(f23 : a.eval (.tmp 23) = .bool false), -⟩ := hf
      exact sg_plain rfl (or_pick_f f23 rfl)
    exact steps_nil
  intro owna35 a35 w36 hda35 hza35 hsa35 hfa35 hEa35 hOa35 hpa35
  have ea35_6 : a35.eval (.tmp 6) = .bool false := (hsa35 6 rfl).trans ea11_6
  have ea35_3 : a35.eval (.tmp 3) = .pointer (some ⟨g1, 0, none⟩) := (hsa35 3 rfl).trans ea11_3
  have ea35_4 : a35.eval (.tmp 4) = .pointer (some ⟨g2, 0, none⟩) := (hsa35 4 rfl).trans ea11_4
  have ea35_5 : a35.eval (.tmp 5) = .pointer (some ⟨g3, 0, none⟩) := (hsa35 5 rfl).trans ea11_5
  have ea35_7 : a35.eval (.tmp 7) = .pointer (some ⟨g6, 0, none⟩) := (hsa35 7 rfl).trans ea11_7
  have ea35_8 : a35.eval (.tmp 8) = .pointer (some ⟨g7, 0, none⟩) := (hsa35 8 rfl).trans ea11_8
  have ea35_9 : a35.eval (.tmp 9) = .pointer (some ⟨g8, 0, none⟩) := (hsa35 9 rfl).trans ea11_9
  have ea35_10 : a35.eval (.tmp 10) = .int .i64 0 := (hsa35 10 rfl).trans ea11_10
  obtain ⟨(ea35_26 : a35.eval (.tmp 26) = .bool false), -⟩ := hfa35 [9] rfl
  have hNa35 : Ext (fun _ => False) w10 w36 := hEa35.mono_ (fun _ h => h rfl)
  have bg1_w36 := hNa35.blk bg1_w10 (fun h => h)
  have bg2_w36 := hNa35.blk bg2_w10 (fun h => h)
  have bg3_w36 := hNa35.blk bg3_w10 (fun h => h)
  have bg6_w36 := hNa35.blk bg6_w10 (fun h => h)
  have bg7_w36 := hNa35.blk bg7_w10 (fun h => h)
  have bg8_w36 := hNa35.blk bg8_w10 (fun h => h)
  have hXw36_w := hXw10_w.trans_ hNa35 (fun b hb h1 h2 => by exact h2)
  have hBw36 : Below w.heap.size w w36 := hXw36_w.below (Nat.le_refl _) (fun _ _ h => h)
  clear hEa35 hOa35 hpa35 hfa35 hsa35
  refine wp_cond_false ea35_26 ?_
  refine fl_skip ?_
  refine hn13 _ _ ?_
  refine rg_draw_seq g_mixed (n := 74) (pu := false) (kl := []) (rs := []) (oth := 44) (own0 := (fun _ => 44))
      (bs := [0, 1, 3, 3, 3, 31, 63, 3, 3, 3, 899, 2047, 4095, 8191, 16383, 32767, 65535, 131071, 262143, 262143, 1048575, 262143, 262143, 8388607, 16777215, 33554431, 67108863, 134217727, 134217727, 134217727, 1073741823, 134217727, 4294967295, 8589934591, 17179869183, 34359738367, 34359738367, 34359738367, 274877906943, 34359738367, 1099511627775, 2199023255551, 4398046511103, 8796093022207])
      (ds := [⟨[], [], Fct.val 0 31 (.bool true)⟩,
      ⟨[0], [], Fct.val 1 32 (.bool true)⟩,
      ⟨[1], [3], Fct.val 2 33 (.agg #[.int .i64 ax, .int .i64 ay])⟩,
      ⟨[1], [4], Fct.val 3 34 (.agg #[.int .i64 bx, .int .i64 bY])⟩,
      ⟨[1], [5], Fct.val 4 35 (.agg #[.int .i64 cx, .int .i64 cy])⟩,
      ⟨[1, 2, 3, 4], [], Fct.blk 5 36 w36.heap.size (fun g => .slice (some ⟨g, 0, none⟩) 3 3) 29 #[.int .i64 ax, .int .i64 ay, .int .i64 bx, .int .i64 bY, .int .i64 cx, .int .i64 cy]⟩,
      ⟨[1, 5], [], Fct.val 6 37 (.bool (rightAll [(ax, ay), (bx, bY), (cx, cy)]))⟩,
      ⟨[1], [7], Fct.val 7 38 (.agg #[.int .i64 ax, .int .i64 ay])⟩,
      ⟨[1], [8], Fct.val 8 39 (.agg #[.int .i64 bx, .int .i64 bY])⟩,
      ⟨[1], [9], Fct.val 9 40 (.agg #[.int .i64 cx, .int .i64 cy])⟩,
      ⟨[1, 7, 8, 9], [], Fct.blk 10 41 w36.heap.size (fun g => .slice (some ⟨g, 0, none⟩) 3 3) 30 #[.int .i64 ax, .int .i64 ay, .int .i64 bx, .int .i64 bY, .int .i64 cx, .int .i64 cy]⟩,
      ⟨[1, 10], [], Fct.val 11 42 (.bool (rightAll [(ax, ay), (bx, bY), (cx, cy)]))⟩,
      ⟨[1, 6, 11], [], Fct.val 12 43 (.bool true)⟩,
      ⟨[1, 12], [], Fct.val 13 44 (.bool true)⟩,
      ⟨[13], [], Fct.val 14 45 (.bool true)⟩,
      ⟨[14], [], Fct.val 15 46 (.bool true)⟩,
      ⟨[14, 15], [], Fct.val 16 47 (.bool true)⟩,
      ⟨[16], [], Fct.val 17 48 (.bool true)⟩,
      ⟨[17], [3], Fct.val 18 49 (.agg #[.int .i64 ax, .int .i64 ay])⟩,
      ⟨[17], [4], Fct.val 19 50 (.agg #[.int .i64 bx, .int .i64 bY])⟩,
      ⟨[17, 18, 19], [], Fct.val 20 51 (.bool (lessB (ax, ay) (bx, bY)))⟩,
      ⟨[17], [7], Fct.val 21 52 (.agg #[.int .i64 ax, .int .i64 ay])⟩,
      ⟨[17], [8], Fct.val 22 53 (.agg #[.int .i64 bx, .int .i64 bY])⟩,
      ⟨[17, 21, 22], [], Fct.val 23 54 (.bool (lessB (ax, ay) (bx, bY)))⟩,
      ⟨[17, 20, 23], [], Fct.val 24 55 (.bool true)⟩,
      ⟨[17, 24], [], Fct.val 25 56 (.bool true)⟩,
      ⟨[25], [], Fct.val 26 57 (.bool true)⟩,
      ⟨[26], [3], Fct.val 27 58 (.agg #[.int .i64 ax, .int .i64 ay])⟩,
      ⟨[26], [4], Fct.val 28 59 (.agg #[.int .i64 bx, .int .i64 bY])⟩,
      ⟨[26], [5], Fct.val 29 60 (.agg #[.int .i64 cx, .int .i64 cy])⟩,
      ⟨[26, 27, 28, 29], [], Fct.val 30 61 (.int .i64 (cross (ax, ay) (bx, bY) (cx, cy)))⟩,
      ⟨[26], [10], Fct.val 31 62 (.int .i64 0)⟩,
      ⟨[26, 30, 31], [], Fct.val 32 63 (.bool true)⟩,
      ⟨[26, 32], [], Fct.val 33 64 (.bool true)⟩,
      ⟨[33], [], Fct.val 34 65 (.bool true)⟩,
      ⟨[34], [3], Fct.val 35 66 (.agg #[.int .i64 ax, .int .i64 ay])⟩,
      ⟨[34], [4], Fct.val 36 67 (.agg #[.int .i64 bx, .int .i64 bY])⟩,
      ⟨[34], [5], Fct.val 37 68 (.agg #[.int .i64 cx, .int .i64 cy])⟩,
      ⟨[34, 35, 36, 37], [], Fct.val 38 69 (.int .i64 (turn (ax, ay) (bx, bY) (cx, cy)))⟩,
      ⟨[34], [10], Fct.val 39 70 (.int .i64 0)⟩,
      ⟨[34, 39], [], Fct.val 40 71 (.int .i64 (signZ 0))⟩,
      ⟨[34, 38, 40], [], Fct.val 41 72 (.bool true)⟩,
      ⟨[34, 41], [], Fct.val 42 73 (.bool true)⟩,
      ⟨[42], [], Fct.val 43 6 (.bool true)⟩]) (by kernel_rfl) hza35 hda35 (fun _ h => nomatch h) ?_ ?_
  · refine steps_cons (fun own a wx hf hs hE hO => ?_) ?_
    · exact sg_plain rfl (or_call cf15 (args0) (known_any _) (post_val rfl))
    refine steps_cons (fun own a wx hf hs hE hO => ?_) ?_
    · obtain ⟨(f31 : a.eval (.tmp 31) = .bool true), -⟩ := hf
      exact sg_plain rfl (or_move f31)
    refine steps_cons (fun own a wx hf hs hE hO => ?_) ?_
    · obtain ⟨(f32 : a.eval (.tmp 32) = .bool true), -⟩ := hf
      obtain ⟨s3, -⟩ := hs
      exact sg_yes rfl rfl f32 (or_load ta29 (s3.trans ea35_3) (Blk.cellsFrom (hE.blk bg1_w36 (fun h => h rfl)) 0 rfl) rfl)
    refine steps_cons (fun own a wx hf hs hE hO => ?_) ?_
    · obtain ⟨(f32 : a.eval (.tmp 32) = .bool true), -⟩ := hf
      obtain ⟨s4, -⟩ := hs
      exact sg_yes rfl rfl f32 (or_load ta29 (s4.trans ea35_4) (Blk.cellsFrom (hE.blk bg2_w36 (fun h => h rfl)) 0 rfl) rfl)
    refine steps_cons (fun own a wx hf hs hE hO => ?_) ?_
    · obtain ⟨(f32 : a.eval (.tmp 32) = .bool true), -⟩ := hf
      obtain ⟨s5, -⟩ := hs
      exact sg_yes rfl rfl f32 (or_load ta29 (s5.trans ea35_5) (Blk.cellsFrom (hE.blk bg3_w36 (fun h => h rfl)) 0 rfl) rfl)
    refine steps_cons (fun own a wx hf hs hE hO => ?_) ?_
    · obtain ⟨(f32 : a.eval (.tmp 32) = .bool true), (f33 : a.eval (.tmp 33) = .agg #[.int .i64 ax, .int .i64 ay]), (f34 : a.eval (.tmp 34) = .agg #[.int .i64 bx, .int .i64 bY]), (f35 : a.eval (.tmp 35) = .agg #[.int .i64 cx, .int .i64 cy]), -⟩ := hf
      exact sg_yes rfl rfl f32 (or_new [(33, .agg #[.int .i64 ax, .int .i64 ay]), (34, .agg #[.int .i64 bx, .int .i64 bY]), (35, .agg #[.int .i64 cx, .int .i64 cy])] rfl rfl ⟨f33, f34, f35, trivial⟩ rfl hE.size (by kernel_rfl))
    refine steps_cons (fun own a wx hf hs hE hO => ?_) ?_
    · obtain ⟨(f32 : a.eval (.tmp 32) = .bool true), ⟨g37, (f36 : a.eval (.tmp 36) = .slice (some ⟨g37, 0, none⟩) 3 3), og37, lg37, bg37⟩, -⟩ := hf
      exact sg_yes rfl rfl f32 (or_call cf19 (args1 f36) (right_any _ _ _ [(ax, ay), (bx, bY), (cx, cy)] _ (blk_reads bg37 rfl rfl) rfl (by simp)) (post_val rfl))
    refine steps_cons (fun own a wx hf hs hE hO => ?_) ?_
    · obtain ⟨(f32 : a.eval (.tmp 32) = .bool true), -⟩ := hf
      obtain ⟨s7, -⟩ := hs
      exact sg_yes rfl rfl f32 (or_load ta30 (s7.trans ea35_7) (Blk.cellsFrom (hE.blk bg6_w36 (fun h => h rfl)) 0 rfl) rfl)
    refine steps_cons (fun own a wx hf hs hE hO => ?_) ?_
    · obtain ⟨(f32 : a.eval (.tmp 32) = .bool true), -⟩ := hf
      obtain ⟨s8, -⟩ := hs
      exact sg_yes rfl rfl f32 (or_load ta30 (s8.trans ea35_8) (Blk.cellsFrom (hE.blk bg7_w36 (fun h => h rfl)) 0 rfl) rfl)
    refine steps_cons (fun own a wx hf hs hE hO => ?_) ?_
    · obtain ⟨(f32 : a.eval (.tmp 32) = .bool true), -⟩ := hf
      obtain ⟨s9, -⟩ := hs
      exact sg_yes rfl rfl f32 (or_load ta30 (s9.trans ea35_9) (Blk.cellsFrom (hE.blk bg8_w36 (fun h => h rfl)) 0 rfl) rfl)
    refine steps_cons (fun own a wx hf hs hE hO => ?_) ?_
    · obtain ⟨(f32 : a.eval (.tmp 32) = .bool true), (f38 : a.eval (.tmp 38) = .agg #[.int .i64 ax, .int .i64 ay]), (f39 : a.eval (.tmp 39) = .agg #[.int .i64 bx, .int .i64 bY]), (f40 : a.eval (.tmp 40) = .agg #[.int .i64 cx, .int .i64 cy]), -⟩ := hf
      exact sg_yes rfl rfl f32 (or_new [(38, .agg #[.int .i64 ax, .int .i64 ay]), (39, .agg #[.int .i64 bx, .int .i64 bY]), (40, .agg #[.int .i64 cx, .int .i64 cy])] rfl rfl ⟨f38, f39, f40, trivial⟩ rfl hE.size (by kernel_rfl))
    refine steps_cons (fun own a wx hf hs hE hO => ?_) ?_
    · obtain ⟨(f32 : a.eval (.tmp 32) = .bool true), ⟨g38, (f41 : a.eval (.tmp 41) = .slice (some ⟨g38, 0, none⟩) 3 3), og38, lg38, bg38⟩, -⟩ := hf
      exact sg_yes rfl rfl f32 (or_call cf20 (args1 f41) (all_any _ _ _ [(ax, ay), (bx, bY), (cx, cy)] _ (blk_reads bg38 rfl rfl) rfl (by simp)) (post_val rfl))
    refine steps_cons (fun own a wx hf hs hE hO => ?_) ?_
    · obtain ⟨(f32 : a.eval (.tmp 32) = .bool true), (f37 : a.eval (.tmp 37) = .bool (rightAll [(ax, ay), (bx, bY), (cx, cy)])), (f42 : a.eval (.tmp 42) = .bool (rightAll [(ax, ay), (bx, bY), (cx, cy)])), -⟩ := hf
      exact sg_yes rfl rfl f32 (or_eqlb tb4 f37 f42 (by simp))
    refine steps_cons (fun own a wx hf hs hE hO => ?_) ?_
    · obtain ⟨(f32 : a.eval (.tmp 32) = .bool true), (f43 : a.eval (.tmp 43) = .bool true), -⟩ := hf
      exact sg_plain rfl (or_pick_t f32 f43)
    refine steps_cons (fun own a wx hf hs hE hO => ?_) ?_
    · obtain ⟨(f44 : a.eval (.tmp 44) = .bool true), -⟩ := hf
      exact sg_plain rfl (or_move f44)
    refine steps_cons (fun own a wx hf hs hE hO => ?_) ?_
    · obtain ⟨(f45 : a.eval (.tmp 45) = .bool true), -⟩ := hf
      exact sg_yes rfl rfl f45 (or_call cf19 (args1 rfl) ((right_any _ _ _ [] _ Reads.none_ rfl (by simp)).mono fun _ _ hh => ⟨hh.1.trans (congrArg (fun b => Ending.returned (.bool b)) hR0), hh.2⟩) (post_val rfl))
    refine steps_cons (fun own a wx hf hs hE hO => ?_) ?_
    · obtain ⟨(f45 : a.eval (.tmp 45) = .bool true), (f46 : a.eval (.tmp 46) = .bool true), -⟩ := hf
      exact sg_plain rfl (or_pick_t f45 f46)
    refine steps_cons (fun own a wx hf hs hE hO => ?_) ?_
    · obtain ⟨(f47 : a.eval (.tmp 47) = .bool true), -⟩ := hf
      exact sg_plain rfl (or_move f47)
    refine steps_cons (fun own a wx hf hs hE hO => ?_) ?_
    · obtain ⟨(f48 : a.eval (.tmp 48) = .bool true), -⟩ := hf
      obtain ⟨s3, -⟩ := hs
      exact sg_yes rfl rfl f48 (or_load ta29 (s3.trans ea35_3) (Blk.cellsFrom (hE.blk bg1_w36 (fun h => h rfl)) 0 rfl) rfl)
    refine steps_cons (fun own a wx hf hs hE hO => ?_) ?_
    · obtain ⟨(f48 : a.eval (.tmp 48) = .bool true), -⟩ := hf
      obtain ⟨s4, -⟩ := hs
      exact sg_yes rfl rfl f48 (or_load ta29 (s4.trans ea35_4) (Blk.cellsFrom (hE.blk bg2_w36 (fun h => h rfl)) 0 rfl) rfl)
    refine steps_cons (fun own a wx hf hs hE hO => ?_) ?_
    · obtain ⟨(f48 : a.eval (.tmp 48) = .bool true), (f49 : a.eval (.tmp 49) = .agg #[.int .i64 ax, .int .i64 ay]), (f50 : a.eval (.tmp 50) = .agg #[.int .i64 bx, .int .i64 bY]), -⟩ := hf
      exact sg_yes rfl rfl f48 (or_call cf21 (args2 f49 f50) (less_any _ _ _ _ _) (post_val rfl))
    refine steps_cons (fun own a wx hf hs hE hO => ?_) ?_
    · obtain ⟨(f48 : a.eval (.tmp 48) = .bool true), -⟩ := hf
      obtain ⟨s7, -⟩ := hs
      exact sg_yes rfl rfl f48 (or_load ta30 (s7.trans ea35_7) (Blk.cellsFrom (hE.blk bg6_w36 (fun h => h rfl)) 0 rfl) rfl)
    refine steps_cons (fun own a wx hf hs hE hO => ?_) ?_
    · obtain ⟨(f48 : a.eval (.tmp 48) = .bool true), -⟩ := hf
      obtain ⟨s8, -⟩ := hs
      exact sg_yes rfl rfl f48 (or_load ta30 (s8.trans ea35_8) (Blk.cellsFrom (hE.blk bg7_w36 (fun h => h rfl)) 0 rfl) rfl)
    refine steps_cons (fun own a wx hf hs hE hO => ?_) ?_
    · obtain ⟨(f48 : a.eval (.tmp 48) = .bool true), (f52 : a.eval (.tmp 52) = .agg #[.int .i64 ax, .int .i64 ay]), (f53 : a.eval (.tmp 53) = .agg #[.int .i64 bx, .int .i64 bY]), -⟩ := hf
      exact sg_yes rfl rfl f48 (or_call cf22 (args2 f52 f53) (refLess_any _ _ _ _ _) (post_val rfl))
    refine steps_cons (fun own a wx hf hs hE hO => ?_) ?_
    · obtain ⟨(f48 : a.eval (.tmp 48) = .bool true), (f51 : a.eval (.tmp 51) = .bool (lessB (ax, ay) (bx, bY))), (f54 : a.eval (.tmp 54) = .bool (lessB (ax, ay) (bx, bY))), -⟩ := hf
      exact sg_yes rfl rfl f48 (or_eqlb tb4 f51 f54 (by simp))
    refine steps_cons (fun own a wx hf hs hE hO => ?_) ?_
    · obtain ⟨(f48 : a.eval (.tmp 48) = .bool true), (f55 : a.eval (.tmp 55) = .bool true), -⟩ := hf
      exact sg_plain rfl (or_pick_t f48 f55)
    refine steps_cons (fun own a wx hf hs hE hO => ?_) ?_
    · obtain ⟨(f56 : a.eval (.tmp 56) = .bool true), -⟩ := hf
      exact sg_plain rfl (or_move f56)
    refine steps_cons (fun own a wx hf hs hE hO => ?_) ?_
    · obtain ⟨(f57 : a.eval (.tmp 57) = .bool true), -⟩ := hf
      obtain ⟨s3, -⟩ := hs
      exact sg_yes rfl rfl f57 (or_load ta29 (s3.trans ea35_3) (Blk.cellsFrom (hE.blk bg1_w36 (fun h => h rfl)) 0 rfl) rfl)
    refine steps_cons (fun own a wx hf hs hE hO => ?_) ?_
    · obtain ⟨(f57 : a.eval (.tmp 57) = .bool true), -⟩ := hf
      obtain ⟨s4, -⟩ := hs
      exact sg_yes rfl rfl f57 (or_load ta29 (s4.trans ea35_4) (Blk.cellsFrom (hE.blk bg2_w36 (fun h => h rfl)) 0 rfl) rfl)
    refine steps_cons (fun own a wx hf hs hE hO => ?_) ?_
    · obtain ⟨(f57 : a.eval (.tmp 57) = .bool true), -⟩ := hf
      obtain ⟨s5, -⟩ := hs
      exact sg_yes rfl rfl f57 (or_load ta29 (s5.trans ea35_5) (Blk.cellsFrom (hE.blk bg3_w36 (fun h => h rfl)) 0 rfl) rfl)
    refine steps_cons (fun own a wx hf hs hE hO => ?_) ?_
    · obtain ⟨(f57 : a.eval (.tmp 57) = .bool true), (f58 : a.eval (.tmp 58) = .agg #[.int .i64 ax, .int .i64 ay]), (f59 : a.eval (.tmp 59) = .agg #[.int .i64 bx, .int .i64 bY]), (f60 : a.eval (.tmp 60) = .agg #[.int .i64 cx, .int .i64 cy]), -⟩ := hf
      exact sg_yes rfl rfl f57 (or_call cf23 (args3 f58 f59 f60) (cross_any _ _ _ _ _ _ _) (post_val rfl))
    refine steps_cons (fun own a wx hf hs hE hO => ?_) ?_
    · obtain ⟨(f57 : a.eval (.tmp 57) = .bool true), -⟩ := hf
      obtain ⟨s10, -⟩ := hs
      exact sg_yes rfl rfl f57 (or_move (s10.trans ea35_10))
    refine steps_cons (fun own a wx hf hs hE hO => ?_) ?_
    · obtain ⟨(f57 : a.eval (.tmp 57) = .bool true), (f61 : a.eval (.tmp 61) = .int .i64 (cross (ax, ay) (bx, bY) (cx, cy))), (f62 : a.eval (.tmp 62) = .int .i64 0), -⟩ := hf
      exact sg_yes rfl rfl f57 (or_eql f61 f62 (areas_eq (by simp [cross, c14])))
    refine steps_cons (fun own a wx hf hs hE hO => ?_) ?_
    · obtain ⟨(f57 : a.eval (.tmp 57) = .bool true), (f63 : a.eval (.tmp 63) = .bool true), -⟩ := hf
      exact sg_plain rfl (or_pick_t f57 f63)
    refine steps_cons (fun own a wx hf hs hE hO => ?_) ?_
    · obtain ⟨(f64 : a.eval (.tmp 64) = .bool true), -⟩ := hf
      exact sg_plain rfl (or_move f64)
    refine steps_cons (fun own a wx hf hs hE hO => ?_) ?_
    · obtain ⟨(f65 : a.eval (.tmp 65) = .bool true), -⟩ := hf
      obtain ⟨s3, -⟩ := hs
      exact sg_yes rfl rfl f65 (or_load ta29 (s3.trans ea35_3) (Blk.cellsFrom (hE.blk bg1_w36 (fun h => h rfl)) 0 rfl) rfl)
    refine steps_cons (fun own a wx hf hs hE hO => ?_) ?_
    · obtain ⟨(f65 : a.eval (.tmp 65) = .bool true), -⟩ := hf
      obtain ⟨s4, -⟩ := hs
      exact sg_yes rfl rfl f65 (or_load ta29 (s4.trans ea35_4) (Blk.cellsFrom (hE.blk bg2_w36 (fun h => h rfl)) 0 rfl) rfl)
    refine steps_cons (fun own a wx hf hs hE hO => ?_) ?_
    · obtain ⟨(f65 : a.eval (.tmp 65) = .bool true), -⟩ := hf
      obtain ⟨s5, -⟩ := hs
      exact sg_yes rfl rfl f65 (or_load ta29 (s5.trans ea35_5) (Blk.cellsFrom (hE.blk bg3_w36 (fun h => h rfl)) 0 rfl) rfl)
    refine steps_cons (fun own a wx hf hs hE hO => ?_) ?_
    · obtain ⟨(f65 : a.eval (.tmp 65) = .bool true), (f66 : a.eval (.tmp 66) = .agg #[.int .i64 ax, .int .i64 ay]), (f67 : a.eval (.tmp 67) = .agg #[.int .i64 bx, .int .i64 bY]), (f68 : a.eval (.tmp 68) = .agg #[.int .i64 cx, .int .i64 cy]), -⟩ := hf
      exact sg_yes rfl rfl f65 (or_call cf24 (args3 f66 f67 f68) (turn_any _ _ _ _ _ _ _) (post_val rfl))
    refine steps_cons (fun own a wx hf hs hE hO => ?_) ?_
    · obtain ⟨(f65 : a.eval (.tmp 65) = .bool true), -⟩ := hf
      obtain ⟨s10, -⟩ := hs
      exact sg_yes rfl rfl f65 (or_move (s10.trans ea35_10))
    refine steps_cons (fun own a wx hf hs hE hO => ?_) ?_
    · obtain ⟨(f65 : a.eval (.tmp 65) = .bool true), (f70 : a.eval (.tmp 70) = .int .i64 0), -⟩ := hf
      exact sg_yes rfl rfl f65 (or_call cf25 (args1 f70) (refSign_any _ _) post_same)
    refine steps_cons (fun own a wx hf hs hE hO => ?_) ?_
    · obtain ⟨(f65 : a.eval (.tmp 65) = .bool true), (f69 : a.eval (.tmp 69) = .int .i64 (turn (ax, ay) (bx, bY) (cx, cy))), (f71 : a.eval (.tmp 71) = .int .i64 (signZ 0)), -⟩ := hf
      exact sg_yes rfl rfl f65 (or_eql f69 f71 (areas_eq (by simp [turn_signZ, cross, c14])))
    refine steps_cons (fun own a wx hf hs hE hO => ?_) ?_
    · obtain ⟨(f65 : a.eval (.tmp 65) = .bool true), (f72 : a.eval (.tmp 72) = .bool true), -⟩ := hf
      exact sg_plain rfl (or_pick_t f65 f72)
    refine steps_cons (fun own a wx hf hs hE hO => ?_) ?_
    · obtain ⟨(f73 : a.eval (.tmp 73) = .bool true), -⟩ := hf
      exact sg_plain rfl (or_assign f73)
    exact steps_nil
  intro owna39 a39 w40 hda39 hza39 hsa39 hfa39 hEa39 hOa39 hpa39
  obtain ⟨(ea39_6 : a39.eval (.tmp 6) = .bool true), -⟩ := hfa39 [43] rfl
  have hNa39 : Ext (fun _ => False) w36 w40 := hEa39.mono_ (fun _ h => h rfl)
  have hXw40_w := hXw36_w.trans_ hNa39 (fun b hb h1 h2 => by exact h2)
  have hBw40 : Below w.heap.size w w40 := hXw40_w.below (Nat.le_refl _) (fun _ _ h => h)
  clear hEa39 hOa39 hpa39 hfa39 hsa39
  refine fl_ret ?_
  refine hret _ _ hda39 ?_
  exact ⟨congrArg Ending.returned ea39_6, hBw40⟩
theorem exactAreas_walk (ax ay : Int) (_ : PtOk (ax, ay)) (bx bY : Int) (_ : PtOk (bx, bY)) (cx cy : Int) (_ : PtOk (cx, cy)) (w : World) :
    Calls Try.prog 4 #[.agg #[.int .i64 ax, .int .i64 ay], .agg #[.int .i64 bx, .int .i64 bY], .agg #[.int .i64 cx, .int .i64 cy]] w fun e w' => e = .returned (.bool true) ∧ Below w.heap.size w w' :=
  exactAreas_core ax ay bx bY cx cy w
end Go.Proofs.Ytefhfbefgeadaaa
