/-
  The law ExactLies: whatever the input, the call returns true, and nothing that was there turns. Conditions: none.
-/
import Derived.Test.YtefhfbefgeadaaaTy
import Derived.Test.YtefhfbefgeadaaaKnown01
import Derived.Test.YtefhfbefgeadaaaRef4
import Derived.Test.YtefhfbefgeadaaaGeo02
import Derived.Test.YtefhfbefgeadaaaFrame
namespace Go.Proofs.Ytefhfbefgeadaaa
open Go.RowKit

theorem lies_eq {x y : Bool} (h : x = y) : (x == y) = true := by simp [h]
set_option maxHeartbeats 4000000 in
theorem exactLies_core (ax ay bx bY cx cy px py : Int) (w : World)  :
    Calls Try.prog 6 #[.agg #[.int .i64 ax, .int .i64 ay], .agg #[.int .i64 bx, .int .i64 bY], .agg #[.int .i64 cx, .int .i64 cy], .agg #[.int .i64 px, .int .i64 py]] w fun e w' => e = .returned (.bool true) ∧ Below w.heap.size w w' := by
  refine fl_enter (n := 65) (fun a => a.eval (.tmp 8)) Try.func6 rfl rfl (by simp) (res1 rfl) (fun a0 Q0 hd0 hz0 hA hret hend => ?_)
  have e0_0 : a0.eval (.tmp 0) = .agg #[.int .i64 ax, .int .i64 ay] := hA 0 _ rfl
  have e0_1 : a0.eval (.tmp 1) = .agg #[.int .i64 bx, .int .i64 bY] := hA 1 _ rfl
  have e0_2 : a0.eval (.tmp 2) = .agg #[.int .i64 cx, .int .i64 cy] := hA 2 _ rfl
  have e0_3 : a0.eval (.tmp 3) = .agg #[.int .i64 px, .int .i64 py] := hA 3 _ rfl
  clear hA
  have hB0 := Below.refl w.heap.size w
  have hX0 : Ext (fun _ => False) w w := Ext.refl _ _
  refine rg_plain_seq (n := 65) (pu := false) (kl := []) (rs := []) (oth := 5) (own0 := (fun _ => 5))
      (bs := [0, 0, 0, 0, 0])
      (ds := [⟨[], [0], Fct.blk 0 4 w.heap.size (fun g => .pointer (some ⟨g, 0, none⟩)) 29 #[.int .i64 ax, .int .i64 ay]⟩,
      ⟨[], [1], Fct.blk 1 5 w.heap.size (fun g => .pointer (some ⟨g, 0, none⟩)) 29 #[.int .i64 bx, .int .i64 bY]⟩,
      ⟨[], [2], Fct.blk 2 6 w.heap.size (fun g => .pointer (some ⟨g, 0, none⟩)) 29 #[.int .i64 cx, .int .i64 cy]⟩,
      ⟨[], [3], Fct.blk 3 7 w.heap.size (fun g => .pointer (some ⟨g, 0, none⟩)) 29 #[.int .i64 px, .int .i64 py]⟩,
      ⟨[], [], Fct.val 4 8 (.bool false)⟩]) (by kernel_rfl) hz0 hd0 (fun _ h => nomatch h) ?_ ?_
  · refine steps_cons (fun own a wx hf hs hE hO => ?_) ?_
    · obtain ⟨s0, -⟩ := hs
      exact sg_plain rfl (or_new [(0, .agg #[.int .i64 ax, .int .i64 ay])] rfl rfl ⟨(s0.trans e0_0), trivial⟩ rfl hE.size (by kernel_rfl))
    refine steps_cons (fun own a wx hf hs hE hO => ?_) ?_
    · obtain ⟨s1, -⟩ := hs
      exact sg_plain rfl (or_new [(1, .agg #[.int .i64 bx, .int .i64 bY])] rfl rfl ⟨(s1.trans e0_1), trivial⟩ rfl hE.size (by kernel_rfl))
    refine steps_cons (fun own a wx hf hs hE hO => ?_) ?_
    · obtain ⟨s2, -⟩ := hs
      exact sg_plain rfl (or_new [(2, .agg #[.int .i64 cx, .int .i64 cy])] rfl rfl ⟨(s2.trans e0_2), trivial⟩ rfl hE.size (by kernel_rfl))
    refine steps_cons (fun own a wx hf hs hE hO => ?_) ?_
    · obtain ⟨s3, -⟩ := hs
      exact sg_plain rfl (or_new [(3, .agg #[.int .i64 px, .int .i64 py])] rfl rfl ⟨(s3.trans e0_3), trivial⟩ rfl hE.size (by kernel_rfl))
    refine steps_cons (fun own a wx hf hs hE hO => ?_) ?_
    · exact sg_plain rfl (or_assign rfl)
    exact steps_nil
  intro owna5 a5 w6 hda5 hza5 hsa5 hfa5 hEa5 hOa5 hpa5
  obtain ⟨(ea5_8 : a5.eval (.tmp 8) = .bool false), ⟨g1, (ea5_4 : a5.eval (.tmp 4) = .pointer (some ⟨g1, 0, none⟩)), (og1_a5 : owna5 g1 = 0), (lg1_a5 : w.heap.size ≤ g1), (bg1_w6 : Blk w6 g1 29 #[.int .i64 ax, .int .i64 ay])⟩, ⟨g2, (ea5_5 : a5.eval (.tmp 5) = .pointer (some ⟨g2, 0, none⟩)), (og2_a5 : owna5 g2 = 1), (lg2_a5 : w.heap.size ≤ g2), (bg2_w6 : Blk w6 g2 29 #[.int .i64 bx, .int .i64 bY])⟩, ⟨g3, (ea5_6 : a5.eval (.tmp 6) = .pointer (some ⟨g3, 0, none⟩)), (og3_a5 : owna5 g3 = 2), (lg3_a5 : w.heap.size ≤ g3), (bg3_w6 : Blk w6 g3 29 #[.int .i64 cx, .int .i64 cy])⟩, ⟨g4, (ea5_7 : a5.eval (.tmp 7) = .pointer (some ⟨g4, 0, none⟩)), (og4_a5 : owna5 g4 = 3), (lg4_a5 : w.heap.size ≤ g4), (bg4_w6 : Blk w6 g4 29 #[.int .i64 px, .int .i64 py])⟩, -⟩ := hfa5 [4, 0, 1, 2, 3] rfl
  have ng1_g2 : g1 ≠ g2 := fun h => by rw [h] at og1_a5; exact absurd (og1_a5.symm.trans og2_a5) (by decide)
  have ng1_g3 : g1 ≠ g3 := fun h => by rw [h] at og1_a5; exact absurd (og1_a5.symm.trans og3_a5) (by decide)
  have ng2_g3 : g2 ≠ g3 := fun h => by rw [h] at og2_a5; exact absurd (og2_a5.symm.trans og3_a5) (by decide)
  have ng1_g4 : g1 ≠ g4 := fun h => by rw [h] at og1_a5; exact absurd (og1_a5.symm.trans og4_a5) (by decide)
  have ng2_g4 : g2 ≠ g4 := fun h => by rw [h] at og2_a5; exact absurd (og2_a5.symm.trans og4_a5) (by decide)
  have ng3_g4 : g3 ≠ g4 := fun h => by rw [h] at og3_a5; exact absurd (og3_a5.symm.trans og4_a5) (by decide)
  have hNa5 : Ext (fun _ => False) w w6 := hEa5.mono_ (fun _ h => h rfl)
  have hXw6_w := hX0.trans_ hNa5 (fun b hb h1 h2 => by exact h2)
  have hBw6 : Below w.heap.size w w6 := hXw6_w.below (Nat.le_refl _) (fun _ _ h => h)
  have kg1_a5 := Nat.le_trans hB0.size lg1_a5
  have tg1_a5 := bg1_w6.lt
  have kg2_a5 := Nat.le_trans hB0.size lg2_a5
  have tg2_a5 := bg2_w6.lt
  have kg3_a5 := Nat.le_trans hB0.size lg3_a5
  have tg3_a5 := bg3_w6.lt
  have kg4_a5 := Nat.le_trans hB0.size lg4_a5
  have tg4_a5 := bg4_w6.lt
  clear hEa5 hOa5 hpa5 hfa5 hsa5
  refine rg_draw_seq g_mixed (n := 65) (pu := false) (kl := [(12, 8), (13, 9), (14, 10), (15, 11)]) (rs := []) (oth := 16) (own0 := (fun _ => 16))
      (bs := [0, 1, 0, 7, 0, 31, 0, 127, 0, 0, 0, 0, 4095, 8191, 16383, 32767])
      (ds := [⟨[], [4], Fct.val 0 15 (.agg #[.int .i64 ax, .int .i64 ay])⟩,
      ⟨[0], [], Fct.val 1 16 (.agg #[.int .i64 ax, .int .i64 ay])⟩,
      ⟨[], [5], Fct.val 2 17 (.agg #[.int .i64 bx, .int .i64 bY])⟩,
      ⟨[2], [], Fct.val 3 18 (.agg #[.int .i64 bx, .int .i64 bY])⟩,
      ⟨[], [6], Fct.val 4 19 (.agg #[.int .i64 cx, .int .i64 cy])⟩,
      ⟨[4], [], Fct.val 5 20 (.agg #[.int .i64 cx, .int .i64 cy])⟩,
      ⟨[], [7], Fct.val 6 21 (.agg #[.int .i64 px, .int .i64 py])⟩,
      ⟨[6], [], Fct.val 7 22 (.agg #[.int .i64 px, .int .i64 py])⟩,
      ⟨[], [], Fct.blk 8 9 w6.heap.size (fun g => .pointer (some ⟨g, 0, none⟩)) 30 #[.int .i64 0, .int .i64 0]⟩,
      ⟨[], [], Fct.blk 9 10 w6.heap.size (fun g => .pointer (some ⟨g, 0, none⟩)) 30 #[.int .i64 0, .int .i64 0]⟩,
      ⟨[], [], Fct.blk 10 11 w6.heap.size (fun g => .pointer (some ⟨g, 0, none⟩)) 30 #[.int .i64 0, .int .i64 0]⟩,
      ⟨[], [], Fct.blk 11 12 w6.heap.size (fun g => .pointer (some ⟨g, 0, none⟩)) 30 #[.int .i64 0, .int .i64 0]⟩,
      ⟨[8, 1], [], Fct.blk 12 9 w6.heap.size (fun g => .pointer (some ⟨g, 0, none⟩)) 30 #[.int .i64 ax, .int .i64 ay]⟩,
      ⟨[9, 3], [], Fct.blk 13 10 w6.heap.size (fun g => .pointer (some ⟨g, 0, none⟩)) 30 #[.int .i64 bx, .int .i64 bY]⟩,
      ⟨[10, 5], [], Fct.blk 14 11 w6.heap.size (fun g => .pointer (some ⟨g, 0, none⟩)) 30 #[.int .i64 cx, .int .i64 cy]⟩,
      ⟨[11, 7], [], Fct.blk 15 12 w6.heap.size (fun g => .pointer (some ⟨g, 0, none⟩)) 30 #[.int .i64 px, .int .i64 py]⟩]) (by kernel_rfl) hza5 hda5 (fun _ h => nomatch h) ?_ ?_
  · refine steps_cons (fun own a wx hf hs hE hO => ?_) ?_
    · obtain ⟨s4, -⟩ := hs
      exact sg_plain rfl (or_load ta29 (s4.trans ea5_4) (Blk.cellsFrom (hE.blk bg1_w6 (fun h => h rfl)) 0 rfl) rfl)
    refine steps_cons (fun own a wx hf hs hE hO => ?_) ?_
    · obtain ⟨(f15 : a.eval (.tmp 15) = .agg #[.int .i64 ax, .int .i64 ay]), -⟩ := hf
      exact sg_plain rfl (or_call cf16 (args1 f15) (of_any _ _ _) (post_val rfl))
    refine steps_cons (fun own a wx hf hs hE hO => ?_) ?_
    · obtain ⟨s5, -⟩ := hs
      exact sg_plain rfl (or_load ta29 (s5.trans ea5_5) (Blk.cellsFrom (hE.blk bg2_w6 (fun h => h rfl)) 0 rfl) rfl)
    refine steps_cons (fun own a wx hf hs hE hO => ?_) ?_
    · obtain ⟨(f17 : a.eval (.tmp 17) = .agg #[.int .i64 bx, .int .i64 bY]), -⟩ := hf
      exact sg_plain rfl (or_call cf16 (args1 f17) (of_any _ _ _) (post_val rfl))
    refine steps_cons (fun own a wx hf hs hE hO => ?_) ?_
    · obtain ⟨s6, -⟩ := hs
      exact sg_plain rfl (or_load ta29 (s6.trans ea5_6) (Blk.cellsFrom (hE.blk bg3_w6 (fun h => h rfl)) 0 rfl) rfl)
    refine steps_cons (fun own a wx hf hs hE hO => ?_) ?_
    · obtain ⟨(f19 : a.eval (.tmp 19) = .agg #[.int .i64 cx, .int .i64 cy]), -⟩ := hf
      exact sg_plain rfl (or_call cf16 (args1 f19) (of_any _ _ _) (post_val rfl))
    refine steps_cons (fun own a wx hf hs hE hO => ?_) ?_
    · obtain ⟨s7, -⟩ := hs
      exact sg_plain rfl (or_load ta29 (s7.trans ea5_7) (Blk.cellsFrom (hE.blk bg4_w6 (fun h => h rfl)) 0 rfl) rfl)
    refine steps_cons (fun own a wx hf hs hE hO => ?_) ?_
    · obtain ⟨(f21 : a.eval (.tmp 21) = .agg #[.int .i64 px, .int .i64 py]), -⟩ := hf
      exact sg_plain rfl (or_call cf16 (args1 f21) (of_any _ _ _) (post_val rfl))
    refine steps_cons (fun own a wx hf hs hE hO => ?_) ?_
    · exact sg_plain rfl (or_new [] rfl rfl trivial rfl hE.size (by kernel_rfl))
    refine steps_cons (fun own a wx hf hs hE hO => ?_) ?_
    · exact sg_plain rfl (or_new [] rfl rfl trivial rfl hE.size (by kernel_rfl))
    refine steps_cons (fun own a wx hf hs hE hO => ?_) ?_
    · exact sg_plain rfl (or_new [] rfl rfl trivial rfl hE.size (by kernel_rfl))
    refine steps_cons (fun own a wx hf hs hE hO => ?_) ?_
    · exact sg_plain rfl (or_new [] rfl rfl trivial rfl hE.size (by kernel_rfl))
    refine steps_cons (fun own a wx hf hs hE hO => ?_) ?_
    · obtain ⟨⟨g7, (f9 : a.eval (.tmp 9) = .pointer (some ⟨g7, 0, none⟩)), og7, lg7, bg7⟩, (f16 : a.eval (.tmp 16) = .agg #[.int .i64 ax, .int .i64 ay]), -⟩ := hf
      exact sg_plain rfl (or_store (l := #[.int .i64 ax, .int .i64 ay]) ts30 rfl f9 f16 bg7 (by simp) (by kernel_rfl) (by rw [og7]; decide) (by kernel_rfl) (fun own' a' w' ho ha hb => ⟨_, (ha 9).trans f9, ho, lg7, hb⟩))
    refine steps_cons (fun own a wx hf hs hE hO => ?_) ?_
    · obtain ⟨⟨g8, (f10 : a.eval (.tmp 10) = .pointer (some ⟨g8, 0, none⟩)), og8, lg8, bg8⟩, (f18 : a.eval (.tmp 18) = .agg #[.int .i64 bx, .int .i64 bY]), -⟩ := hf
      exact sg_plain rfl (or_store (l := #[.int .i64 bx, .int .i64 bY]) ts30 rfl f10 f18 bg8 (by simp) (by kernel_rfl) (by rw [og8]; decide) (by kernel_rfl) (fun own' a' w' ho ha hb => ⟨_, (ha 10).trans f10, ho, lg8, hb⟩))
    refine steps_cons (fun own a wx hf hs hE hO => ?_) ?_
    · obtain ⟨⟨g9, (f11 : a.eval (.tmp 11) = .pointer (some ⟨g9, 0, none⟩)), og9, lg9, bg9⟩, (f20 : a.eval (.tmp 20) = .agg #[.int .i64 cx, .int .i64 cy]), -⟩ := hf
      exact sg_plain rfl (or_store (l := #[.int .i64 cx, .int .i64 cy]) ts30 rfl f11 f20 bg9 (by simp) (by kernel_rfl) (by rw [og9]; decide) (by kernel_rfl) (fun own' a' w' ho ha hb => ⟨_, (ha 11).trans f11, ho, lg9, hb⟩))
    refine steps_cons (fun own a wx hf hs hE hO => ?_) ?_
    · obtain ⟨⟨g10, (f12 : a.eval (.tmp 12) = .pointer (some ⟨g10, 0, none⟩)), og10, lg10, bg10⟩, (f22 : a.eval (.tmp 22) = .agg #[.int .i64 px, .int .i64 py]), -⟩ := hf
      exact sg_plain rfl (or_store (l := #[.int .i64 px, .int .i64 py]) ts30 rfl f12 f22 bg10 (by simp) (by kernel_rfl) (by rw [og10]; decide) (by kernel_rfl) (fun own' a' w' ho ha hb => ⟨_, (ha 12).trans f12, ho, lg10, hb⟩))
    exact steps_nil
  intro owna11 a11 w12 hda11 hza11 hsa11 hfa11 hEa11 hOa11 hpa11
  have ea11_8 : a11.eval (.tmp 8) = .bool false := (hsa11 8 rfl).trans ea5_8
  have ea11_4 : a11.eval (.tmp 4) = .pointer (some ⟨g1, 0, none⟩) := (hsa11 4 rfl).trans ea5_4
  have ea11_5 : a11.eval (.tmp 5) = .pointer (some ⟨g2, 0, none⟩) := (hsa11 5 rfl).trans ea5_5
  have ea11_6 : a11.eval (.tmp 6) = .pointer (some ⟨g3, 0, none⟩) := (hsa11 6 rfl).trans ea5_6
  have ea11_7 : a11.eval (.tmp 7) = .pointer (some ⟨g4, 0, none⟩) := (hsa11 7 rfl).trans ea5_7
  obtain ⟨⟨g7, (ea11_9 : a11.eval (.tmp 9) = .pointer (some ⟨g7, 0, none⟩)), (og7_a11 : owna11 g7 = 12), (lg7_a11 : w6.heap.size ≤ g7), (bg7_w12 : Blk w12 g7 30 #[.int .i64 ax, .int .i64 ay])⟩, ⟨g8, (ea11_10 : a11.eval (.tmp 10) = .pointer (some ⟨g8, 0, none⟩)), (og8_a11 : owna11 g8 = 13), (lg8_a11 : w6.heap.size ≤ g8), (bg8_w12 : Blk w12 g8 30 #[.int .i64 bx, .int .i64 bY])⟩, ⟨g9, (ea11_11 : a11.eval (.tmp 11) = .pointer (some ⟨g9, 0, none⟩)), (og9_a11 : owna11 g9 = 14), (lg9_a11 : w6.heap.size ≤ g9), (bg9_w12 : Blk w12 g9 30 #[.int .i64 cx, .int .i64 cy])⟩, ⟨g10, (ea11_12 : a11.eval (.tmp 12) = .pointer (some ⟨g10, 0, none⟩)), (og10_a11 : owna11 g10 = 15), (lg10_a11 : w6.heap.size ≤ g10), (bg10_w12 : Blk w12 g10 30 #[.int .i64 px, .int .i64 py])⟩, -⟩ := hfa11 [12, 13, 14, 15] rfl
  have ng7_g8 : g7 ≠ g8 := fun h => by rw [h] at og7_a11; exact absurd (og7_a11.symm.trans og8_a11) (by decide)
  have ng7_g9 : g7 ≠ g9 := fun h => by rw [h] at og7_a11; exact absurd (og7_a11.symm.trans og9_a11) (by decide)
  have ng8_g9 : g8 ≠ g9 := fun h => by rw [h] at og8_a11; exact absurd (og8_a11.symm.trans og9_a11) (by decide)
  have ng7_g10 : g7 ≠ g10 := fun h => by rw [h] at og7_a11; exact absurd (og7_a11.symm.trans og10_a11) (by decide)
  have ng8_g10 : g8 ≠ g10 := fun h => by rw [h] at og8_a11; exact absurd (og8_a11.symm.trans og10_a11) (by decide)
  have ng9_g10 : g9 ≠ g10 := fun h => by rw [h] at og9_a11; exact absurd (og9_a11.symm.trans og10_a11) (by decide)
  have hNa11 : Ext (fun _ => False) w6 w12 := hEa11.mono_ (fun _ h => h rfl)
  have bg1_w12 := hNa11.blk bg1_w6 (fun h => h)
  have bg2_w12 := hNa11.blk bg2_w6 (fun h => h)
  have bg3_w12 := hNa11.blk bg3_w6 (fun h => h)
  have bg4_w12 := hNa11.blk bg4_w6 (fun h => h)
  have hXw12_w := hXw6_w.trans_ hNa11 (fun b hb h1 h2 => by exact h2)
  have hBw12 : Below w.heap.size w w12 := hXw12_w.below (Nat.le_refl _) (fun _ _ h => h)
  have kg7_a11 := Nat.le_trans hBw6.size lg7_a11
  have tg7_a11 := bg7_w12.lt
  have kg8_a11 := Nat.le_trans hBw6.size lg8_a11
  have tg8_a11 := bg8_w12.lt
  have kg9_a11 := Nat.le_trans hBw6.size lg9_a11
  have tg9_a11 := bg9_w12.lt
  have kg10_a11 := Nat.le_trans hBw6.size lg10_a11
  have tg10_a11 := bg10_w12.lt
  clear hEa11 hOa11 hpa11 hfa11 hsa11
  rcases Bool.eq_false_or_eq_true (rightAll [(ax, ay), (bx, bY), (px, py)]) with c14 | c14
  · have r_ax_c14 : rightB (ax, ay) = true := right_and c14 (by simp)
    have r_bx_c14 : rightB (bx, bY) = true := right_and c14 (by simp)
    have r_px_c14 : rightB (px, py) = true := right_and c14 (by simp)
    refine rg_plain_seq (n := 65) (pu := false) (kl := []) (rs := []) (oth := 12) (own0 := (fun _ => 12))
        (bs := [0, 0, 0, 7, 15, 31, 63, 63, 63, 511, 1023, 2047])
        (ds := [⟨[], [9], Fct.val 0 23 (.agg #[.int .i64 ax, .int .i64 ay])⟩,
        ⟨[], [10], Fct.val 1 24 (.agg #[.int .i64 bx, .int .i64 bY])⟩,
        ⟨[], [12], Fct.val 2 25 (.agg #[.int .i64 px, .int .i64 py])⟩,
        ⟨[0, 1, 2], [], Fct.blk 3 26 w12.heap.size (fun g => .slice (some ⟨g, 0, none⟩) 3 3) 30 #[.int .i64 ax, .int .i64 ay, .int .i64 bx, .int .i64 bY, .int .i64 px, .int .i64 py]⟩,
        ⟨[3], [], Fct.val 4 27 (.bool true)⟩,
        ⟨[4], [], Fct.val 5 28 (.bool true)⟩,
        ⟨[5], [9], Fct.val 6 29 (.agg #[.int .i64 ax, .int .i64 ay])⟩,
        ⟨[5], [10], Fct.val 7 30 (.agg #[.int .i64 bx, .int .i64 bY])⟩,
        ⟨[5], [12], Fct.val 8 31 (.agg #[.int .i64 px, .int .i64 py])⟩,
        ⟨[5, 6, 7, 8], [], Fct.val 9 32 (.bool (refOn (ax, ay) (bx, bY) (px, py)))⟩,
        ⟨[5, 9], [], Fct.val 10 33 (.bool (refOn (ax, ay) (bx, bY) (px, py)))⟩,
        ⟨[10], [], Fct.val 11 13 (.bool (refOn (ax, ay) (bx, bY) (px, py)))⟩]) (by kernel_rfl) hza11 hda11 (fun _ h => nomatch h) ?_ ?_
    · refine steps_cons (fun own a wx hf hs hE hO => ?_) ?_
      · obtain ⟨s9, -⟩ := hs
        exact sg_plain rfl (or_load ta30 (s9.trans ea11_9) (Blk.cellsFrom (hE.blk bg7_w12 (fun h => h rfl)) 0 rfl) rfl)
      refine steps_cons (fun own a wx hf hs hE hO => ?_) ?_
      · obtain ⟨s10, -⟩ := hs
        exact sg_plain rfl (or_load ta30 (s10.trans ea11_10) (Blk.cellsFrom (hE.blk bg8_w12 (fun h => h rfl)) 0 rfl) rfl)
      refine steps_cons (fun own a wx hf hs hE hO => ?_) ?_
      · obtain ⟨s12, -⟩ := hs
        exact sg_plain rfl (or_load ta30 (s12.trans ea11_12) (Blk.cellsFrom (hE.blk bg10_w12 (fun h => h rfl)) 0 rfl) rfl)
      refine steps_cons (fun own a wx hf hs hE hO => ?_) ?_
      · obtain ⟨(f23 : a.eval (.tmp 23) = .agg #[.int .i64 ax, .int .i64 ay]), (f24 : a.eval (.tmp 24) = .agg #[.int .i64 bx, .int .i64 bY]), (f25 : a.eval (.tmp 25) = .agg #[.int .i64 px, .int .i64 py]), -⟩ := hf
        exact sg_plain rfl (or_new [(23, .agg #[.int .i64 ax, .int .i64 ay]), (24, .agg #[.int .i64 bx, .int .i64 bY]), (25, .agg #[.int .i64 px, .int .i64 py])] rfl rfl ⟨f23, f24, f25, trivial⟩ rfl hE.size (by kernel_rfl))
      refine steps_cons (fun own a wx hf hs hE hO => ?_) ?_
      · obtain ⟨⟨g15, (f26 : a.eval (.tmp 26) = .slice (some ⟨g15, 0, none⟩) 3 3), og15, lg15, bg15⟩, -⟩ := hf
        exact sg_plain rfl (or_call cf20 (args1 f26) ((all_any _ _ _ [(ax, ay), (bx, bY), (px, py)] _ (blk_reads bg15 rfl rfl) rfl (by simp)).mono fun _ _ hh => ⟨hh.1.trans (congrArg (fun b => Ending.returned (.bool b)) c14), hh.2⟩) (post_val rfl))
      refine steps_cons (fun own a wx hf hs hE hO => ?_) ?_
      · obtain ⟨(f27 : a.eval (.tmp 27) = .bool true), -⟩ := hf
        exact sg_plain rfl (or_move f27)
      refine steps_cons (fun own a wx hf hs hE hO => ?_) ?_
      · obtain ⟨(f28 : a.eval (.tmp 28) = .bool true), -⟩ := hf
        obtain ⟨s9, -⟩ := hs
        exact sg_yes rfl rfl f28 (or_load ta30 (s9.trans ea11_9) (Blk.cellsFrom (hE.blk bg7_w12 (fun h => h rfl)) 0 rfl) rfl)
      refine steps_cons (fun own a wx hf hs hE hO => ?_) ?_
      · obtain ⟨(f28 : a.eval (.tmp 28) = .bool true), -⟩ := hf
        obtain ⟨s10, -⟩ := hs
        exact sg_yes rfl rfl f28 (or_load ta30 (s10.trans ea11_10) (Blk.cellsFrom (hE.blk bg8_w12 (fun h => h rfl)) 0 rfl) rfl)
      refine steps_cons (fun own a wx hf hs hE hO => ?_) ?_
      · obtain ⟨(f28 : a.eval (.tmp 28) = .bool true), -⟩ := hf
        obtain ⟨s12, -⟩ := hs
        exact sg_yes rfl rfl f28 (or_load ta30 (s12.trans ea11_12) (Blk.cellsFrom (hE.blk bg10_w12 (fun h => h rfl)) 0 rfl) rfl)
      refine steps_cons (fun own a wx hf hs hE hO => ?_) ?_
      · obtain ⟨(f28 : a.eval (.tmp 28) = .bool true), (f29 : a.eval (.tmp 29) = .agg #[.int .i64 ax, .int .i64 ay]), (f30 : a.eval (.tmp 30) = .agg #[.int .i64 bx, .int .i64 bY]), (f31 : a.eval (.tmp 31) = .agg #[.int .i64 px, .int .i64 py]), -⟩ := hf
        exact sg_yes rfl rfl f28 (or_call cf28 (args3 f29 f30 f31) (refOn_any _ _ _ _ _ _ _ (by assumption) (by assumption) (by assumption)) (post_val rfl))
      refine steps_cons (fun own a wx hf hs hE hO => ?_) ?_
      · obtain ⟨(f28 : a.eval (.tmp 28) = .bool true), (f32 : a.eval (.tmp 32) = .bool (refOn (ax, ay) (bx, bY) (px, py))), -⟩ := hf
        exact sg_plain rfl (or_pick_t f28 f32)
      refine steps_cons (fun own a wx hf hs hE hO => ?_) ?_
      · obtain ⟨(f33 : a.eval (.tmp 33) = .bool (refOn (ax, ay) (bx, bY) (px, py))), -⟩ := hf
        exact sg_plain rfl (or_assign f33)
      exact steps_nil
    intro owna16 a16 w17 hda16 hza16 hsa16 hfa16 hEa16 hOa16 hpa16
    have ea16_8 : a16.eval (.tmp 8) = .bool false := (hsa16 8 rfl).trans ea11_8
    have ea16_4 : a16.eval (.tmp 4) = .pointer (some ⟨g1, 0, none⟩) := (hsa16 4 rfl).trans ea11_4
    have ea16_5 : a16.eval (.tmp 5) = .pointer (some ⟨g2, 0, none⟩) := (hsa16 5 rfl).trans ea11_5
    have ea16_6 : a16.eval (.tmp 6) = .pointer (some ⟨g3, 0, none⟩) := (hsa16 6 rfl).trans ea11_6
    have ea16_7 : a16.eval (.tmp 7) = .pointer (some ⟨g4, 0, none⟩) := (hsa16 7 rfl).trans ea11_7
    have ea16_9 : a16.eval (.tmp 9) = .pointer (some ⟨g7, 0, none⟩) := (hsa16 9 rfl).trans ea11_9
    have ea16_10 : a16.eval (.tmp 10) = .pointer (some ⟨g8, 0, none⟩) := (hsa16 10 rfl).trans ea11_10
    have ea16_11 : a16.eval (.tmp 11) = .pointer (some ⟨g9, 0, none⟩) := (hsa16 11 rfl).trans ea11_11
    have ea16_12 : a16.eval (.tmp 12) = .pointer (some ⟨g10, 0, none⟩) := (hsa16 12 rfl).trans ea11_12
    obtain ⟨(ea16_13 : a16.eval (.tmp 13) = .bool (refOn (ax, ay) (bx, bY) (px, py))), -⟩ := hfa16 [11] rfl
    have hNa16 : Ext (fun _ => False) w12 w17 := hEa16.mono_ (fun _ h => h rfl)
    have bg1_w17 := hNa16.blk bg1_w12 (fun h => h)
    have bg2_w17 := hNa16.blk bg2_w12 (fun h => h)
    have bg3_w17 := hNa16.blk bg3_w12 (fun h => h)
    have bg4_w17 := hNa16.blk bg4_w12 (fun h => h)
    have bg7_w17 := hNa16.blk bg7_w12 (fun h => h)
    have bg8_w17 := hNa16.blk bg8_w12 (fun h => h)
    have bg9_w17 := hNa16.blk bg9_w12 (fun h => h)
    have bg10_w17 := hNa16.blk bg10_w12 (fun h => h)
    have hXw17_w := hXw12_w.trans_ hNa16 (fun b hb h1 h2 => by exact h2)
    have hBw17 : Below w.heap.size w w17 := hXw17_w.below (Nat.le_refl _) (fun _ _ h => h)
    clear hEa16 hOa16 hpa16 hfa16 hsa16
    rcases Bool.eq_false_or_eq_true (rightAll [(ax, ay), (bx, bY), (cx, cy), (px, py)]) with c19 | c19
    · have r_ax_c19 : rightB (ax, ay) = true := right_and c19 (by simp)
      have r_bx_c19 : rightB (bx, bY) = true := right_and c19 (by simp)
      have r_cx_c19 : rightB (cx, cy) = true := right_and c19 (by simp)
      have r_px_c19 : rightB (px, py) = true := right_and c19 (by simp)
      refine rg_plain_seq (n := 65) (pu := false) (kl := []) (rs := []) (oth := 14) (own0 := (fun _ => 14))
          (bs := [0, 0, 0, 0, 15, 31, 63, 127, 127, 127, 127, 2047, 4095, 8191])
          (ds := [⟨[], [9], Fct.val 0 34 (.agg #[.int .i64 ax, .int .i64 ay])⟩,
          ⟨[], [10], Fct.val 1 35 (.agg #[.int .i64 bx, .int .i64 bY])⟩,
          ⟨[], [11], Fct.val 2 36 (.agg #[.int .i64 cx, .int .i64 cy])⟩,
          ⟨[], [12], Fct.val 3 37 (.agg #[.int .i64 px, .int .i64 py])⟩,
          ⟨[0, 1, 2, 3], [], Fct.blk 4 38 w17.heap.size (fun g => .slice (some ⟨g, 0, none⟩) 4 4) 30 #[.int .i64 ax, .int .i64 ay, .int .i64 bx, .int .i64 bY, .int .i64 cx, .int .i64 cy, .int .i64 px, .int .i64 py]⟩,
          ⟨[4], [], Fct.val 5 39 (.bool true)⟩,
          ⟨[5], [], Fct.val 6 40 (.bool true)⟩,
          ⟨[6], [9], Fct.val 7 41 (.agg #[.int .i64 ax, .int .i64 ay])⟩,
          ⟨[6], [10], Fct.val 8 42 (.agg #[.int .i64 bx, .int .i64 bY])⟩,
          ⟨[6], [11], Fct.val 9 43 (.agg #[.int .i64 cx, .int .i64 cy])⟩,
          ⟨[6], [12], Fct.val 10 44 (.agg #[.int .i64 px, .int .i64 py])⟩,
          ⟨[6, 7, 8, 9, 10], [], Fct.val 11 45 (.bool (refIn (ax, ay) (bx, bY) (cx, cy) (px, py)))⟩,
          ⟨[6, 11], [], Fct.val 12 46 (.bool (refIn (ax, ay) (bx, bY) (cx, cy) (px, py)))⟩,
          ⟨[12], [], Fct.val 13 14 (.bool (refIn (ax, ay) (bx, bY) (cx, cy) (px, py)))⟩]) (by kernel_rfl) hza16 hda16 (fun _ h => nomatch h) ?_ ?_
      · refine steps_cons (fun own a wx hf hs hE hO => ?_) ?_
        · obtain ⟨s9, -⟩ := hs
          exact sg_plain rfl (or_load ta30 (s9.trans ea16_9) (Blk.cellsFrom (hE.blk bg7_w17 (fun h => h rfl)) 0 rfl) rfl)
        refine steps_cons (fun own a wx hf hs hE hO => ?_) ?_
        · obtain ⟨s10, -⟩ := hs
          exact sg_plain rfl (or_load ta30 (s10.trans ea16_10) (Blk.cellsFrom (hE.blk bg8_w17 (fun h => h rfl)) 0 rfl) rfl)
        refine steps_cons (fun own a wx hf hs hE hO => ?_) ?_
        · obtain ⟨s11, -⟩ := hs
          exact sg_plain rfl (or_load ta30 (s11.trans ea16_11) (Blk.cellsFrom (hE.blk bg9_w17 (fun h => h rfl)) 0 rfl) rfl)
        refine steps_cons (fun own a wx hf hs hE hO => ?_) ?_
        · obtain ⟨s12, -⟩ := hs
          exact sg_plain rfl (or_load ta30 (s12.trans ea16_12) (Blk.cellsFrom (hE.blk bg10_w17 (fun h => h rfl)) 0 rfl) rfl)
        refine steps_cons (fun own a wx hf hs hE hO => ?_) ?_
        · obtain ⟨(f34 : a.eval (.tmp 34) = .agg #[.int .i64 ax, .int .i64 ay]), (f35 : a.eval (.tmp 35) = .agg #[.int .i64 bx, .int .i64 bY]), (f36 : a.eval (.tmp 36) = .agg #[.int .i64 cx, .int .i64 cy]), (f37 : a.eval (.tmp 37) = .agg #[.int .i64 px, .int .i64 py]), -⟩ := hf
          exact sg_plain rfl (or_new [(34, .agg #[.int .i64 ax, .int .i64 ay]), (35, .agg #[.int .i64 bx, .int .i64 bY]), (36, .agg #[.int .i64 cx, .int .i64 cy]), (37, .agg #[.int .i64 px, .int .i64 py])] rfl rfl ⟨f34, f35, f36, f37, trivial⟩ rfl hE.size (by kernel_rfl))
        refine steps_cons (fun own a wx hf hs hE hO => ?_) ?_
        · obtain ⟨⟨g20, (f38 : a.eval (.tmp 38) = .slice (some ⟨g20, 0, none⟩) 4 4), og20, lg20, bg20⟩, -⟩ := hf
          exact sg_plain rfl (or_call cf20 (args1 f38) ((all_any _ _ _ [(ax, ay), (bx, bY), (cx, cy), (px, py)] _ (blk_reads bg20 rfl rfl) rfl (by simp)).mono fun _ _ hh => ⟨hh.1.trans (congrArg (fun b => Ending.returned (.bool b)) c19), hh.2⟩) (post_val rfl))
        refine steps_cons (fun own a wx hf hs hE hO => ?_) ?_
        · obtain ⟨(f39 : a.eval (.tmp 39) = .bool true), -⟩ := hf
          exact sg_plain rfl (or_move f39)
        refine steps_cons (fun own a wx hf hs hE hO => ?_) ?_
        · obtain ⟨(f40 : a.eval (.tmp 40) = .bool true), -⟩ := hf
          obtain ⟨s9, -⟩ := hs
          exact sg_yes rfl rfl f40 (or_load ta30 (s9.trans ea16_9) (Blk.cellsFrom (hE.blk bg7_w17 (fun h => h rfl)) 0 rfl) rfl)
        refine steps_cons (fun own a wx hf hs hE hO => ?_) ?_
        · obtain ⟨(f40 : a.eval (.tmp 40) = .bool true), -⟩ := hf
          obtain ⟨s10, -⟩ := hs
          exact sg_yes rfl rfl f40 (or_load ta30 (s10.trans ea16_10) (Blk.cellsFrom (hE.blk bg8_w17 (fun h => h rfl)) 0 rfl) rfl)
        refine steps_cons (fun own a wx hf hs hE hO => ?_) ?_
        · obtain ⟨(f40 : a.eval (.tmp 40) = .bool true), -⟩ := hf
          obtain ⟨s11, -⟩ := hs
          exact sg_yes rfl rfl f40 (or_load ta30 (s11.trans ea16_11) (Blk.cellsFrom (hE.blk bg9_w17 (fun h => h rfl)) 0 rfl) rfl)
        refine steps_cons (fun own a wx hf hs hE hO => ?_) ?_
        · obtain ⟨(f40 : a.eval (.tmp 40) = .bool true), -⟩ := hf
          obtain ⟨s12, -⟩ := hs
          exact sg_yes rfl rfl f40 (or_load ta30 (s12.trans ea16_12) (Blk.cellsFrom (hE.blk bg10_w17 (fun h => h rfl)) 0 rfl) rfl)
        refine steps_cons (fun own a wx hf hs hE hO => ?_) ?_
        · obtain ⟨(f40 : a.eval (.tmp 40) = .bool true), (f41 : a.eval (.tmp 41) = .agg #[.int .i64 ax, .int .i64 ay]), (f42 : a.eval (.tmp 42) = .agg #[.int .i64 bx, .int .i64 bY]), (f43 : a.eval (.tmp 43) = .agg #[.int .i64 cx, .int .i64 cy]), (f44 : a.eval (.tmp 44) = .agg #[.int .i64 px, .int .i64 py]), -⟩ := hf
          exact sg_yes rfl rfl f40 (or_call cf29 (args4 f41 f42 f43 f44) (refIn_any _ _ _ _ _ _ _ _ _ (by assumption) (by assumption) (by assumption) (by assumption)) (post_val rfl))
        refine steps_cons (fun own a wx hf hs hE hO => ?_) ?_
        · obtain ⟨(f40 : a.eval (.tmp 40) = .bool true), (f45 : a.eval (.tmp 45) = .bool (refIn (ax, ay) (bx, bY) (cx, cy) (px, py))), -⟩ := hf
          exact sg_plain rfl (or_pick_t f40 f45)
        refine steps_cons (fun own a wx hf hs hE hO => ?_) ?_
        · obtain ⟨(f46 : a.eval (.tmp 46) = .bool (refIn (ax, ay) (bx, bY) (cx, cy) (px, py))), -⟩ := hf
          exact sg_plain rfl (or_assign f46)
        exact steps_nil
      intro owna21 a21 w22 hda21 hza21 hsa21 hfa21 hEa21 hOa21 hpa21
      have ea21_8 : a21.eval (.tmp 8) = .bool false := (hsa21 8 rfl).trans ea16_8
      have ea21_4 : a21.eval (.tmp 4) = .pointer (some ⟨g1, 0, none⟩) := (hsa21 4 rfl).trans ea16_4
      have ea21_5 : a21.eval (.tmp 5) = .pointer (some ⟨g2, 0, none⟩) := (hsa21 5 rfl).trans ea16_5
      have ea21_6 : a21.eval (.tmp 6) = .pointer (some ⟨g3, 0, none⟩) := (hsa21 6 rfl).trans ea16_6
      have ea21_7 : a21.eval (.tmp 7) = .pointer (some ⟨g4, 0, none⟩) := (hsa21 7 rfl).trans ea16_7
      have ea21_13 : a21.eval (.tmp 13) = .bool (refOn (ax, ay) (bx, bY) (px, py)) := (hsa21 13 rfl).trans ea16_13
      obtain ⟨(ea21_14 : a21.eval (.tmp 14) = .bool (refIn (ax, ay) (bx, bY) (cx, cy) (px, py))), -⟩ := hfa21 [13] rfl
      have hNa21 : Ext (fun _ => False) w17 w22 := hEa21.mono_ (fun _ h => h rfl)
      have bg1_w22 := hNa21.blk bg1_w17 (fun h => h)
      have bg2_w22 := hNa21.blk bg2_w17 (fun h => h)
      have bg3_w22 := hNa21.blk bg3_w17 (fun h => h)
      have bg4_w22 := hNa21.blk bg4_w17 (fun h => h)
      have hXw22_w := hXw17_w.trans_ hNa21 (fun b hb h1 h2 => by exact h2)
      have hBw22 : Below w.heap.size w w22 := hXw22_w.below (Nat.le_refl _) (fun _ _ h => h)
      clear hEa21 hOa21 hpa21 hfa21 hsa21
      refine rg_plain_seq (n := 65) (pu := false) (kl := []) (rs := []) (oth := 19) (own0 := (fun _ => 19))
          (bs := [0, 1, 3, 3, 3, 31, 3, 127, 255, 511, 1023, 1023, 1023, 1023, 16383, 1023, 65535, 131071, 262143])
          (ds := [⟨[], [], Fct.val 0 47 (.bool true)⟩,
          ⟨[0], [], Fct.val 1 48 (.bool true)⟩,
          ⟨[1], [4], Fct.val 2 49 (.agg #[.int .i64 ax, .int .i64 ay])⟩,
          ⟨[1], [5], Fct.val 3 50 (.agg #[.int .i64 bx, .int .i64 bY])⟩,
          ⟨[1], [7], Fct.val 4 51 (.agg #[.int .i64 px, .int .i64 py])⟩,
          ⟨[1, 2, 3, 4], [], Fct.val 5 52 (.bool (onB (ax, ay) (bx, bY) (px, py)))⟩,
          ⟨[1], [13], Fct.val 6 53 (.bool (refOn (ax, ay) (bx, bY) (px, py)))⟩,
          ⟨[1, 5, 6], [], Fct.val 7 54 (.bool true)⟩,
          ⟨[1, 7], [], Fct.val 8 55 (.bool true)⟩,
          ⟨[8], [], Fct.val 9 56 (.bool true)⟩,
          ⟨[9], [4], Fct.val 10 57 (.agg #[.int .i64 ax, .int .i64 ay])⟩,
          ⟨[9], [5], Fct.val 11 58 (.agg #[.int .i64 bx, .int .i64 bY])⟩,
          ⟨[9], [6], Fct.val 12 59 (.agg #[.int .i64 cx, .int .i64 cy])⟩,
          ⟨[9], [7], Fct.val 13 60 (.agg #[.int .i64 px, .int .i64 py])⟩,
          ⟨[9, 10, 11, 12, 13], [], Fct.val 14 61 (.bool (intriB (ax, ay) (bx, bY) (cx, cy) (px, py)))⟩,
          ⟨[9], [14], Fct.val 15 62 (.bool (refIn (ax, ay) (bx, bY) (cx, cy) (px, py)))⟩,
          ⟨[9, 14, 15], [], Fct.val 16 63 (.bool true)⟩,
          ⟨[9, 16], [], Fct.val 17 64 (.bool true)⟩,
          ⟨[17], [], Fct.val 18 8 (.bool true)⟩]) (by kernel_rfl) hza21 hda21 (fun _ h => nomatch h) ?_ ?_
      · refine steps_cons (fun own a wx hf hs hE hO => ?_) ?_
        · exact sg_plain rfl (or_call cf15 (args0) (known_any _) (post_val rfl))
        refine steps_cons (fun own a wx hf hs hE hO => ?_) ?_
        · obtain ⟨(f47 : a.eval (.tmp 47) = .bool true), -⟩ := hf
          exact sg_plain rfl (or_move f47)
        refine steps_cons (fun own a wx hf hs hE hO => ?_) ?_
        · obtain ⟨(f48 : a.eval (.tmp 48) = .bool true), -⟩ := hf
          obtain ⟨s4, -⟩ := hs
          exact sg_yes rfl rfl f48 (or_load ta29 (s4.trans ea21_4) (Blk.cellsFrom (hE.blk bg1_w22 (fun h => h rfl)) 0 rfl) rfl)
        refine steps_cons (fun own a wx hf hs hE hO => ?_) ?_
        · obtain ⟨(f48 : a.eval (.tmp 48) = .bool true), -⟩ := hf
          obtain ⟨s5, -⟩ := hs
          exact sg_yes rfl rfl f48 (or_load ta29 (s5.trans ea21_5) (Blk.cellsFrom (hE.blk bg2_w22 (fun h => h rfl)) 0 rfl) rfl)
        refine steps_cons (fun own a wx hf hs hE hO => ?_) ?_
        · obtain ⟨(f48 : a.eval (.tmp 48) = .bool true), -⟩ := hf
          obtain ⟨s7, -⟩ := hs
          exact sg_yes rfl rfl f48 (or_load ta29 (s7.trans ea21_7) (Blk.cellsFrom (hE.blk bg4_w22 (fun h => h rfl)) 0 rfl) rfl)
        refine steps_cons (fun own a wx hf hs hE hO => ?_) ?_
        · obtain ⟨(f48 : a.eval (.tmp 48) = .bool true), (f49 : a.eval (.tmp 49) = .agg #[.int .i64 ax, .int .i64 ay]), (f50 : a.eval (.tmp 50) = .agg #[.int .i64 bx, .int .i64 bY]), (f51 : a.eval (.tmp 51) = .agg #[.int .i64 px, .int .i64 py]), -⟩ := hf
          exact sg_yes rfl rfl f48 (or_call cf30 (args3 f49 f50 f51) (on_any _ _ _ _ _ _ _) (post_val rfl))
        refine steps_cons (fun own a wx hf hs hE hO => ?_) ?_
        · obtain ⟨(f48 : a.eval (.tmp 48) = .bool true), -⟩ := hf
          obtain ⟨s13, -⟩ := hs
          exact sg_yes rfl rfl f48 (or_move (s13.trans ea21_13))
        refine steps_cons (fun own a wx hf hs hE hO => ?_) ?_
        · obtain ⟨(f48 : a.eval (.tmp 48) = .bool true), (f52 : a.eval (.tmp 52) = .bool (onB (ax, ay) (bx, bY) (px, py))), (f53 : a.eval (.tmp 53) = .bool (refOn (ax, ay) (bx, bY) (px, py))), -⟩ := hf
          exact sg_yes rfl rfl f48 (or_eqlb tb4 f52 f53 (lies_eq (on_ref r_ax_c14 r_bx_c14 r_px_c14)))
        refine steps_cons (fun own a wx hf hs hE hO => ?_) ?_
        · obtain ⟨(f48 : a.eval (.tmp 48) = .bool true), (f54 : a.eval (.tmp 54) = .bool true), -⟩ := hf
          exact sg_plain rfl (or_pick_t f48 f54)
        refine steps_cons (fun own a wx hf hs hE hO => ?_) ?_
        · obtain ⟨(f55 : a.eval (.tmp 55) = .bool true), -⟩ := hf
          exact sg_plain rfl (or_move f55)
        refine steps_cons (fun own a wx hf hs hE hO => ?_) ?_
        · obtain ⟨(f56 : a.eval (.tmp 56) = .bool true), -⟩ := hf
          obtain ⟨s4, -⟩ := hs
          exact sg_yes rfl rfl f56 (or_load ta29 (s4.trans ea21_4) (Blk.cellsFrom (hE.blk bg1_w22 (fun h => h rfl)) 0 rfl) rfl)
        refine steps_cons (fun own a wx hf hs hE hO => ?_) ?_
        · obtain ⟨(f56 : a.eval (.tmp 56) = .bool true), -⟩ := hf
          obtain ⟨s5, -⟩ := hs
          exact sg_yes rfl rfl f56 (or_load ta29 (s5.trans ea21_5) (Blk.cellsFrom (hE.blk bg2_w22 (fun h => h rfl)) 0 rfl) rfl)
        refine steps_cons (fun own a wx hf hs hE hO => ?_) ?_
        · obtain ⟨(f56 : a.eval (.tmp 56) = .bool true), -⟩ := hf
          obtain ⟨s6, -⟩ := hs
          exact sg_yes rfl rfl f56 (or_load ta29 (s6.trans ea21_6) (Blk.cellsFrom (hE.blk bg3_w22 (fun h => h rfl)) 0 rfl) rfl)
        refine steps_cons (fun own a wx hf hs hE hO => ?_) ?_
        · obtain ⟨(f56 : a.eval (.tmp 56) = .bool true), -⟩ := hf
          obtain ⟨s7, -⟩ := hs
          exact sg_yes rfl rfl f56 (or_load ta29 (s7.trans ea21_7) (Blk.cellsFrom (hE.blk bg4_w22 (fun h => h rfl)) 0 rfl) rfl)
        refine steps_cons (fun own a wx hf hs hE hO => ?_) ?_
        · obtain ⟨(f56 : a.eval (.tmp 56) = .bool true), (f57 : a.eval (.tmp 57) = .agg #[.int .i64 ax, .int .i64 ay]), (f58 : a.eval (.tmp 58) = .agg #[.int .i64 bx, .int .i64 bY]), (f59 : a.eval (.tmp 59) = .agg #[.int .i64 cx, .int .i64 cy]), (f60 : a.eval (.tmp 60) = .agg #[.int .i64 px, .int .i64 py]), -⟩ := hf
          exact sg_yes rfl rfl f56 (or_call cf31 (args4 f57 f58 f59 f60) (intri_any _ _ _ _ _ _ _ _ _) (post_val rfl))
        refine steps_cons (fun own a wx hf hs hE hO => ?_) ?_
        · obtain ⟨(f56 : a.eval (.tmp 56) = .bool true), -⟩ := hf
          obtain ⟨s14, -⟩ := hs
          exact sg_yes rfl rfl f56 (or_move (s14.trans ea21_14))
        refine steps_cons (fun own a wx hf hs hE hO => ?_) ?_
        · obtain ⟨(f56 : a.eval (.tmp 56) = .bool true), (f61 : a.eval (.tmp 61) = .bool (intriB (ax, ay) (bx, bY) (cx, cy) (px, py))), (f62 : a.eval (.tmp 62) = .bool (refIn (ax, ay) (bx, bY) (cx, cy) (px, py))), -⟩ := hf
          exact sg_yes rfl rfl f56 (or_eqlb tb4 f61 f62 (lies_eq (in_ref r_ax_c19 r_bx_c19 r_cx_c19 r_px_c19)))
        refine steps_cons (fun own a wx hf hs hE hO => ?_) ?_
        · obtain ⟨(f56 : a.eval (.tmp 56) = .bool true), (f63 : a.eval (.tmp 63) = .bool true), -⟩ := hf
          exact sg_plain rfl (or_pick_t f56 f63)
        refine steps_cons (fun own a wx hf hs hE hO => ?_) ?_
        · obtain ⟨(f64 : a.eval (.tmp 64) = .bool true), -⟩ := hf
          exact sg_plain rfl (or_assign f64)
        exact steps_nil
      intro owna23 a23 w24 hda23 hza23 hsa23 hfa23 hEa23 hOa23 hpa23
      obtain ⟨(ea23_8 : a23.eval (.tmp 8) = .bool true), -⟩ := hfa23 [18] rfl
      have hNa23 : Ext (fun _ => False) w22 w24 := hEa23.mono_ (fun _ h => h rfl)
      have hXw24_w := hXw22_w.trans_ hNa23 (fun b hb h1 h2 => by exact h2)
      have hBw24 : Below w.heap.size w w24 := hXw24_w.below (Nat.le_refl _) (fun _ _ h => h)
      clear hEa23 hOa23 hpa23 hfa23 hsa23
      refine fl_ret ?_
      refine hret _ _ hda23 ?_
      exact ⟨congrArg Ending.returned ea23_8, hBw24⟩
    have n_c19 : ¬ (rightB (ax, ay) = true ∧ rightB (bx, bY) = true ∧ rightB (cx, cy) = true ∧ rightB (px, py) = true) := fun h => by simp [rightAll, h] at c19
    refine rg_plain_seq (n := 65) (pu := false) (kl := []) (rs := []) (oth := 14) (own0 := (fun _ => 14))
        (bs := [0, 0, 0, 0, 15, 31, 63, 127, 127, 127, 127, 2047, 4095, 8191])
        (ds := [⟨[], [9], Fct.val 0 34 (.agg #[.int .i64 ax, .int .i64 ay])⟩,
        ⟨[], [10], Fct.val 1 35 (.agg #[.int .i64 bx, .int .i64 bY])⟩,
        ⟨[], [11], Fct.val 2 36 (.agg #[.int .i64 cx, .int .i64 cy])⟩,
        ⟨[], [12], Fct.val 3 37 (.agg #[.int .i64 px, .int .i64 py])⟩,
        ⟨[0, 1, 2, 3], [], Fct.blk 4 38 w17.heap.size (fun g => .slice (some ⟨g, 0, none⟩) 4 4) 30 #[.int .i64 ax, .int .i64 ay, .int .i64 bx, .int .i64 bY, .int .i64 cx, .int .i64 cy, .int .i64 px, .int .i64 py]⟩,
        ⟨[4], [], Fct.val 5 39 (.bool false)⟩,
        ⟨[5], [], Fct.val 6 40 (.bool false)⟩,
        ⟨[6], [], Fct.val 7 41 undef⟩,
        ⟨[6], [], Fct.val 8 42 undef⟩,
        ⟨[6], [], Fct.val 9 43 undef⟩,
        ⟨[6], [], Fct.val 10 44 undef⟩,
        ⟨[6], [], Fct.val 11 45 undef⟩,
        ⟨[6], [], Fct.val 12 46 (.bool false)⟩,
        ⟨[12], [], Fct.val 13 14 (.bool false)⟩]) (by kernel_rfl) hza16 hda16 (fun _ h => nomatch h) ?_ ?_
    · refine steps_cons (fun own a wx hf hs hE hO => ?_) ?_
      · obtain ⟨s9, -⟩ := hs
        exact sg_plain rfl (or_load ta30 (s9.trans ea16_9) (Blk.cellsFrom (hE.blk bg7_w17 (fun h => h rfl)) 0 rfl) rfl)
      refine steps_cons (fun own a wx hf hs hE hO => ?_) ?_
      · obtain ⟨s10, -⟩ := hs
        exact sg_plain rfl (or_load ta30 (s10.trans ea16_10) (Blk.cellsFrom (hE.blk bg8_w17 (fun h => h rfl)) 0 rfl) rfl)
      refine steps_cons (fun own a wx hf hs hE hO => ?_) ?_
      · obtain ⟨s11, -⟩ := hs
        exact sg_plain rfl (or_load ta30 (s11.trans ea16_11) (Blk.cellsFrom (hE.blk bg9_w17 (fun h => h rfl)) 0 rfl) rfl)
      refine steps_cons (fun own a wx hf hs hE hO => ?_) ?_
      · obtain ⟨s12, -⟩ := hs
        exact sg_plain rfl (or_load ta30 (s12.trans ea16_12) (Blk.cellsFrom (hE.blk bg10_w17 (fun h => h rfl)) 0 rfl) rfl)
      refine steps_cons (fun own a wx hf hs hE hO => ?_) ?_
      · obtain ⟨(f34 : a.eval (.tmp 34) = .agg #[.int .i64 ax, .int .i64 ay]), (f35 : a.eval (.tmp 35) = .agg #[.int .i64 bx, .int .i64 bY]), (f36 : a.eval (.tmp 36) = .agg #[.int .i64 cx, .int .i64 cy]), (f37 : a.eval (.tmp 37) = .agg #[.int .i64 px, .int .i64 py]), -⟩ := hf
        exact sg_plain rfl (or_new [(34, .agg #[.int .i64 ax, .int .i64 ay]), (35, .agg #[.int .i64 bx, .int .i64 bY]), (36, .agg #[.int .i64 cx, .int .i64 cy]), (37, .agg #[.int .i64 px, .int .i64 py])] rfl rfl ⟨f34, f35, f36, f37, trivial⟩ rfl hE.size (by kernel_rfl))
      refine steps_cons (fun own a wx hf hs hE hO => ?_) ?_
      · obtain ⟨⟨g25, (f38 : a.eval (.tmp 38) = .slice (some ⟨g25, 0, none⟩) 4 4), og25, lg25, bg25⟩, -⟩ := hf
        exact sg_plain rfl (or_call cf20 (args1 f38) ((all_any _ _ _ [(ax, ay), (bx, bY), (cx, cy), (px, py)] _ (blk_reads bg25 rfl rfl) rfl (by simp)).mono fun _ _ hh => ⟨hh.1.trans (congrArg (fun b => Ending.returned (.bool b)) c19), hh.2⟩) (post_val rfl))
      refine steps_cons (fun own a wx hf hs hE hO => ?_) ?_
      · obtain ⟨(f39 : a.eval (.tmp 39) = .bool false), -⟩ := hf
        exact sg_plain rfl (or_move f39)
      refine steps_cons (fun own a wx hf hs hE hO => ?_) ?_
      · obtain ⟨(f40 : a.eval (.tmp 40) = .bool false), -⟩ := hf
        exact sg_no rfl rfl f40 rfl (fun a' ha => ha.1 41 rfl)
      refine steps_cons (fun own a wx hf hs hE hO => ?_) ?_
      · obtain ⟨(f40 : a.eval (.tmp 40) = .bool false), -⟩ := hf
        exact sg_no rfl rfl f40 rfl (fun a' ha => ha.1 42 rfl)
      refine steps_cons (fun own a wx hf hs hE hO => ?_) ?_
      · obtain ⟨(f40 : a.eval (.tmp 40) = .bool false), -⟩ := hf
        exact sg_no rfl rfl f40 rfl (fun a' ha => ha.1 43 rfl)
      refine steps_cons (fun own a wx hf hs hE hO => ?_) ?_
      · obtain ⟨(f40 : a.eval (.tmp 40) = .bool false), -⟩ := hf
        exact sg_no rfl rfl f40 rfl (fun a' ha => ha.1 44 rfl)
      refine steps_cons (fun own a wx hf hs hE hO => ?_) ?_
      · obtain ⟨(f40 : a.eval (.tmp 40) = .bool false), -⟩ := hf
        exact sg_no rfl rfl f40 rfl (fun a' ha => ha.1 45 rfl)
      refine steps_cons (fun own a wx hf hs hE hO => ?_) ?_
      · obtain ⟨(f40 : a.eval (.tmp 40) = .bool false), -⟩ := hf
        exact sg_plain rfl (or_pick_f f40 rfl)
      refine steps_cons (fun own a wx hf hs hE hO => ?_) ?_
      · obtain ⟨(f46 : a.eval (.tmp 46) = .bool false), -⟩ := hf
        exact sg_plain rfl (or_assign f46)
      exact steps_nil
    intro owna26 a26 w27 hda26 hza26 hsa26 hfa26 hEa26 hOa26 hpa26
    have ea26_8 : a26.eval (.tmp 8) = .bool false := (hsa26 8 rfl).trans ea16_8
    have ea26_4 : a26.eval (.tmp 4) = .pointer (some ⟨g1, 0, none⟩) := (hsa26 4 rfl).trans ea16_4
    have ea26_5 : a26.eval (.tmp 5) = .pointer (some ⟨g2, 0, none⟩) := (hsa26 5 rfl).trans ea16_5
    have ea26_6 : a26.eval (.tmp 6) = .pointer (some ⟨g3, 0, none⟩) := (hsa26 6 rfl).trans ea16_6
    have ea26_7 : a26.eval (.tmp 7) = .pointer (some ⟨g4, 0, none⟩) := (hsa26 7 rfl).trans ea16_7
    have ea26_13 : a26.eval (.tmp 13) = .bool (refOn (ax, ay) (bx, bY) (px, py)) := (hsa26 13 rfl).trans ea16_13
    obtain ⟨(ea26_14 : a26.eval (.tmp 14) = .bool false), -⟩ := hfa26 [13] rfl
    have hNa26 : Ext (fun _ => False) w17 w27 := hEa26.mono_ (fun _ h => h rfl)
    have bg1_w27 := hNa26.blk bg1_w17 (fun h => h)
    have bg2_w27 := hNa26.blk bg2_w17 (fun h => h)
    have bg3_w27 := hNa26.blk bg3_w17 (fun h => h)
    have bg4_w27 := hNa26.blk bg4_w17 (fun h => h)
    have hXw27_w := hXw17_w.trans_ hNa26 (fun b hb h1 h2 => by exact h2)
    have hBw27 : Below w.heap.size w w27 := hXw27_w.below (Nat.le_refl _) (fun _ _ h => h)
    clear hEa26 hOa26 hpa26 hfa26 hsa26
    refine rg_plain_seq (n := 65) (pu := false) (kl := []) (rs := []) (oth := 19) (own0 := (fun _ => 19))
        (bs := [0, 1, 3, 3, 3, 31, 3, 127, 255, 511, 1023, 1023, 1023, 1023, 16383, 1023, 65535, 131071, 262143])
        (ds := [⟨[], [], Fct.val 0 47 (.bool true)⟩,
        ⟨[0], [], Fct.val 1 48 (.bool true)⟩,
        ⟨[1], [4], Fct.val 2 49 (.agg #[.int .i64 ax, .int .i64 ay])⟩,
        ⟨[1], [5], Fct.val 3 50 (.agg #[.int .i64 bx, .int .i64 bY])⟩,
        ⟨[1], [7], Fct.val 4 51 (.agg #[.int .i64 px, .int .i64 py])⟩,
        ⟨[1, 2, 3, 4], [], Fct.val 5 52 (.bool (onB (ax, ay) (bx, bY) (px, py)))⟩,
        ⟨[1], [13], Fct.val 6 53 (.bool (refOn (ax, ay) (bx, bY) (px, py)))⟩,
        ⟨[1, 5, 6], [], Fct.val 7 54 (.bool true)⟩,
        ⟨[1, 7], [], Fct.val 8 55 (.bool true)⟩,
        ⟨[8], [], Fct.val 9 56 (.bool true)⟩,
        ⟨[9], [4], Fct.val 10 57 (.agg #[.int .i64 ax, .int .i64 ay])⟩,
        ⟨[9], [5], Fct.val 11 58 (.agg #[.int .i64 bx, .int .i64 bY])⟩,
        ⟨[9], [6], Fct.val 12 59 (.agg #[.int .i64 cx, .int .i64 cy])⟩,
        ⟨[9], [7], Fct.val 13 60 (.agg #[.int .i64 px, .int .i64 py])⟩,
        ⟨[9, 10, 11, 12, 13], [], Fct.val 14 61 (.bool (intriB (ax, ay) (bx, bY) (cx, cy) (px, py)))⟩,
        ⟨[9], [14], Fct.val 15 62 (.bool false)⟩,
        ⟨[9, 14, 15], [], Fct.val 16 63 (.bool true)⟩,
        ⟨[9, 16], [], Fct.val 17 64 (.bool true)⟩,
        ⟨[17], [], Fct.val 18 8 (.bool true)⟩]) (by kernel_rfl) hza26 hda26 (fun _ h => nomatch h) ?_ ?_
    · refine steps_cons (fun own a wx hf hs hE hO => ?_) ?_
      · exact sg_plain rfl (or_call cf15 (args0) (known_any _) (post_val rfl))
      refine steps_cons (fun own a wx hf hs hE hO => ?_) ?_
      · obtain ⟨(f47 : a.eval (.tmp 47) = .bool true), -⟩ := hf
        exact sg_plain rfl (or_move f47)
      refine steps_cons (fun own a wx hf hs hE hO => ?_) ?_
      · obtain ⟨(f48 : a.eval (.tmp 48) = .bool true), -⟩ := hf
        obtain ⟨s4, -⟩ := hs
        exact sg_yes rfl rfl f48 (or_load ta29 (s4.trans ea26_4) (Blk.cellsFrom (hE.blk bg1_w27 (fun h => h rfl)) 0 rfl) rfl)
      refine steps_cons (fun own a wx hf hs hE hO => ?_) ?_
      · obtain ⟨(f48 : a.eval (.tmp 48) = .bool true), -⟩ := hf
        obtain ⟨s5, -⟩ := hs
        exact sg_yes rfl rfl f48 (or_load ta29 (s5.trans ea26_5) (Blk.cellsFrom (hE.blk bg2_w27 (fun h => h rfl)) 0 rfl) rfl)
      refine steps_cons (fun own a wx hf hs hE hO => ?_) ?_
      · obtain ⟨(f48 : a.eval (.tmp 48) = .bool true), -⟩ := hf
        obtain ⟨s7, -⟩ := hs
        exact sg_yes rfl rfl f48 (or_load ta29 (s7.trans ea26_7) (Blk.cellsFrom (hE.blk bg4_w27 (fun h => h rfl)) 0 rfl) rfl)
      refine steps_cons (fun own a wx hf hs hE hO => ?_) ?_
      · obtain ⟨(f48 : a.eval (.tmp 48) = .bool true), (f49 : a.eval (.tmp 49) = .agg #[.int .i64 ax, .int .i64 ay]), (f50 : a.eval (.tmp 50) = .agg #[.int .i64 bx, .int .i64 bY]), (f51 : a.eval (.tmp 51) = .agg #[.int .i64 px, .int .i64 py]), -⟩ := hf
        exact sg_yes rfl rfl f48 (or_call cf30 (args3 f49 f50 f51) (on_any _ _ _ _ _ _ _) (post_val rfl))
      refine steps_cons (fun own a wx hf hs hE hO => ?_) ?_
      · obtain ⟨(f48 : a.eval (.tmp 48) = .bool true), -⟩ := hf
        obtain ⟨s13, -⟩ := hs
        exact sg_yes rfl rfl f48 (or_move (s13.trans ea26_13))
      refine steps_cons (fun own a wx hf hs hE hO => ?_) ?_
      · obtain ⟨(f48 : a.eval (.tmp 48) = .bool true), (f52 : a.eval (.tmp 52) = .bool (onB (ax, ay) (bx, bY) (px, py))), (f53 : a.eval (.tmp 53) = .bool (refOn (ax, ay) (bx, bY) (px, py))), -⟩ := hf
        exact sg_yes rfl rfl f48 (or_eqlb tb4 f52 f53 (lies_eq (on_ref r_ax_c14 r_bx_c14 r_px_c14)))
      refine steps_cons (fun own a wx hf hs hE hO => ?_) ?_
      · obtain ⟨(f48 : a.eval (.tmp 48) = .bool true), (f54 : a.eval (.tmp 54) = .bool true), -⟩ := hf
        exact sg_plain rfl (or_pick_t f48 f54)
      refine steps_cons (fun own a wx hf hs hE hO => ?_) ?_
      · obtain ⟨(f55 : a.eval (.tmp 55) = .bool true), -⟩ := hf
        exact sg_plain rfl (or_move f55)
      refine steps_cons (fun own a wx hf hs hE hO => ?_) ?_
      · obtain ⟨(f56 : a.eval (.tmp 56) = .bool true), -⟩ := hf
        obtain ⟨s4, -⟩ := hs
        exact sg_yes rfl rfl f56 (or_load ta29 (s4.trans ea26_4) (Blk.cellsFrom (hE.blk bg1_w27 (fun h => h rfl)) 0 rfl) rfl)
      refine steps_cons (fun own a wx hf hs hE hO => ?_) ?_
      · obtain ⟨(f56 : a.eval (.tmp 56) = .bool true), -⟩ := hf
        obtain ⟨s5, -⟩ := hs
        exact sg_yes rfl rfl f56 (or_load ta29 (s5.trans ea26_5) (Blk.cellsFrom (hE.blk bg2_w27 (fun h => h rfl)) 0 rfl) rfl)
      refine steps_cons (fun own a wx hf hs hE hO => ?_) ?_
      · obtain ⟨(f56 : a.eval (.tmp 56) = .bool true), -⟩ := hf
        obtain ⟨s6, -⟩ := hs
        exact sg_yes rfl rfl f56 (or_load ta29 (s6.trans ea26_6) (Blk.cellsFrom (hE.blk bg3_w27 (fun h => h rfl)) 0 rfl) rfl)
      refine steps_cons (fun own a wx hf hs hE hO => ?_) ?_
      · obtain ⟨(f56 : a.eval (.tmp 56) = .bool true), -⟩ := hf
        obtain ⟨s7, -⟩ := hs
        exact sg_yes rfl rfl f56 (or_load ta29 (s7.trans ea26_7) (Blk.cellsFrom (hE.blk bg4_w27 (fun h => h rfl)) 0 rfl) rfl)
      refine steps_cons (fun own a wx hf hs hE hO => ?_) ?_
      · obtain ⟨(f56 : a.eval (.tmp 56) = .bool true), (f57 : a.eval (.tmp 57) = .agg #[.int .i64 ax, .int .i64 ay]), (f58 : a.eval (.tmp 58) = .agg #[.int .i64 bx, .int .i64 bY]), (f59 : a.eval (.tmp 59) = .agg #[.int .i64 cx, .int .i64 cy]), (f60 : a.eval (.tmp 60) = .agg #[.int .i64 px, .int .i64 py]), -⟩ := hf
        exact sg_yes rfl rfl f56 (or_call cf31 (args4 f57 f58 f59 f60) (intri_any _ _ _ _ _ _ _ _ _) (post_val rfl))
      refine steps_cons (fun own a wx hf hs hE hO => ?_) ?_
      · obtain ⟨(f56 : a.eval (.tmp 56) = .bool true), -⟩ := hf
        obtain ⟨s14, -⟩ := hs
        exact sg_yes rfl rfl f56 (or_move (s14.trans ea26_14))
      refine steps_cons (fun own a wx hf hs hE hO => ?_) ?_
      · obtain ⟨(f56 : a.eval (.tmp 56) = .bool true), (f61 : a.eval (.tmp 61) = .bool (intriB (ax, ay) (bx, bY) (cx, cy) (px, py))), (f62 : a.eval (.tmp 62) = .bool false), -⟩ := hf
        exact sg_yes rfl rfl f56 (or_eqlb tb4 f61 f62 (lies_eq (intriB_false n_c19)))
      refine steps_cons (fun own a wx hf hs hE hO => ?_) ?_
      · obtain ⟨(f56 : a.eval (.tmp 56) = .bool true), (f63 : a.eval (.tmp 63) = .bool true), -⟩ := hf
        exact sg_plain rfl (or_pick_t f56 f63)
      refine steps_cons (fun own a wx hf hs hE hO => ?_) ?_
      · obtain ⟨(f64 : a.eval (.tmp 64) = .bool true), -⟩ := hf
        exact sg_plain rfl (or_assign f64)
      exact steps_nil
    intro owna28 a28 w29 hda28 hza28 hsa28 hfa28 hEa28 hOa28 hpa28
    obtain ⟨(ea28_8 : a28.eval (.tmp 8) = .bool true), -⟩ := hfa28 [18] rfl
    have hNa28 : Ext (fun _ => False) w27 w29 := hEa28.mono_ (fun _ h => h rfl)
    have hXw29_w := hXw27_w.trans_ hNa28 (fun b hb h1 h2 => by exact h2)
    have hBw29 : Below w.heap.size w w29 := hXw29_w.below (Nat.le_refl _) (fun _ _ h => h)
    clear hEa28 hOa28 hpa28 hfa28 hsa28
    refine fl_ret ?_
    refine hret _ _ hda28 ?_
    exact ⟨congrArg Ending.returned ea28_8, hBw29⟩
  have n_c14 : ¬ (rightB (ax, ay) = true ∧ rightB (bx, bY) = true ∧ rightB (px, py) = true) := fun h => by simp [rightAll, h] at c14
  refine rg_plain_seq (n := 65) (pu := false) (kl := []) (rs := []) (oth := 12) (own0 := (fun _ => 12))
      (bs := [0, 0, 0, 7, 15, 31, 63, 63, 63, 511, 1023, 2047])
      (ds := [⟨[], [9], Fct.val 0 23 (.agg #[.int .i64 ax, .int .i64 ay])⟩,
      ⟨[], [10], Fct.val 1 24 (.agg #[.int .i64 bx, .int .i64 bY])⟩,
      ⟨[], [12], Fct.val 2 25 (.agg #[.int .i64 px, .int .i64 py])⟩,
      ⟨[0, 1, 2], [], Fct.blk 3 26 w12.heap.size (fun g => .slice (some ⟨g, 0, none⟩) 3 3) 30 #[.int .i64 ax, .int .i64 ay, .int .i64 bx, .int .i64 bY, .int .i64 px, .int .i64 py]⟩,
      ⟨[3], [], Fct.val 4 27 (.bool false)⟩,
      ⟨[4], [], Fct.val 5 28 (.bool false)⟩,
      ⟨[5], [], Fct.val 6 29 undef⟩,
      ⟨[5], [], Fct.val 7 30 undef⟩,
      ⟨[5], [], Fct.val 8 31 undef⟩,
      ⟨[5], [], Fct.val 9 32 undef⟩,
      ⟨[5], [], Fct.val 10 33 (.bool false)⟩,
      ⟨[10], [], Fct.val 11 13 (.bool false)⟩]) (by kernel_rfl) hza11 hda11 (fun _ h => nomatch h) ?_ ?_
  · refine steps_cons (fun own a wx hf hs hE hO => ?_) ?_
    · obtain ⟨s9, -⟩ := hs
      exact sg_plain rfl (or_load ta30 (s9.trans ea11_9) (Blk.cellsFrom (hE.blk bg7_w12 (fun h => h rfl)) 0 rfl) rfl)
    refine steps_cons (fun own a wx hf hs hE hO => ?_) ?_
    · obtain ⟨s10, -⟩ := hs
      exact sg_plain rfl (or_load ta30 (s10.trans ea11_10) (Blk.cellsFrom (hE.blk bg8_w12 (fun h => h rfl)) 0 rfl) rfl)
    refine steps_cons (fun own a wx hf hs hE hO => ?_) ?_
    · obtain ⟨s12, -⟩ := hs
      exact sg_plain rfl (or_load ta30 (s12.trans ea11_12) (Blk.cellsFrom (hE.blk bg10_w12 (fun h => h rfl)) 0 rfl) rfl)
    refine steps_cons (fun own a wx hf hs hE hO => ?_) ?_
    · obtain ⟨(f23 : a.eval (.tmp 23) = .agg #[.int .i64 ax, .int .i64 ay]), (f24 : a.eval (.tmp 24) = .agg #[.int .i64 bx, .int .i64 bY]), (f25 : a.eval (.tmp 25) = .agg #[.int .i64 px, .int .i64 py]), -⟩ := hf
      exact sg_plain rfl (or_new [(23, .agg #[.int .i64 ax, .int .i64 ay]), (24, .agg #[.int .i64 bx, .int .i64 bY]), (25, .agg #[.int .i64 px, .int .i64 py])] rfl rfl ⟨f23, f24, f25, trivial⟩ rfl hE.size (by kernel_rfl))
    refine steps_cons (fun own a wx hf hs hE hO => ?_) ?_
    · obtain ⟨⟨g30, (f26 : a.eval (.tmp 26) = .slice (some ⟨g30, 0, none⟩) 3 3), og30, lg30, bg30⟩, -⟩ := hf
      exact sg_plain rfl (or_call cf20 (args1 f26) ((all_any _ _ _ [(ax, ay), (bx, bY), (px, py)] _ (blk_reads bg30 rfl rfl) rfl (by simp)).mono fun _ _ hh => ⟨hh.1.trans (congrArg (fun b => Ending.returned (.bool b)) c14), hh.2⟩) (post_val rfl))
    refine steps_cons (fun own a wx hf hs hE hO => ?_) ?_
    · obtain ⟨(f27 : a.eval (.tmp 27) = .bool false), -⟩ := hf
      exact sg_plain rfl (or_move f27)
    refine steps_cons (fun own a wx hf hs hE hO => ?_) ?_
    · obtain ⟨(f28 : a.eval (.tmp 28) = .bool false), -⟩ := hf
      exact sg_no rfl rfl f28 rfl (fun a' ha => ha.1 29 rfl)
    refine steps_cons (fun own a wx hf hs hE hO => ?_) ?_
    · obtain ⟨(f28 : a.eval (.tmp 28) = .bool false), -⟩ := hf
      exact sg_no rfl rfl f28 rfl (fun a' ha => ha.1 30 rfl)
    refine steps_cons (fun own a wx hf hs hE hO => ?_) ?_
    · obtain ⟨(f28 : a.eval (.tmp 28) = .bool false), -⟩ := hf
      exact sg_no rfl rfl f28 rfl (fun a' ha => ha.1 31 rfl)
    refine steps_cons (fun own a wx hf hs hE hO => ?_) ?_
    · obtain ⟨(f28 : a.eval (.tmp 28) = .bool false), -⟩ := hf
      exact sg_no rfl rfl f28 rfl (fun a' ha => ha.1 32 rfl)
    refine steps_cons (fun own a wx hf hs hE hO => ?_) ?_
    · obtain ⟨(f28 : a.eval (.tmp 28) = .bool false), -⟩ := hf
      exact sg_plain rfl (or_pick_f f28 rfl)
    refine steps_cons (fun own a wx hf hs hE hO => ?_) ?_
    · obtain ⟨(f33 : a.eval (.tmp 33) = .bool false), -⟩ := hf
      exact sg_plain rfl (or_assign f33)
    exact steps_nil
  intro owna31 a31 w32 hda31 hza31 hsa31 hfa31 hEa31 hOa31 hpa31
  have ea31_8 : a31.eval (.tmp 8) = .bool false := (hsa31 8 rfl).trans ea11_8
  have ea31_4 : a31.eval (.tmp 4) = .pointer (some ⟨g1, 0, none⟩) := (hsa31 4 rfl).trans ea11_4
  have ea31_5 : a31.eval (.tmp 5) = .pointer (some ⟨g2, 0, none⟩) := (hsa31 5 rfl).trans ea11_5
  have ea31_6 : a31.eval (.tmp 6) = .pointer (some ⟨g3, 0, none⟩) := (hsa31 6 rfl).trans ea11_6
  have ea31_7 : a31.eval (.tmp 7) = .pointer (some ⟨g4, 0, none⟩) := (hsa31 7 rfl).trans ea11_7
  have ea31_9 : a31.eval (.tmp 9) = .pointer (some ⟨g7, 0, none⟩) := (hsa31 9 rfl).trans ea11_9
  have ea31_10 : a31.eval (.tmp 10) = .pointer (some ⟨g8, 0, none⟩) := (hsa31 10 rfl).trans ea11_10
  have ea31_11 : a31.eval (.tmp 11) = .pointer (some ⟨g9, 0, none⟩) := (hsa31 11 rfl).trans ea11_11
  have ea31_12 : a31.eval (.tmp 12) = .pointer (some ⟨g10, 0, none⟩) := (hsa31 12 rfl).trans ea11_12
  obtain ⟨(ea31_13 : a31.eval (.tmp 13) = .bool false), -⟩ := hfa31 [11] rfl
  have hNa31 : Ext (fun _ => False) w12 w32 := hEa31.mono_ (fun _ h => h rfl)
  have bg1_w32 := hNa31.blk bg1_w12 (fun h => h)
  have bg2_w32 := hNa31.blk bg2_w12 (fun h => h)
  have bg3_w32 := hNa31.blk bg3_w12 (fun h => h)
  have bg4_w32 := hNa31.blk bg4_w12 (fun h => h)
  have bg7_w32 := hNa31.blk bg7_w12 (fun h => h)
  have bg8_w32 := hNa31.blk bg8_w12 (fun h => h)
  have bg9_w32 := hNa31.blk bg9_w12 (fun h => h)
  have bg10_w32 := hNa31.blk bg10_w12 (fun h => h)
  have hXw32_w := hXw12_w.trans_ hNa31 (fun b hb h1 h2 => by exact h2)
  have hBw32 : Below w.heap.size w w32 := hXw32_w.below (Nat.le_refl _) (fun _ _ h => h)
  clear hEa31 hOa31 hpa31 hfa31 hsa31
  rcases Bool.eq_false_or_eq_true (rightAll [(ax, ay), (bx, bY), (cx, cy), (px, py)]) with c34 | c34
  · have r_ax_c34 : rightB (ax, ay) = true := right_and c34 (by simp)
    have r_bx_c34 : rightB (bx, bY) = true := right_and c34 (by simp)
    have r_cx_c34 : rightB (cx, cy) = true := right_and c34 (by simp)
    have r_px_c34 : rightB (px, py) = true := right_and c34 (by simp)
    refine rg_plain_seq (n := 65) (pu := false) (kl := []) (rs := []) (oth := 14) (own0 := (fun _ => 14))
        (bs := [0, 0, 0, 0, 15, 31, 63, 127, 127, 127, 127, 2047, 4095, 8191])
        (ds := [⟨[], [9], Fct.val 0 34 (.agg #[.int .i64 ax, .int .i64 ay])⟩,
        ⟨[], [10], Fct.val 1 35 (.agg #[.int .i64 bx, .int .i64 bY])⟩,
        ⟨[], [11], Fct.val 2 36 (.agg #[.int .i64 cx, .int .i64 cy])⟩,
        ⟨[], [12], Fct.val 3 37 (.agg #[.int .i64 px, .int .i64 py])⟩,
        ⟨[0, 1, 2, 3], [], Fct.blk 4 38 w32.heap.size (fun g => .slice (some ⟨g, 0, none⟩) 4 4) 30 #[.int .i64 ax, .int .i64 ay, .int .i64 bx, .int .i64 bY, .int .i64 cx, .int .i64 cy, .int .i64 px, .int .i64 py]⟩,
        ⟨[4], [], Fct.val 5 39 (.bool true)⟩,
        ⟨[5], [], Fct.val 6 40 (.bool true)⟩,
        ⟨[6], [9], Fct.val 7 41 (.agg #[.int .i64 ax, .int .i64 ay])⟩,
        ⟨[6], [10], Fct.val 8 42 (.agg #[.int .i64 bx, .int .i64 bY])⟩,
        ⟨[6], [11], Fct.val 9 43 (.agg #[.int .i64 cx, .int .i64 cy])⟩,
        ⟨[6], [12], Fct.val 10 44 (.agg #[.int .i64 px, .int .i64 py])⟩,
        ⟨[6, 7, 8, 9, 10], [], Fct.val 11 45 (.bool (refIn (ax, ay) (bx, bY) (cx, cy) (px, py)))⟩,
        ⟨[6, 11], [], Fct.val 12 46 (.bool (refIn (ax, ay) (bx, bY) (cx, cy) (px, py)))⟩,
        ⟨[12], [], Fct.val 13 14 (.bool (refIn (ax, ay) (bx, bY) (cx, cy) (px, py)))⟩]) (by kernel_rfl) hza31 hda31 (fun _ h => nomatch h) ?_ ?_
    · refine steps_cons (fun own a wx hf hs hE hO => ?_) ?_
      · obtain ⟨s9, -⟩ := hs
        exact sg_plain rfl (or_load ta30 (s9.trans ea31_9) (Blk.cellsFrom (hE.blk bg7_w32 (fun h => h rfl)) 0 rfl) rfl)
      refine steps_cons (fun own a wx hf hs hE hO => ?_) ?_
      · obtain ⟨s10, -⟩ := hs
        exact sg_plain rfl (or_load ta30 (s10.trans ea31_10) (Blk.cellsFrom (hE.blk bg8_w32 (fun h => h rfl)) 0 rfl) rfl)
      refine steps_cons (fun own a wx hf hs hE hO => ?_) ?_
      · obtain ⟨s11, -⟩ := hs
        exact sg_plain rfl (or_load ta30 (s11.trans ea31_11) (Blk.cellsFrom (hE.blk bg9_w32 (fun h => h rfl)) 0 rfl) rfl)
      refine steps_cons (fun own a wx hf hs hE hO => ?_) ?_
      · obtain ⟨s12, -⟩ := hs
        exact sg_plain rfl (or_load ta30 (s12.trans ea31_12) (Blk.cellsFrom (hE.blk bg10_w32 (fun h => h rfl)) 0 rfl) rfl)
      refine steps_cons (fun own a wx hf hs hE hO => ?_) ?_
      · obtain ⟨(f34 : a.eval (.tmp 34) = .agg #[.int .i64 ax, .int .i64 ay]), (f35 : a.eval (.tmp 35) = .agg #[.int .i64 bx, .int .i64 bY]), (f36 : a.eval (.tmp 36) = .agg #[.int .i64 cx, .int .i64 cy]), (f37 : a.eval (.tmp 37) = .agg #[.int .i64 px, .int .i64 py]), -⟩ := hf
        exact sg_plain rfl (or_new [(34, .agg #[.int .i64 ax, .int .i64 ay]), (35, .agg #[.int .i64 bx, .int .i64 bY]), (36, .agg #[.int .i64 cx, .int .i64 cy]), (37, .agg #[.int .i64 px, .int .i64 py])] rfl rfl ⟨f34, f35, f36, f37, trivial⟩ rfl hE.size (by kernel_rfl))
      refine steps_cons (fun own a wx hf hs hE hO => ?_) ?_
      · obtain ⟨⟨g35, (f38 : a.eval (.tmp 38) = .slice (some ⟨g35, 0, none⟩) 4 4), og35, lg35, bg35⟩, -⟩ := hf
        exact sg_plain rfl (or_call cf20 (args1 f38) ((all_any _ _ _ [(ax, ay), (bx, bY), (cx, cy), (px, py)] _ (blk_reads bg35 rfl rfl) rfl (by simp)).mono fun _ _ hh => ⟨hh.1.trans (congrArg (fun b => Ending.returned (.bool b)) c34), hh.2⟩) (post_val rfl))
      refine steps_cons (fun own a wx hf hs hE hO => ?_) ?_
      · obtain ⟨(f39 : a.eval (.tmp 39) = .bool true), -⟩ := hf
        exact sg_plain rfl (or_move f39)
      refine steps_cons (fun own a wx hf hs hE hO => ?_) ?_
      · obtain ⟨(f40 : a.eval (.tmp 40) = .bool true), -⟩ := hf
        obtain ⟨s9, -⟩ := hs
        exact sg_yes rfl rfl f40 (or_load ta30 (s9.trans ea31_9) (Blk.cellsFrom (hE.blk bg7_w32 (fun h => h rfl)) 0 rfl) rfl)
      refine steps_cons (fun own a wx hf hs hE hO => ?_) ?_
      · obtain ⟨(f40 : a.eval (.tmp 40) = .bool true), -⟩ := hf
        obtain ⟨s10, -⟩ := hs
        exact sg_yes rfl rfl f40 (or_load ta30 (s10.trans ea31_10) (Blk.cellsFrom (hE.blk bg8_w32 (fun h => h rfl)) 0 rfl) rfl)
      refine steps_cons (fun own a wx hf hs hE hO => ?_) ?_
      · obtain ⟨(f40 : a.eval (.tmp 40) = .bool true), -⟩ := hf
        obtain ⟨s11, -⟩ := hs
        exact sg_yes rfl rfl f40 (or_load ta30 (s11.trans ea31_11) (Blk.cellsFrom (hE.blk bg9_w32 (fun h => h rfl)) 0 rfl) rfl)
      refine steps_cons (fun own a wx hf hs hE hO => ?_) ?_
      · obtain ⟨(f40 : a.eval (.tmp 40) = .bool true), -⟩ := hf
        obtain ⟨s12, -⟩ := hs
        exact sg_yes rfl rfl f40 (or_load ta30 (s12.trans ea31_12) (Blk.cellsFrom (hE.blk bg10_w32 (fun h => h rfl)) 0 rfl) rfl)
      refine steps_cons (fun own a wx hf hs hE hO => ?_) ?_
      · obtain ⟨(f40 : a.eval (.tmp 40) = .bool true), (f41 : a.eval (.tmp 41) = .agg #[.int .i64 ax, .int .i64 ay]), (f42 : a.eval (.tmp 42) = .agg #[.int .i64 bx, .int .i64 bY]), (f43 : a.eval (.tmp 43) = .agg #[.int .i64 cx, .int .i64 cy]), (f44 : a.eval (.tmp 44) = .agg #[.int .i64 px, .int .i64 py]), -⟩ := hf
        exact sg_yes rfl rfl f40 (or_call cf29 (args4 f41 f42 f43 f44) (refIn_any _ _ _ _ _ _ _ _ _ (by assumption) (by assumption) (by assumption) (by assumption)) (post_val rfl))
      refine steps_cons (fun own a wx hf hs hE hO => ?_) ?_
      · obtain ⟨(f40 : a.eval (.tmp 40) = .bool true), (f45 : a.eval (.tmp 45) = .bool (refIn (ax, ay) (bx, bY) (cx, cy) (px, py))), -⟩ := hf
        exact sg_plain rfl (or_pick_t f40 f45)
      refine steps_cons (fun own a wx hf hs hE hO => ?_) ?_
      · obtain ⟨(f46 : a.eval (.tmp 46) = .bool (refIn (ax, ay) (bx, bY) (cx, cy) (px, py))), -⟩ := hf
        exact sg_plain rfl (or_assign f46)
      exact steps_nil
    intro owna36 a36 w37 hda36 hza36 hsa36 hfa36 hEa36 hOa36 hpa36
    have ea36_8 : a36.eval (.tmp 8) = .bool false := (hsa36 8 rfl).trans ea31_8
    have ea36_4 : a36.eval (.tmp 4) = .pointer (some ⟨g1, 0, none⟩) := (hsa36 4 rfl).trans ea31_4
    have ea36_5 : a36.eval (.tmp 5) = .pointer (some ⟨g2, 0, none⟩) := (hsa36 5 rfl).trans ea31_5
    have ea36_6 : a36.eval (.tmp 6) = .pointer (some ⟨g3, 0, none⟩) := (hsa36 6 rfl).trans ea31_6
    have ea36_7 : a36.eval (.tmp 7) = .pointer (some ⟨g4, 0, none⟩) := (hsa36 7 rfl).trans ea31_7
    have ea36_13 : a36.eval (.tmp 13) = .bool false := (hsa36 13 rfl).trans ea31_13
    obtain ⟨(ea36_14 : a36.eval (.tmp 14) = .bool (refIn (ax, ay) (bx, bY) (cx, cy) (px, py))), -⟩ := hfa36 [13] rfl
    have hNa36 : Ext (fun _ => False) w32 w37 := hEa36.mono_ (fun _ h => h rfl)
    have bg1_w37 := hNa36.blk bg1_w32 (fun h => h)
    have bg2_w37 := hNa36.blk bg2_w32 (fun h => h)
    have bg3_w37 := hNa36.blk bg3_w32 (fun h => h)
    have bg4_w37 := hNa36.blk bg4_w32 (fun h => h)
    have hXw37_w := hXw32_w.trans_ hNa36 (fun b hb h1 h2 => by exact h2)
    have hBw37 : Below w.heap.size w w37 := hXw37_w.below (Nat.le_refl _) (fun _ _ h => h)
    clear hEa36 hOa36 hpa36 hfa36 hsa36
    refine rg_plain_seq (n := 65) (pu := false) (kl := []) (rs := []) (oth := 19) (own0 := (fun _ => 19))
        (bs := [0, 1, 3, 3, 3, 31, 3, 127, 255, 511, 1023, 1023, 1023, 1023, 16383, 1023, 65535, 131071, 262143])
        (ds := [⟨[], [], Fct.val 0 47 (.bool true)⟩,
        ⟨[0], [], Fct.val 1 48 (.bool true)⟩,
        ⟨[1], [4], Fct.val 2 49 (.agg #[.int .i64 ax, .int .i64 ay])⟩,
        ⟨[1], [5], Fct.val 3 50 (.agg #[.int .i64 bx, .int .i64 bY])⟩,
        ⟨[1], [7], Fct.val 4 51 (.agg #[.int .i64 px, .int .i64 py])⟩,
        ⟨[1, 2, 3, 4], [], Fct.val 5 52 (.bool (onB (ax, ay) (bx, bY) (px, py)))⟩,
        ⟨[1], [13], Fct.val 6 53 (.bool false)⟩,
        ⟨[1, 5, 6], [], Fct.val 7 54 (.bool true)⟩,
        ⟨[1, 7], [], Fct.val 8 55 (.bool true)⟩,
        ⟨[8], [], Fct.val 9 56 (.bool true)⟩,
        ⟨[9], [4], Fct.val 10 57 (.agg #[.int .i64 ax, .int .i64 ay])⟩,
        ⟨[9], [5], Fct.val 11 58 (.agg #[.int .i64 bx, .int .i64 bY])⟩,
        ⟨[9], [6], Fct.val 12 59 (.agg #[.int .i64 cx, .int .i64 cy])⟩,
        ⟨[9], [7], Fct.val 13 60 (.agg #[.int .i64 px, .int .i64 py])⟩,
        ⟨[9, 10, 11, 12, 13], [], Fct.val 14 61 (.bool (intriB (ax, ay) (bx, bY) (cx, cy) (px, py)))⟩,
        ⟨[9], [14], Fct.val 15 62 (.bool (refIn (ax, ay) (bx, bY) (cx, cy) (px, py)))⟩,
        ⟨[9, 14, 15], [], Fct.val 16 63 (.bool true)⟩,
        ⟨[9, 16], [], Fct.val 17 64 (.bool true)⟩,
        ⟨[17], [], Fct.val 18 8 (.bool true)⟩]) (by kernel_rfl) hza36 hda36 (fun _ h => nomatch h) ?_ ?_
    · refine steps_cons (fun own a wx hf hs hE hO => ?_) ?_
      · exact sg_plain rfl (or_call cf15 (args0) (known_any _) (post_val rfl))
      refine steps_cons (fun own a wx hf hs hE hO => ?_) ?_
      · obtain ⟨(f47 : a.eval (.tmp 47) = .bool true), -⟩ := hf
        exact sg_plain rfl (or_move f47)
      refine steps_cons (fun own a wx hf hs hE hO => ?_) ?_
      · obtain ⟨(f48 : a.eval (.tmp 48) = .bool true), -⟩ := hf
        obtain ⟨s4, -⟩ := hs
        exact sg_yes rfl rfl f48 (or_load ta29 (s4.trans ea36_4) (Blk.cellsFrom (hE.blk bg1_w37 (fun h => h rfl)) 0 rfl) rfl)
      refine steps_cons (fun own a wx hf hs hE hO => ?_) ?_
      · obtain ⟨(f48 : a.eval (.tmp 48) = .bool true), -⟩ := hf
        obtain ⟨s5, -⟩ := hs
        exact sg_yes rfl rfl f48 (or_load ta29 (s5.trans ea36_5) (Blk.cellsFrom (hE.blk bg2_w37 (fun h => h rfl)) 0 rfl) rfl)
      refine steps_cons (fun own a wx hf hs hE hO => ?_) ?_
      · obtain ⟨(f48 : a.eval (.tmp 48) = .bool true), -⟩ := hf
        obtain ⟨s7, -⟩ := hs
        exact sg_yes rfl rfl f48 (or_load ta29 (s7.trans ea36_7) (Blk.cellsFrom (hE.blk bg4_w37 (fun h => h rfl)) 0 rfl) rfl)
      refine steps_cons (fun own a wx hf hs hE hO => ?_) ?_
      · obtain ⟨(f48 : a.eval (.tmp 48) = .bool true), (f49 : a.eval (.tmp 49) = .agg #[.int .i64 ax, .int .i64 ay]), (f50 : a.eval (.tmp 50) = .agg #[.int .i64 bx, .int .i64 bY]), (f51 : a.eval (.tmp 51) = .agg #[.int .i64 px, .int .i64 py]), -⟩ := hf
        exact sg_yes rfl rfl f48 (or_call cf30 (args3 f49 f50 f51) (on_any _ _ _ _ _ _ _) (post_val rfl))
      refine steps_cons (fun own a wx hf hs hE hO => ?_) ?_
      · obtain ⟨(f48 : a.eval (.tmp 48) = .bool true), -⟩ := hf
        obtain ⟨s13, -⟩ := hs
        exact sg_yes rfl rfl f48 (or_move (s13.trans ea36_13))
      refine steps_cons (fun own a wx hf hs hE hO => ?_) ?_
      · obtain ⟨(f48 : a.eval (.tmp 48) = .bool true), (f52 : a.eval (.tmp 52) = .bool (onB (ax, ay) (bx, bY) (px, py))), (f53 : a.eval (.tmp 53) = .bool false), -⟩ := hf
        exact sg_yes rfl rfl f48 (or_eqlb tb4 f52 f53 (lies_eq (onB_false n_c14)))
      refine steps_cons (fun own a wx hf hs hE hO => ?_) ?_
      · obtain ⟨(f48 : a.eval (.tmp 48) = .bool true), (f54 : a.eval (.tmp 54) = .bool true), -⟩ := hf
        exact sg_plain rfl (or_pick_t f48 f54)
      refine steps_cons (fun own a wx hf hs hE hO => ?_) ?_
      · obtain ⟨(f55 : a.eval (.tmp 55) = .bool true), -⟩ := hf
        exact sg_plain rfl (or_move f55)
      refine steps_cons (fun own a wx hf hs hE hO => ?_) ?_
      · obtain ⟨(f56 : a.eval (.tmp 56) = .bool true), -⟩ := hf
        obtain ⟨s4, -⟩ := hs
        exact sg_yes rfl rfl f56 (or_load ta29 (s4.trans ea36_4) (Blk.cellsFrom (hE.blk bg1_w37 (fun h => h rfl)) 0 rfl) rfl)
      refine steps_cons (fun own a wx hf hs hE hO => ?_) ?_
      · obtain ⟨(f56 : a.eval (.tmp 56) = .bool true), -⟩ := hf
        obtain ⟨s5, -⟩ := hs
        exact sg_yes rfl rfl f56 (or_load ta29 (s5.trans ea36_5) (Blk.cellsFrom (hE.blk bg2_w37 (fun h => h rfl)) 0 rfl) rfl)
      refine steps_cons (fun own a wx hf hs hE hO => ?_) ?_
      · obtain ⟨(f56 : a.eval (.tmp 56) = .bool true), -⟩ := hf
        obtain ⟨s6, -⟩ := hs
        exact sg_yes rfl rfl f56 (or_load ta29 (s6.trans ea36_6) (Blk.cellsFrom (hE.blk bg3_w37 (fun h => h rfl)) 0 rfl) rfl)
      refine steps_cons (fun own a wx hf hs hE hO => ?_) ?_
      · obtain ⟨(f56 : a.eval (.tmp 56) = .bool true), -⟩ := hf
        obtain ⟨s7, -⟩ := hs
        exact sg_yes rfl rfl f56 (or_load ta29 (s7.trans ea36_7) (Blk.cellsFrom (hE.blk bg4_w37 (fun h => h rfl)) 0 rfl) rfl)
      refine steps_cons (fun own a wx hf hs hE hO => ?_) ?_
      · obtain ⟨(f56 : a.eval (.tmp 56) = .bool true), (f57 : a.eval (.tmp 57) = .agg #[.int .i64 ax, .int .i64 ay]), (f58 : a.eval (.tmp 58) = .agg #[.int .i64 bx, .int .i64 bY]), (f59 : a.eval (.tmp 59) = .agg #[.int .i64 cx, .int .i64 cy]), (f60 : a.eval (.tmp 60) = .agg #[.int .i64 px, .int .i64 py]), -⟩ := hf
        exact sg_yes rfl rfl f56 (or_call cf31 (args4 f57 f58 f59 f60) (intri_any _ _ _ _ _ _ _ _ _) (post_val rfl))
      refine steps_cons (fun own a wx hf hs hE hO => ?_) ?_
      · obtain ⟨(f56 : a.eval (.tmp 56) = .bool true), -⟩ := hf
        obtain ⟨s14, -⟩ := hs
        exact sg_yes rfl rfl f56 (or_move (s14.trans ea36_14))
      refine steps_cons (fun own a wx hf hs hE hO => ?_) ?_
      · obtain ⟨(f56 : a.eval (.tmp 56) = .bool true), (f61 : a.eval (.tmp 61) = .bool (intriB (ax, ay) (bx, bY) (cx, cy) (px, py))), (f62 : a.eval (.tmp 62) = .bool (refIn (ax, ay) (bx, bY) (cx, cy) (px, py))), -⟩ := hf
        exact sg_yes rfl rfl f56 (or_eqlb tb4 f61 f62 (lies_eq (in_ref r_ax_c34 r_bx_c34 r_cx_c34 r_px_c34)))
      refine steps_cons (fun own a wx hf hs hE hO => ?_) ?_
      · obtain ⟨(f56 : a.eval (.tmp 56) = .bool true), (f63 : a.eval (.tmp 63) = .bool true), -⟩ := hf
        exact sg_plain rfl (or_pick_t f56 f63)
      refine steps_cons (fun own a wx hf hs hE hO => ?_) ?_
      · obtain ⟨(f64 : a.eval (.tmp 64) = .bool true), -⟩ := hf
        exact sg_plain rfl (or_assign f64)
      exact steps_nil
    intro owna38 a38 w39 hda38 hza38 hsa38 hfa38 hEa38 hOa38 hpa38
    obtain ⟨(ea38_8 : a38.eval (.tmp 8) = .bool true), -⟩ := hfa38 [18] rfl
    have hNa38 : Ext (fun _ => False) w37 w39 := hEa38.mono_ (fun _ h => h rfl)
    have hXw39_w := hXw37_w.trans_ hNa38 (fun b hb h1 h2 => by exact h2)
    have hBw39 : Below w.heap.size w w39 := hXw39_w.below (Nat.le_refl _) (fun _ _ h => h)
    clear hEa38 hOa38 hpa38 hfa38 hsa38
    refine fl_ret ?_
    refine hret _ _ hda38 ?_
    exact ⟨congrArg Ending.returned ea38_8, hBw39⟩
  have n_c34 : ¬ (rightB (ax, ay) = true ∧ rightB (bx, bY) = true ∧ rightB (cx, cy) = true ∧ rightB (px, py) = true) := fun h => by simp [rightAll, h] at c34
  refine rg_plain_seq (n := 65) (pu := false) (kl := []) (rs := []) (oth := 14) (own0 := (fun _ => 14))
      (bs := [0, 0, 0, 0, 15, 31, 63, 127, 127, 127, 127, 2047, 4095, 8191])
      (ds := [⟨[], [9], Fct.val 0 34 (.agg #[.int .i64 ax, .int .i64 ay])⟩,
      ⟨[], [10], Fct.val 1 35 (.agg #[.int .i64 bx, .int .i64 bY])⟩,
      ⟨[], [11], Fct.val 2 36 (.agg #[.int .i64 cx, .int .i64 cy])⟩,
      ⟨[], [12], Fct.val 3 37 (.agg #[.int .i64 px, .int .i64 py])⟩,
      ⟨[0, 1, 2, 3], [], Fct.blk 4 38 w32.heap.size (fun g => .slice (some ⟨g, 0, none⟩) 4 4) 30 #[.int .i64 ax, .int .i64 ay, .int .i64 bx, .int .i64 bY, .int .i64 cx, .int .i64 cy, .int .i64 px, .int .i64 py]⟩,
      ⟨[4], [], Fct.val 5 39 (.bool false)⟩,
      ⟨[5], [], Fct.val 6 40 (.bool false)⟩,
      ⟨[6], [], Fct.val 7 41 undef⟩,
      ⟨[6], [], Fct.val 8 42 undef⟩,
      ⟨[6], [], Fct.val 9 43 undef⟩,
      ⟨[6], [], Fct.val 10 44 undef⟩,
      ⟨[6], [], Fct.val 11 45 undef⟩,
      ⟨[6], [], Fct.val 12 46 (.bool false)⟩,
      ⟨[12], [], Fct.val 13 14 (.bool false)⟩]) (by kernel_rfl) hza31 hda31 (fun _ h => nomatch h) ?_ ?_
  · refine steps_cons (fun own a wx hf hs hE hO => ?_) ?_
    · obtain ⟨s9, -⟩ := hs
      exact sg_plain rfl (or_load ta30 (s9.trans ea31_9) (Blk.cellsFrom (hE.blk bg7_w32 (fun h => h rfl)) 0 rfl) rfl)
    refine steps_cons (fun own a wx hf hs hE hO => ?_) ?_
    · obtain ⟨s10, -⟩ := hs
      exact sg_plain rfl (or_load ta30 (s10.trans ea31_10) (Blk.cellsFrom (hE.blk bg8_w32 (fun h => h rfl)) 0 rfl) rfl)
    refine steps_cons (fun own a wx hf hs hE hO => ?_) ?_
    · obtain ⟨s11, -⟩ := hs
      exact sg_plain rfl (or_load ta30 (s11.trans ea31_11) (Blk.cellsFrom (hE.blk bg9_w32 (fun h => h rfl)) 0 rfl) rfl)
    refine steps_cons (fun own a wx hf hs hE hO => ?_) ?_
    · obtain ⟨s12, -⟩ := hs
      exact sg_plain rfl (or_load ta30 (s12.trans ea31_12) (Blk.cellsFrom (hE.blk bg10_w32 (fun h => h rfl)) 0 rfl) rfl)
    refine steps_cons (fun own a wx hf hs hE hO => ?_) ?_
    · obtain ⟨(f34 : a.eval (.tmp 34) = .agg #[.int .i64 ax, .int .i64 ay]), (f35 : a.eval (.tmp 35) = .agg #[.int .i64 bx, .int .i64 bY]), (f36 : a.eval (.tmp 36) = .agg #[.int .i64 cx, .int .i64 cy]), (f37 : a.eval (.tmp 37) = .agg #[.int .i64 px, .int .i64 py]), -⟩ := hf
      exact sg_plain rfl (or_new [(34, .agg #[.int .i64 ax, .int .i64 ay]), (35, .agg #[.int .i64 bx, .int .i64 bY]), (36, .agg #[.int .i64 cx, .int .i64 cy]), (37, .agg #[.int .i64 px, .int .i64 py])] rfl rfl ⟨f34, f35, f36, f37, trivial⟩ rfl hE.size (by kernel_rfl))
    refine steps_cons (fun own a wx hf hs hE hO => ?_) ?_
    · obtain ⟨⟨g40, (f38 : a.eval (.tmp 38) = .slice (some ⟨g40, 0, none⟩) 4 4), og40, lg40, bg40⟩, -⟩ := hf
      exact sg_plain rfl (or_call cf20 (args1 f38) ((all_any _ _ _ [(ax, ay), (bx, bY), (cx, cy), (px, py)] _ (blk_reads bg40 rfl rfl) rfl (by simp)).mono fun _ _ hh => ⟨hh.1.trans (congrArg (fun b => Ending.returned (.bool b)) c34), hh.2⟩) (post_val rfl))
    refine steps_cons (fun own a wx hf hs hE hO => ?_) ?_
    · obtain ⟨(f39 : a.eval (.tmp 39) = .bool false), -⟩ := hf
      exact sg_plain rfl (or_move f39)
    refine steps_cons (fun own a wx hf hs hE hO => ?_) ?_
    · obtain ⟨(f40 : a.eval (.tmp 40) = .bool false), -⟩ := hf
      exact sg_no rfl rfl f40 rfl (fun a' ha => ha.1 41 rfl)
    refine steps_cons (fun own a wx hf hs hE hO => ?_) ?_
    · obtain ⟨(f40 : a.eval (.tmp 40) = .bool false), -⟩ := hf
      exact sg_no rfl rfl f40 rfl (fun a' ha => ha.1 42 rfl)
    refine steps_cons (fun own a wx hf hs hE hO => ?_) ?_
    · obtain ⟨(f40 : a.eval (.tmp 40) = .bool false), -⟩ := hf
      exact sg_no rfl rfl f40 rfl (fun a' ha => ha.1 43 rfl)
    refine steps_cons (fun own a wx hf hs hE hO => ?_) ?_
    · obtain ⟨(f40 : a.eval (.tmp 40) = .bool false), -⟩ := hf
      exact sg_no rfl rfl f40 rfl (fun a' ha => ha.1 44 rfl)
    refine steps_cons (fun own a wx hf hs hE hO => ?_) ?_
    · obtain ⟨(f40 : a.eval (.tmp 40) = .bool false), -⟩ := hf
      exact sg_no rfl rfl f40 rfl (fun a' ha => ha.1 45 rfl)
    refine steps_cons (fun own a wx hf hs hE hO => ?_) ?_
    · obtain ⟨(f40 : a.eval (.tmp 40) = .bool false), -⟩ := hf
      exact sg_plain rfl (or_pick_f f40 rfl)
    refine steps_cons (fun own a wx hf hs hE hO => ?_) ?_
    · obtain ⟨(f46 : a.eval (.tmp 46) = .bool false), -⟩ := hf
      exact sg_plain rfl (or_assign f46)
    exact steps_nil
  intro owna41 a41 w42 hda41 hza41 hsa41 hfa41 hEa41 hOa41 hpa41
  have ea41_8 : a41.eval (.tmp 8) = .bool false := (hsa41 8 rfl).trans ea31_8
  have ea41_4 : a41.eval (.tmp 4) = .pointer (some ⟨g1, 0, none⟩) := (hsa41 4 rfl).trans ea31_4
  have ea41_5 : a41.eval (.tmp 5) = .pointer (some ⟨g2, 0, none⟩) := (hsa41 5 rfl).trans ea31_5
  have ea41_6 : a41.eval (.tmp 6) = .pointer (some ⟨g3, 0, none⟩) := (hsa41 6 rfl).trans ea31_6
  have ea41_7 : a41.eval (.tmp 7) = .pointer (some ⟨g4, 0, none⟩) := (hsa41 7 rfl).trans ea31_7
  have ea41_13 : a41.eval (.tmp 13) = .bool false := (hsa41 13 rfl).trans ea31_13
  obtain ⟨(ea41_14 : a41.eval (.tmp 14) = .bool false), -⟩ := hfa41 [13] rfl
  have hNa41 : Ext (fun _ => False) w32 w42 := hEa41.mono_ (fun _ h => h rfl)
  have bg1_w42 := hNa41.blk bg1_w32 (fun h => h)
  have bg2_w42 := hNa41.blk bg2_w32 (fun h => h)
  have bg3_w42 := hNa41.blk bg3_w32 (fun h => h)
  have bg4_w42 := hNa41.blk bg4_w32 (fun h => h)
  have hXw42_w := hXw32_w.trans_ hNa41 (fun b hb h1 h2 => by exact h2)
  have hBw42 : Below w.heap.size w w42 := hXw42_w.below (Nat.le_refl _) (fun _ _ h => h)
  clear hEa41 hOa41 hpa41 hfa41 hsa41
  refine rg_plain_seq (n := 65) (pu := false) (kl := []) (rs := []) (oth := 19) (own0 := (fun _ => 19))
      (bs := [0, 1, 3, 3, 3, 31, 3, 127, 255, 511, 1023, 1023, 1023, 1023, 16383, 1023, 65535, 131071, 262143])
      (ds := [⟨[], [], Fct.val 0 47 (.bool true)⟩,
      ⟨[0], [], Fct.val 1 48 (.bool true)⟩,
      ⟨[1], [4], Fct.val 2 49 (.agg #[.int .i64 ax, .int .i64 ay])⟩,
      ⟨[1], [5], Fct.val 3 50 (.agg #[.int .i64 bx, .int .i64 bY])⟩,
      ⟨[1], [7], Fct.val 4 51 (.agg #[.int .i64 px, .int .i64 py])⟩,
      ⟨[1, 2, 3, 4], [], Fct.val 5 52 (.bool (onB (ax, ay) (bx, bY) (px, py)))⟩,
      ⟨[1], [13], Fct.val 6 53 (.bool false)⟩,
      ⟨[1, 5, 6], [], Fct.val 7 54 (.bool true)⟩,
      ⟨[1, 7], [], Fct.val 8 55 (.bool true)⟩,
      ⟨[8], [], Fct.val 9 56 (.bool true)⟩,
      ⟨[9], [4], Fct.val 10 57 (.agg #[.int .i64 ax, .int .i64 ay])⟩,
      ⟨[9], [5], Fct.val 11 58 (.agg #[.int .i64 bx, .int .i64 bY])⟩,
      ⟨[9], [6], Fct.val 12 59 (.agg #[.int .i64 cx, .int .i64 cy])⟩,
      ⟨[9], [7], Fct.val 13 60 (.agg #[.int .i64 px, .int .i64 py])⟩,
      ⟨[9, 10, 11, 12, 13], [], Fct.val 14 61 (.bool (intriB (ax, ay) (bx, bY) (cx, cy) (px, py)))⟩,
      ⟨[9], [14], Fct.val 15 62 (.bool false)⟩,
      ⟨[9, 14, 15], [], Fct.val 16 63 (.bool true)⟩,
      ⟨[9, 16], [], Fct.val 17 64 (.bool true)⟩,
      ⟨[17], [], Fct.val 18 8 (.bool true)⟩]) (by kernel_rfl) hza41 hda41 (fun _ h => nomatch h) ?_ ?_
  · refine steps_cons (fun own a wx hf hs hE hO => ?_) ?_
    · exact sg_plain rfl (or_call cf15 (args0) (known_any _) (post_val rfl))
    refine steps_cons (fun own a wx hf hs hE hO => ?_) ?_
    · obtain ⟨(f47 : a.eval (.tmp 47) = .bool true), -⟩ := hf
      exact sg_plain rfl (or_move f47)
    refine steps_cons (fun own a wx hf hs hE hO => ?_) ?_
    · obtain ⟨(f48 : a.eval (.tmp 48) = .bool true), -⟩ := hf
      obtain ⟨s4, -⟩ := hs
      exact sg_yes rfl rfl f48 (or_load ta29 (s4.trans ea41_4) (Blk.cellsFrom (hE.blk bg1_w42 (fun h => h rfl)) 0 rfl) rfl)
    refine steps_cons (fun own a wx hf hs hE hO => ?_) ?_
    · obtain ⟨(f48 : a.eval (.tmp 48) = .bool true), -⟩ := hf
      obtain ⟨s5, -⟩ := hs
      exact sg_yes rfl rfl f48 (or_load ta29 (s5.trans ea41_5) (Blk.cellsFrom (hE.blk bg2_w42 (fun h => h rfl)) 0 rfl) rfl)
    refine steps_cons (fun own a wx hf hs hE hO => ?_) ?_
    · obtain ⟨(f48 : a.eval (.tmp 48) = .bool true), -⟩ := hf
      obtain ⟨s7, -⟩ := hs
      exact sg_yes rfl rfl f48 (or_load ta29 (s7.trans ea41_7) (Blk.cellsFrom (hE.blk bg4_w42 (fun h => h rfl)) 0 rfl) rfl)
    refine steps_cons (fun own a wx hf hs hE hO => ?_) ?_
    · obtain ⟨(f48 : a.eval (.tmp 48) = .bool true), (f49 : a.eval (.tmp 49) = .agg #[.int .i64 ax, .int .i64 ay]), (f50 : a.eval (.tmp 50) = .agg #[.int .i64 bx, .int .i64 bY]), (f51 : a.eval (.tmp 51) = .agg #[.int .i64 px, .int .i64 py]), -⟩ := hf
      exact sg_yes rfl rfl f48 (or_call cf30 (args3 f49 f50 f51) (on_any _ _ _ _ _ _ _) (post_val rfl))
    refine steps_cons (fun own a wx hf hs hE hO => ?_) ?_
    · obtain ⟨(f48 : a.eval (.tmp 48) = .bool true), -⟩ := hf
      obtain ⟨s13, -⟩ := hs
      exact sg_yes rfl rfl f48 (or_move (s13.trans ea41_13))
    refine steps_cons (fun own a wx hf hs hE hO => ?_) ?_
    · obtain ⟨(f48 : a.eval (.tmp 48) = .bool true), (f52 : a.eval (.tmp 52) = .bool (onB (ax, ay) (bx, bY) (px, py))), (f53 : a.eval (.tmp 53) = .bool false), -⟩ := hf
      exact sg_yes rfl rfl f48 (or_eqlb tb4 f52 f53 (lies_eq (onB_false n_c14)))
    refine steps_cons (fun own a wx hf hs hE hO => ?_) ?_
    · obtain ⟨(f48 : a.eval (.tmp 48) = .bool true), (f54 : a.eval (.tmp 54) = .bool true), -⟩ := hf
      exact sg_plain rfl (or_pick_t f48 f54)
    refine steps_cons (fun own a wx hf hs hE hO => ?_) ?_
    · obtain ⟨(f55 : a.eval (.tmp 55) = .bool true), -⟩ := hf
      exact sg_plain rfl (or_move f55)
    refine steps_cons (fun own a wx hf hs hE hO => ?_) ?_
    · obtain ⟨(f56 : a.eval (.tmp 56) = .bool true), -⟩ := hf
      obtain ⟨s4, -⟩ := hs
      exact sg_yes rfl rfl f56 (or_load ta29 (s4.trans ea41_4) (Blk.cellsFrom (hE.blk bg1_w42 (fun h => h rfl)) 0 rfl) rfl)
    refine steps_cons (fun own a wx hf hs hE hO => ?_) ?_
    · obtain ⟨(f56 : a.eval (.tmp 56) = .bool true), -⟩ := hf
      obtain ⟨s5, -⟩ := hs
      exact sg_yes rfl rfl f56 (or_load ta29 (s5.trans ea41_5) (Blk.cellsFrom (hE.blk bg2_w42 (fun h => h rfl)) 0 rfl) rfl)
    refine steps_cons (fun own a wx hf hs hE hO => ?_) ?_
    · obtain ⟨(f56 : a.eval (.tmp 56) = .bool true), -⟩ := hf
      obtain ⟨s6, -⟩ := hs
      exact sg_yes rfl rfl f56 (or_load ta29 (s6.trans ea41_6) (Blk.cellsFrom (hE.blk bg3_w42 (fun h => h rfl)) 0 rfl) rfl)
    refine steps_cons (fun own a wx hf hs hE hO => ?_) ?_
    · obtain ⟨(f56 : a.eval (.tmp 56) = .bool true), -⟩ := hf
      obtain ⟨s7, -⟩ := hs
      exact sg_yes rfl rfl f56 (or_load ta29 (s7.trans ea41_7) (Blk.cellsFrom (hE.blk bg4_w42 (fun h => h rfl)) 0 rfl) rfl)
    refine steps_cons (fun own a wx hf hs hE hO => ?_) ?_
    · obtain ⟨(f56 : a.eval (.tmp 56) = .bool true), (f57 : a.eval (.tmp 57) = .agg #[.int .i64 ax, .int .i64 ay]), (f58 : a.eval (.tmp 58) = .agg #[.int .i64 bx, .int .i64 bY]), (f59 : a.eval (.tmp 59) = .agg #[.int .i64 cx, .int .i64 cy]), (f60 : a.eval (.tmp 60) = .agg #[.int .i64 px, .int .i64 py]), -⟩ := hf
      exact sg_yes rfl rfl f56 (or_call cf31 (args4 f57 f58 f59 f60) (intri_any _ _ _ _ _ _ _ _ _) (post_val rfl))
    refine steps_cons (fun own a wx hf hs hE hO => ?_) ?_
    · obtain ⟨(f56 : a.eval (.tmp 56) = .bool true), -⟩ := hf
      obtain ⟨s14, -⟩ := hs
      exact sg_yes rfl rfl f56 (or_move (s14.trans ea41_14))
    refine steps_cons (fun own a wx hf hs hE hO => ?_) ?_
    · obtain ⟨(f56 : a.eval (.tmp 56) = .bool true), (f61 : a.eval (.tmp 61) = .bool (intriB (ax, ay) (bx, bY) (cx, cy) (px, py))), (f62 : a.eval (.tmp 62) = .bool false), -⟩ := hf
      exact sg_yes rfl rfl f56 (or_eqlb tb4 f61 f62 (lies_eq (intriB_false n_c34)))
    refine steps_cons (fun own a wx hf hs hE hO => ?_) ?_
    · obtain ⟨(f56 : a.eval (.tmp 56) = .bool true), (f63 : a.eval (.tmp 63) = .bool true), -⟩ := hf
      exact sg_plain rfl (or_pick_t f56 f63)
    refine steps_cons (fun own a wx hf hs hE hO => ?_) ?_
    · obtain ⟨(f64 : a.eval (.tmp 64) = .bool true), -⟩ := hf
      exact sg_plain rfl (or_assign f64)
    exact steps_nil
  intro owna43 a43 w44 hda43 hza43 hsa43 hfa43 hEa43 hOa43 hpa43
  obtain ⟨(ea43_8 : a43.eval (.tmp 8) = .bool true), -⟩ := hfa43 [18] rfl
  have hNa43 : Ext (fun _ => False) w42 w44 := hEa43.mono_ (fun _ h => h rfl)
  have hXw44_w := hXw42_w.trans_ hNa43 (fun b hb h1 h2 => by exact h2)
  have hBw44 : Below w.heap.size w w44 := hXw44_w.below (Nat.le_refl _) (fun _ _ h => h)
  clear hEa43 hOa43 hpa43 hfa43 hsa43
  refine fl_ret ?_
  refine hret _ _ hda43 ?_
  exact ⟨congrArg Ending.returned ea43_8, hBw44⟩
theorem exactLies_walk (ax ay : Int) (_ : PtOk (ax, ay)) (bx bY : Int) (_ : PtOk (bx, bY)) (cx cy : Int) (_ : PtOk (cx, cy)) (px py : Int) (_ : PtOk (px, py)) (w : World) :
    Calls Try.prog 6 #[.agg #[.int .i64 ax, .int .i64 ay], .agg #[.int .i64 bx, .int .i64 bY], .agg #[.int .i64 cx, .int .i64 cy], .agg #[.int .i64 px, .int .i64 py]] w fun e w' => e = .returned (.bool true) ∧ Below w.heap.size w w' :=
  exactLies_core ax ay bx bY cx cy px py w
end Go.Proofs.Ytefhfbefgeadaaa
