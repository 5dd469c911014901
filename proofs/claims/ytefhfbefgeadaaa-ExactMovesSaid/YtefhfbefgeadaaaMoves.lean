/-
  The law ExactMoves: whatever the input, the call returns true, and nothing that was there turns. Conditions: none.
-/
import Derived.Test.YtefhfbefgeadaaaRow
import Derived.Test.YtefhfbefgeadaaaTy
import Derived.Test.YtefhfbefgeadaaaKnown01
import Derived.Test.YtefhfbefgeadaaaMove01
import Derived.Test.YtefhfbefgeadaaaFrame
namespace Go.Proofs.Ytefhfbefgeadaaa
open Go.RowKit

theorem beq_move {α : Type} [BEq α] [LawfulBEq α] {x y : α} (h : x = y) : (x == y) = true := by simp [h]
set_option maxHeartbeats 4000000 in
theorem exactMoves_core (ax ay bx bY cx cy px py gx gy : Int) (w : World)  :
    Calls Try.prog 8 #[.agg #[.int .i64 ax, .int .i64 ay], .agg #[.int .i64 bx, .int .i64 bY], .agg #[.int .i64 cx, .int .i64 cy], .agg #[.int .i64 px, .int .i64 py], .agg #[.int .i64 gx, .int .i64 gy]] w fun e w' => e = .returned (.bool true) ∧ Below w.heap.size w w' := by
  refine fl_enter2 (n := 163) Try.func8 rfl rfl (by simp) (fun a0 Q0 hd0 hz0 hA hret hend => ?_)
  have e0_0 : a0.eval (.tmp 0) = .agg #[.int .i64 ax, .int .i64 ay] := hA 0 _ rfl
  have e0_1 : a0.eval (.tmp 1) = .agg #[.int .i64 bx, .int .i64 bY] := hA 1 _ rfl
  have e0_2 : a0.eval (.tmp 2) = .agg #[.int .i64 cx, .int .i64 cy] := hA 2 _ rfl
  have e0_3 : a0.eval (.tmp 3) = .agg #[.int .i64 px, .int .i64 py] := hA 3 _ rfl
  have e0_4 : a0.eval (.tmp 4) = .agg #[.int .i64 gx, .int .i64 gy] := hA 4 _ rfl
  clear hA
  have hB0 := Below.refl w.heap.size w
  have hX0 : Ext (fun _ => False) w w := Ext.refl _ _
  refine rg_plain_seq (n := 163) (pu := false) (kl := []) (rs := []) (oth := 6) (own0 := (fun _ => 6))
      (bs := [0, 0, 0, 0, 0, 0])
      (ds := [⟨[], [0], Fct.blk 0 5 w.heap.size (fun g => .pointer (some ⟨g, 0, none⟩)) 29 #[.int .i64 ax, .int .i64 ay]⟩,
      ⟨[], [1], Fct.blk 1 6 w.heap.size (fun g => .pointer (some ⟨g, 0, none⟩)) 29 #[.int .i64 bx, .int .i64 bY]⟩,
      ⟨[], [2], Fct.blk 2 7 w.heap.size (fun g => .pointer (some ⟨g, 0, none⟩)) 29 #[.int .i64 cx, .int .i64 cy]⟩,
      ⟨[], [3], Fct.blk 3 8 w.heap.size (fun g => .pointer (some ⟨g, 0, none⟩)) 29 #[.int .i64 px, .int .i64 py]⟩,
      ⟨[], [4], Fct.blk 4 9 w.heap.size (fun g => .pointer (some ⟨g, 0, none⟩)) 29 #[.int .i64 gx, .int .i64 gy]⟩,
      ⟨[], [], Fct.val 5 10 (.bool false)⟩]) (by kernel_rfl) hz0 hd0 (fun _ h => nomatch h) ?_ ?_
  · refine steps_cons (fun own a wx hf hs hE hO => ?_) ?_
    · obtain ⟨s0, -⟩ := hs
      exact sg_plain rfl (or_new [(0, .agg #[.int .i64 ax, .int .i64 ay])] rfl rfl ⟨(s0.trans e0_0), trivial⟩ rfl hE.size (by kernel_rfl))
    refine steps_cons (fun own a wx hf hs hE hO => ?_) ?_
    · obtain ⟨s1, -⟩ := hs
      exact sg_plain rfl (or_new [(1, .agg #[.int .i64 bx, .int .i64 bY])] rfl rfl ⟨(s1.trans e0_1), trivial⟩ rfl hE.size (by kernel_rfl))
    refine steps_cons (fun own a wx hf hs hE hO => ?_) ?_
    · obtain ⟨s2, -⟩ := hs
      exact sg_plain rfl (or_new [(2, .agg #[.int .i64 cx, .int .i64 cy])] rfl rfl ⟨(s2.trans e0_2), trivial⟩ rfl hE.size (by kernel_rfl))
    refine steps_cons (fun own a wx hf hs hE hO => ?_) ?_
    · obtain ⟨s3, -⟩ := hs
      exact sg_plain rfl (or_new [(3, .agg #[.int .i64 px, .int .i64 py])] rfl rfl ⟨(s3.trans e0_3), trivial⟩ rfl hE.size (by kernel_rfl))
    refine steps_cons (fun own a wx hf hs hE hO => ?_) ?_
    · obtain ⟨s4, -⟩ := hs
      exact sg_plain rfl (or_new [(4, .agg #[.int .i64 gx, .int .i64 gy])] rfl rfl ⟨(s4.trans e0_4), trivial⟩ rfl hE.size (by kernel_rfl))
    refine steps_cons (fun own a wx hf hs hE hO => ?_) ?_
    · exact sg_plain rfl (or_assign rfl)
    exact steps_nil
  intro owna6 a6 w7 hda6 hza6 hsa6 hfa6 hEa6 hOa6 hpa6
  obtain ⟨(ea6_10 : a6.eval (.tmp 10) = .bool false), ⟨g1, (ea6_5 : a6.eval (.tmp 5) = .pointer (some ⟨g1, 0, none⟩)), (og1_a6 : owna6 g1 = 0), (lg1_a6 : w.heap.size ≤ g1), (bg1_w7 : Blk w7 g1 29 #[.int .i64 ax, .int .i64 ay])⟩, ⟨g2, (ea6_6 : a6.eval (.tmp 6) = .pointer (some ⟨g2, 0, none⟩)), (og2_a6 : owna6 g2 = 1), (lg2_a6 : w.heap.size ≤ g2), (bg2_w7 : Blk w7 g2 29 #[.int .i64 bx, .int .i64 bY])⟩, ⟨g3, (ea6_7 : a6.eval (.tmp 7) = .pointer (some ⟨g3, 0, none⟩)), (og3_a6 : owna6 g3 = 2), (lg3_a6 : w.heap.size ≤ g3), (bg3_w7 : Blk w7 g3 29 #[.int .i64 cx, .int .i64 cy])⟩, ⟨g4, (ea6_8 : a6.eval (.tmp 8) = .pointer (some ⟨g4, 0, none⟩)), (og4_a6 : owna6 g4 = 3), (lg4_a6 : w.heap.size ≤ g4), (bg4_w7 : Blk w7 g4 29 #[.int .i64 px, .int .i64 py])⟩, ⟨g5, (ea6_9 : a6.eval (.tmp 9) = .pointer (some ⟨g5, 0, none⟩)), (og5_a6 : owna6 g5 = 4), (lg5_a6 : w.heap.size ≤ g5), (bg5_w7 : Blk w7 g5 29 #[.int .i64 gx, .int .i64 gy])⟩, -⟩ := hfa6 [5, 0, 1, 2, 3, 4] rfl
  have ng1_g2 : g1 ≠ g2 := fun h => by rw [h] at og1_a6; exact absurd (og1_a6.symm.trans og2_a6) (by decide)
  have ng1_g3 : g1 ≠ g3 := fun h => by rw [h] at og1_a6; exact absurd (og1_a6.symm.trans og3_a6) (by decide)
  have ng2_g3 : g2 ≠ g3 := fun h => by rw [h] at og2_a6; exact absurd (og2_a6.symm.trans og3_a6) (by decide)
  have ng1_g4 : g1 ≠ g4 := fun h => by rw [h] at og1_a6; exact absurd (og1_a6.symm.trans og4_a6) (by decide)
  have ng2_g4 : g2 ≠ g4 := fun h => by rw [h] at og2_a6; exact absurd (og2_a6.symm.trans og4_a6) (by decide)
  have ng3_g4 : g3 ≠ g4 := fun h => by rw [h] at og3_a6; exact absurd (og3_a6.symm.trans og4_a6) (by decide)
  have ng1_g5 : g1 ≠ g5 := fun h => by rw [h] at og1_a6; exact absurd (og1_a6.symm.trans og5_a6) (by decide)
  have ng2_g5 : g2 ≠ g5 := fun h => by rw [h] at og2_a6; exact absurd (og2_a6.symm.trans og5_a6) (by decide)
  have ng3_g5 : g3 ≠ g5 := fun h => by rw [h] at og3_a6; exact absurd (og3_a6.symm.trans og5_a6) (by decide)
  have ng4_g5 : g4 ≠ g5 := fun h => by rw [h] at og4_a6; exact absurd (og4_a6.symm.trans og5_a6) (by decide)
  have hNa6 : Ext (fun _ => False) w w7 := hEa6.mono_ (fun _ h => h rfl)
  have hXw7_w := hX0.trans_ hNa6 (fun b hb h1 h2 => h2)
  have hBw7 : Below w.heap.size w w7 := hXw7_w.below (Nat.le_refl _) (fun _ _ h => h)
  have kg1_a6 := Nat.le_trans hB0.size lg1_a6
  have tg1_a6 := bg1_w7.lt
  have kg2_a6 := Nat.le_trans hB0.size lg2_a6
  have tg2_a6 := bg2_w7.lt
  have kg3_a6 := Nat.le_trans hB0.size lg3_a6
  have tg3_a6 := bg3_w7.lt
  have kg4_a6 := Nat.le_trans hB0.size lg4_a6
  have tg4_a6 := bg4_w7.lt
  have kg5_a6 := Nat.le_trans hB0.size lg5_a6
  have tg5_a6 := bg5_w7.lt
  clear hEa6 hOa6 hpa6 hfa6 hsa6
  refine rg_plain_seq (n := 163) (pu := false) (kl := []) (rs := []) (oth := 7) (own0 := (fun _ => 7))
      (bs := [0, 0, 0, 0, 0, 31, 63])
      (ds := [⟨[], [5], Fct.val 0 14 (.agg #[.int .i64 ax, .int .i64 ay])⟩,
      ⟨[], [6], Fct.val 1 15 (.agg #[.int .i64 bx, .int .i64 bY])⟩,
      ⟨[], [7], Fct.val 2 16 (.agg #[.int .i64 cx, .int .i64 cy])⟩,
      ⟨[], [8], Fct.val 3 17 (.agg #[.int .i64 px, .int .i64 py])⟩,
      ⟨[], [9], Fct.val 4 18 (.agg #[.int .i64 gx, .int .i64 gy])⟩,
      ⟨[0, 1, 2, 3, 4], [], Fct.blk 5 19 w7.heap.size (fun g => .slice (some ⟨g, 0, none⟩) 5 5) 29 #[.int .i64 ax, .int .i64 ay, .int .i64 bx, .int .i64 bY, .int .i64 cx, .int .i64 cy, .int .i64 px, .int .i64 py, .int .i64 gx, .int .i64 gy]⟩,
      ⟨[5], [], Fct.rel 6 [11, 19] (fun l => ∀ (g8 : Nat), l.getD 1 undef = .slice (some ⟨g8, 0, none⟩) 5 5 → l.getD 0 undef = .slice (some ⟨g8, 0, none⟩) 5 5)⟩]) (by kernel_rfl) hza6 hda6 (fun _ h => nomatch h) ?_ ?_
  · refine steps_cons (fun own a wx hf hs hE hO => ?_) ?_
    · obtain ⟨s5, -⟩ := hs
      exact sg_plain rfl (or_load ta29 (s5.trans ea6_5) (Blk.cellsFrom (hE.blk bg1_w7 (fun h => h rfl)) 0 rfl) rfl)
    refine steps_cons (fun own a wx hf hs hE hO => ?_) ?_
    · obtain ⟨s6, -⟩ := hs
      exact sg_plain rfl (or_load ta29 (s6.trans ea6_6) (Blk.cellsFrom (hE.blk bg2_w7 (fun h => h rfl)) 0 rfl) rfl)
    refine steps_cons (fun own a wx hf hs hE hO => ?_) ?_
    · obtain ⟨s7, -⟩ := hs
      exact sg_plain rfl (or_load ta29 (s7.trans ea6_7) (Blk.cellsFrom (hE.blk bg3_w7 (fun h => h rfl)) 0 rfl) rfl)
    refine steps_cons (fun own a wx hf hs hE hO => ?_) ?_
    · obtain ⟨s8, -⟩ := hs
      exact sg_plain rfl (or_load ta29 (s8.trans ea6_8) (Blk.cellsFrom (hE.blk bg4_w7 (fun h => h rfl)) 0 rfl) rfl)
    refine steps_cons (fun own a wx hf hs hE hO => ?_) ?_
    · obtain ⟨s9, -⟩ := hs
      exact sg_plain rfl (or_load ta29 (s9.trans ea6_9) (Blk.cellsFrom (hE.blk bg5_w7 (fun h => h rfl)) 0 rfl) rfl)
    refine steps_cons (fun own a wx hf hs hE hO => ?_) ?_
    · obtain ⟨(f14 : a.eval (.tmp 14) = .agg #[.int .i64 ax, .int .i64 ay]), (f15 : a.eval (.tmp 15) = .agg #[.int .i64 bx, .int .i64 bY]), (f16 : a.eval (.tmp 16) = .agg #[.int .i64 cx, .int .i64 cy]), (f17 : a.eval (.tmp 17) = .agg #[.int .i64 px, .int .i64 py]), (f18 : a.eval (.tmp 18) = .agg #[.int .i64 gx, .int .i64 gy]), -⟩ := hf
      exact sg_plain rfl (or_new [(14, .agg #[.int .i64 ax, .int .i64 ay]), (15, .agg #[.int .i64 bx, .int .i64 bY]), (16, .agg #[.int .i64 cx, .int .i64 cy]), (17, .agg #[.int .i64 px, .int .i64 py]), (18, .agg #[.int .i64 gx, .int .i64 gy])] rfl rfl ⟨f14, f15, f16, f17, f18, trivial⟩ rfl hE.size (by kernel_rfl))
    refine steps_cons (fun own a wx hf hs hE hO => ?_) ?_
    · obtain ⟨⟨g8, (f19 : a.eval (.tmp 19) = .slice (some ⟨g8, 0, none⟩) 5 5), og8, lg8, bg8⟩, -⟩ := hf
      exact sg_plain rfl (or_mono (f := Fct.val 6 11 (.slice (some ⟨g8, 0, none⟩) 5 5)) (or_assign f19) (fun own' a' w' v' hp h => fun _ h0' => by cases (f19.symm.trans ((hp.2 19 (by decide)).symm.trans h0')); exact h))
    exact steps_nil
  intro owna9 a9 w10 hda9 hza9 hsa9 hfa9 hEa9 hOa9 hpa9
  have ea9_10 : a9.eval (.tmp 10) = .bool false := (hsa9 10 rfl).trans ea6_10
  have ea9_5 : a9.eval (.tmp 5) = .pointer (some ⟨g1, 0, none⟩) := (hsa9 5 rfl).trans ea6_5
  have ea9_6 : a9.eval (.tmp 6) = .pointer (some ⟨g2, 0, none⟩) := (hsa9 6 rfl).trans ea6_6
  have ea9_7 : a9.eval (.tmp 7) = .pointer (some ⟨g3, 0, none⟩) := (hsa9 7 rfl).trans ea6_7
  have ea9_8 : a9.eval (.tmp 8) = .pointer (some ⟨g4, 0, none⟩) := (hsa9 8 rfl).trans ea6_8
  have ea9_9 : a9.eval (.tmp 9) = .pointer (some ⟨g5, 0, none⟩) := (hsa9 9 rfl).trans ea6_9
  obtain ⟨(qa9_11 : ∀ (g8 : Nat), a9.eval (.tmp 19) = .slice (some ⟨g8, 0, none⟩) 5 5 → a9.eval (.tmp 11) = .slice (some ⟨g8, 0, none⟩) 5 5), ⟨g8, (ea9_19 : a9.eval (.tmp 19) = .slice (some ⟨g8, 0, none⟩) 5 5), (og8_a9 : owna9 g8 = 5), (lg8_a9 : w7.heap.size ≤ g8), (bg8_w10 : Blk w10 g8 29 #[.int .i64 ax, .int .i64 ay, .int .i64 bx, .int .i64 bY, .int .i64 cx, .int .i64 cy, .int .i64 px, .int .i64 py, .int .i64 gx, .int .i64 gy])⟩, -⟩ := hfa9 [6, 5] rfl
  have ea9_11 := qa9_11 _ ea9_19
  have hNa9 : Ext (fun _ => False) w7 w10 := hEa9.mono_ (fun _ h => h rfl)
  have bg1_w10 := hNa9.blk bg1_w7 (fun h => h)
  have bg2_w10 := hNa9.blk bg2_w7 (fun h => h)
  have bg3_w10 := hNa9.blk bg3_w7 (fun h => h)
  have bg4_w10 := hNa9.blk bg4_w7 (fun h => h)
  have bg5_w10 := hNa9.blk bg5_w7 (fun h => h)
  have hXw10_w := hXw7_w.trans_ hNa9 (fun b hb h1 h2 => h2)
  have hBw10 : Below w.heap.size w w10 := hXw10_w.below (Nat.le_refl _) (fun _ _ h => h)
  have kg8_a9 := Nat.le_trans hBw7.size lg8_a9
  have tg8_a9 := bg8_w10.lt
  clear hEa9 hOa9 hpa9 hfa9 hsa9
  refine fl_seq (fun Q11 hn11 hp11 => ?_)
  refine rg_plain_seq (n := 163) (pu := true) (kl := []) (rs := []) (oth := 1) (own0 := (fun _ => 1))
      (bs := [0])
      (ds := [⟨[], [], Fct.val 0 12 (.int .i64 0)⟩]) (by kernel_rfl) hza9 hda9 (fun _ h => nomatch h) ?_ ?_
  · refine steps_cons (fun own a wx hf hs hE hO => ?_) ?_
    · exact sg_plain rfl (or_assign rfl)
    exact steps_nil
  intro owna12 a12 w13 hda12 hza12 hsa12 hfa12 hEa12 hOa12 hpa12
  have ea12_10 : a12.eval (.tmp 10) = .bool false := (hsa12 10 rfl).trans ea9_10
  have ea12_5 : a12.eval (.tmp 5) = .pointer (some ⟨g1, 0, none⟩) := (hsa12 5 rfl).trans ea9_5
  have ea12_6 : a12.eval (.tmp 6) = .pointer (some ⟨g2, 0, none⟩) := (hsa12 6 rfl).trans ea9_6
  have ea12_7 : a12.eval (.tmp 7) = .pointer (some ⟨g3, 0, none⟩) := (hsa12 7 rfl).trans ea9_7
  have ea12_8 : a12.eval (.tmp 8) = .pointer (some ⟨g4, 0, none⟩) := (hsa12 8 rfl).trans ea9_8
  have ea12_9 : a12.eval (.tmp 9) = .pointer (some ⟨g5, 0, none⟩) := (hsa12 9 rfl).trans ea9_9
  have ea12_11 : a12.eval (.tmp 11) = .slice (some ⟨g8, 0, none⟩) 5 5 := (hsa12 11 rfl).trans ea9_11
  obtain ⟨(ea12_12 : a12.eval (.tmp 12) = .int .i64 0), -⟩ := hfa12 [0] rfl
  have hwa12 : w10 = w13 := (hpa12 rfl).symm
  clear hEa12 hOa12 hpa12 hfa12 hsa12
  subst hwa12
  refine fl_block (fun Q14 hn14 hx14 hp14 => ?_)
  refine wp_loop_rounds 6 ?_
  refine fl_round (fun Q15 hn15 hp15 => ?_)
  refine fl_seq (fun Q16 hn16 hp16 => ?_)
  refine rg_plain_seq (n := 163) (pu := true) (kl := []) (rs := []) (oth := 4) (own0 := (fun _ => 4))
      (bs := [0, 0, 2, 7])
      (ds := [⟨[], [12], Fct.val 0 20 (.int .i64 0)⟩,
      ⟨[], [11], Fct.val 1 21 (.slice (some ⟨g8, 0, none⟩) 5 5)⟩,
      ⟨[1], [], Fct.val 2 22 (.int .i64 5)⟩,
      ⟨[0, 2], [], Fct.val 3 23 (.bool true)⟩]) (by kernel_rfl) hza12 hda12 (fun _ h => nomatch h) ?_ ?_
  · refine steps_cons (fun own a wx hf hs hE hO => ?_) ?_
    · obtain ⟨s12, -⟩ := hs
      exact sg_plain rfl (or_move (s12.trans ea12_12))
    refine steps_cons (fun own a wx hf hs hE hO => ?_) ?_
    · obtain ⟨s11, -⟩ := hs
      exact sg_plain rfl (or_move (s11.trans ea12_11))
    refine steps_cons (fun own a wx hf hs hE hO => ?_) ?_
    · obtain ⟨(f21 : a.eval (.tmp 21) = .slice (some ⟨g8, 0, none⟩) 5 5), -⟩ := hf
      exact sg_plain rfl (or_len tu41 f21 rfl)
    refine steps_cons (fun own a wx hf hs hE hO => ?_) ?_
    · obtain ⟨(f20 : a.eval (.tmp 20) = .int .i64 0), (f22 : a.eval (.tmp 22) = .int .i64 5), -⟩ := hf
      exact sg_plain rfl (or_lss f20 f22 (by decide))
    exact steps_nil
  intro owna17 a17 w18 hda17 hza17 hsa17 hfa17 hEa17 hOa17 hpa17
  have ea17_10 : a17.eval (.tmp 10) = .bool false := (hsa17 10 rfl).trans ea12_10
  have ea17_5 : a17.eval (.tmp 5) = .pointer (some ⟨g1, 0, none⟩) := (hsa17 5 rfl).trans ea12_5
  have ea17_6 : a17.eval (.tmp 6) = .pointer (some ⟨g2, 0, none⟩) := (hsa17 6 rfl).trans ea12_6
  have ea17_7 : a17.eval (.tmp 7) = .pointer (some ⟨g3, 0, none⟩) := (hsa17 7 rfl).trans ea12_7
  have ea17_8 : a17.eval (.tmp 8) = .pointer (some ⟨g4, 0, none⟩) := (hsa17 8 rfl).trans ea12_8
  have ea17_9 : a17.eval (.tmp 9) = .pointer (some ⟨g5, 0, none⟩) := (hsa17 9 rfl).trans ea12_9
  have ea17_11 : a17.eval (.tmp 11) = .slice (some ⟨g8, 0, none⟩) 5 5 := (hsa17 11 rfl).trans ea12_11
  have ea17_12 : a17.eval (.tmp 12) = .int .i64 0 := (hsa17 12 rfl).trans ea12_12
  obtain ⟨(ea17_23 : a17.eval (.tmp 23) = .bool true), -⟩ := hfa17 [3] rfl
  have hwa17 : w10 = w18 := (hpa17 rfl).symm
  clear hEa17 hOa17 hpa17 hfa17 hsa17
  subst hwa17
  refine wp_cond_true ea17_23 ?_
  refine fl_skip ?_
  refine hn16 _ _ ?_
  refine fl_seq (fun Q19 hn19 hp19 => ?_)
  refine fl_block (fun Q20 hn20 hx20 hp20 => ?_)
  rcases Bool.eq_false_or_eq_true (decide (4194304 < (imax ax ay))) with c21 | c21
  · have dc21 : 4194304 < (imax ax ay) := of_decide_eq_true c21
    refine rg_draw_seq g_mixed (n := 163) (pu := true) (kl := []) (rs := []) (oth := 26) (own0 := (fun _ => 26))
        (bs := [0, 0, 3, 7, 15, 0, 0, 96, 224, 480, 1023, 2047, 4095, 8191, 8191, 32767, 65535, 131071, 8191, 8191, 794623, 1843199, 3940351, 8388607, 16777215, 33554431])
        (ds := [⟨[], [11], Fct.val 0 26 (.slice (some ⟨g8, 0, none⟩) 5 5)⟩,
        ⟨[], [12], Fct.val 1 27 (.int .i64 0)⟩,
        ⟨[0, 1], [], Fct.val 2 28 (.pointer (some ⟨g8, 0, none⟩))⟩,
        ⟨[2], [], Fct.val 3 29 (.pointer (some ⟨g8, 0, none⟩))⟩,
        ⟨[3], [], Fct.val 4 30 (.int .i64 ax)⟩,
        ⟨[], [11], Fct.val 5 31 (.slice (some ⟨g8, 0, none⟩) 5 5)⟩,
        ⟨[], [12], Fct.val 6 32 (.int .i64 0)⟩,
        ⟨[5, 6], [], Fct.val 7 33 (.pointer (some ⟨g8, 0, none⟩))⟩,
        ⟨[7], [], Fct.val 8 34 (.pointer (some ⟨g8, 1, none⟩))⟩,
        ⟨[8], [], Fct.val 9 35 (.int .i64 ay)⟩,
        ⟨[4, 9], [], Fct.val 10 36 (.int .i64 (imax ax ay))⟩,
        ⟨[10], [], Fct.val 11 37 (.bool true)⟩,
        ⟨[11], [], Fct.val 12 38 (.bool true)⟩,
        ⟨[12], [], Fct.val 13 39 undef⟩,
        ⟨[12], [], Fct.val 14 40 undef⟩,
        ⟨[12], [], Fct.val 15 41 undef⟩,
        ⟨[12], [], Fct.val 16 42 undef⟩,
        ⟨[12], [], Fct.val 17 43 undef⟩,
        ⟨[12], [], Fct.val 18 44 undef⟩,
        ⟨[12], [], Fct.val 19 45 undef⟩,
        ⟨[12], [], Fct.val 20 46 undef⟩,
        ⟨[12], [], Fct.val 21 47 undef⟩,
        ⟨[12], [], Fct.val 22 48 undef⟩,
        ⟨[12], [], Fct.val 23 49 undef⟩,
        ⟨[12], [], Fct.val 24 50 undef⟩,
        ⟨[12], [], Fct.val 25 51 (.bool true)⟩]) (by kernel_rfl) hza17 hda17 (fun _ h => nomatch h) ?_ ?_
    · refine steps_cons (fun own a wx hf hs hE hO => ?_) ?_
      · obtain ⟨s11, -⟩ := hs
        exact sg_plain rfl (or_move (s11.trans ea17_11))
      refine steps_cons (fun own a wx hf hs hE hO => ?_) ?_
      · obtain ⟨s12, -⟩ := hs
        exact sg_plain rfl (or_move (s12.trans ea17_12))
      refine steps_cons (fun own a wx hf hs hE hO => ?_) ?_
      · obtain ⟨(f26 : a.eval (.tmp 26) = .slice (some ⟨g8, 0, none⟩) 5 5), (f27 : a.eval (.tmp 27) = .int .i64 0), -⟩ := hf
        exact sg_plain rfl (or_index (j := 0) tl41 f26 f27 rfl (by decide) rfl (by rfl))
      refine steps_cons (fun own a wx hf hs hE hO => ?_) ?_
      · obtain ⟨(f28 : a.eval (.tmp 28) = .pointer (some ⟨g8, 0, none⟩)), -⟩ := hf
        exact sg_plain rfl (or_field fo29_0 f28 (by rfl))
      refine steps_cons (fun own a wx hf hs hE hO => ?_) ?_
      · obtain ⟨(f29 : a.eval (.tmp 29) = .pointer (some ⟨g8, 0, none⟩)), -⟩ := hf
        exact sg_plain rfl (or_load1 to3 f29 (Blk.at_ (hE.blk bg8_w10 (fun h => h rfl)) 0 rfl))
      refine steps_cons (fun own a wx hf hs hE hO => ?_) ?_
      · obtain ⟨s11, -⟩ := hs
        exact sg_plain rfl (or_move (s11.trans ea17_11))
      refine steps_cons (fun own a wx hf hs hE hO => ?_) ?_
      · obtain ⟨s12, -⟩ := hs
        exact sg_plain rfl (or_move (s12.trans ea17_12))
      refine steps_cons (fun own a wx hf hs hE hO => ?_) ?_
      · obtain ⟨(f31 : a.eval (.tmp 31) = .slice (some ⟨g8, 0, none⟩) 5 5), (f32 : a.eval (.tmp 32) = .int .i64 0), -⟩ := hf
        exact sg_plain rfl (or_index (j := 0) tl41 f31 f32 rfl (by decide) rfl (by rfl))
      refine steps_cons (fun own a wx hf hs hE hO => ?_) ?_
      · obtain ⟨(f33 : a.eval (.tmp 33) = .pointer (some ⟨g8, 0, none⟩)), -⟩ := hf
        exact sg_plain rfl (or_field fo29_1 f33 (by rfl))
      refine steps_cons (fun own a wx hf hs hE hO => ?_) ?_
      · obtain ⟨(f34 : a.eval (.tmp 34) = .pointer (some ⟨g8, 1, none⟩)), -⟩ := hf
        exact sg_plain rfl (or_load1 to3 f34 (Blk.at_ (hE.blk bg8_w10 (fun h => h rfl)) 1 rfl))
      refine steps_cons (fun own a wx hf hs hE hO => ?_) ?_
      · obtain ⟨(f30 : a.eval (.tmp 30) = .int .i64 ax), (f35 : a.eval (.tmp 35) = .int .i64 ay), -⟩ := hf
        exact sg_plain rfl (or_max f30 f35)
      refine steps_cons (fun own a wx hf hs hE hO => ?_) ?_
      · obtain ⟨(f36 : a.eval (.tmp 36) = .int .i64 (imax ax ay)), -⟩ := hf
        exact sg_plain rfl (or_gtr f36 rfl c21)
      refine steps_cons (fun own a wx hf hs hE hO => ?_) ?_
      · obtain ⟨(f37 : a.eval (.tmp 37) = .bool true), -⟩ := hf
        exact sg_plain rfl (or_move f37)
      refine steps_cons (fun own a wx hf hs hE hO => ?_) ?_
      · obtain ⟨(f38 : a.eval (.tmp 38) = .bool true), -⟩ := hf
        exact sg_no rfl rfl f38 rfl (fun a' ha => ha.1 39 rfl)
      refine steps_cons (fun own a wx hf hs hE hO => ?_) ?_
      · obtain ⟨(f38 : a.eval (.tmp 38) = .bool true), -⟩ := hf
        exact sg_no rfl rfl f38 rfl (fun a' ha => ha.1 40 rfl)
      refine steps_cons (fun own a wx hf hs hE hO => ?_) ?_
      · obtain ⟨(f38 : a.eval (.tmp 38) = .bool true), -⟩ := hf
        exact sg_no rfl rfl f38 rfl (fun a' ha => ha.1 41 rfl)
      refine steps_cons (fun own a wx hf hs hE hO => ?_) ?_
      · obtain ⟨(f38 : a.eval (.tmp 38) = .bool true), -⟩ := hf
        exact sg_no rfl rfl f38 rfl (fun a' ha => ha.1 42 rfl)
      refine steps_cons (fun own a wx hf hs hE hO => ?_) ?_
      · obtain ⟨(f38 : a.eval (.tmp 38) = .bool true), -⟩ := hf
        exact sg_no rfl rfl f38 rfl (fun a' ha => ha.1 43 rfl)
      refine steps_cons (fun own a wx hf hs hE hO => ?_) ?_
      · obtain ⟨(f38 : a.eval (.tmp 38) = .bool true), -⟩ := hf
        exact sg_no rfl rfl f38 rfl (fun a' ha => ha.1 44 rfl)
      refine steps_cons (fun own a wx hf hs hE hO => ?_) ?_
      · obtain ⟨(f38 : a.eval (.tmp 38) = .bool true), -⟩ := hf
        exact sg_no rfl rfl f38 rfl (fun a' ha => ha.1 45 rfl)
      refine steps_cons (fun own a wx hf hs hE hO => ?_) ?_
      · obtain ⟨(f38 : a.eval (.tmp 38) = .bool true), -⟩ := hf
        exact sg_no rfl rfl f38 rfl (fun a' ha => ha.1 46 rfl)
      refine steps_cons (fun own a wx hf hs hE hO => ?_) ?_
      · obtain ⟨(f38 : a.eval (.tmp 38) = .bool true), -⟩ := hf
        exact sg_no rfl rfl f38 rfl (fun a' ha => ha.1 47 rfl)
      refine steps_cons (fun own a wx hf hs hE hO => ?_) ?_
      · obtain ⟨(f38 : a.eval (.tmp 38) = .bool true), -⟩ := hf
        exact sg_no rfl rfl f38 rfl (fun a' ha => ha.1 48 rfl)
      refine steps_cons (fun own a wx hf hs hE hO => ?_) ?_
      · obtain ⟨(f38 : a.eval (.tmp 38) = .bool true), -⟩ := hf
        exact sg_no rfl rfl f38 rfl (fun a' ha => ha.1 49 rfl)
      refine steps_cons (fun own a wx hf hs hE hO => ?_) ?_
      · obtain ⟨(f38 : a.eval (.tmp 38) = .bool true), -⟩ := hf
        exact sg_no rfl rfl f38 rfl (fun a' ha => ha.1 50 rfl)
      refine steps_cons (fun own a wx hf hs hE hO => ?_) ?_
      · obtain ⟨(f38 : a.eval (.tmp 38) = .bool true), -⟩ := hf
        exact sg_plain rfl (or_pick_t f38 rfl)
      exact steps_nil
    intro owna22 a22 w23 hda22 hza22 hsa22 hfa22 hEa22 hOa22 hpa22
    have ea22_10 : a22.eval (.tmp 10) = .bool false := (hsa22 10 rfl).trans ea17_10
    have ea22_5 : a22.eval (.tmp 5) = .pointer (some ⟨g1, 0, none⟩) := (hsa22 5 rfl).trans ea17_5
    have ea22_6 : a22.eval (.tmp 6) = .pointer (some ⟨g2, 0, none⟩) := (hsa22 6 rfl).trans ea17_6
    have ea22_7 : a22.eval (.tmp 7) = .pointer (some ⟨g3, 0, none⟩) := (hsa22 7 rfl).trans ea17_7
    have ea22_8 : a22.eval (.tmp 8) = .pointer (some ⟨g4, 0, none⟩) := (hsa22 8 rfl).trans ea17_8
    have ea22_9 : a22.eval (.tmp 9) = .pointer (some ⟨g5, 0, none⟩) := (hsa22 9 rfl).trans ea17_9
    have ea22_11 : a22.eval (.tmp 11) = .slice (some ⟨g8, 0, none⟩) 5 5 := (hsa22 11 rfl).trans ea17_11
    have ea22_12 : a22.eval (.tmp 12) = .int .i64 0 := (hsa22 12 rfl).trans ea17_12
    have ea22_23 : a22.eval (.tmp 23) = .bool true := (hsa22 23 rfl).trans ea17_23
    obtain ⟨(ea22_51 : a22.eval (.tmp 51) = .bool true), -⟩ := hfa22 [25] rfl
    have hNa22 : Ext (fun _ => False) w10 w23 := hEa22.mono_ (fun _ h => h rfl)
    have bg1_w23 := hNa22.blk bg1_w10 (fun h => h)
    have bg2_w23 := hNa22.blk bg2_w10 (fun h => h)
    have bg3_w23 := hNa22.blk bg3_w10 (fun h => h)
    have bg4_w23 := hNa22.blk bg4_w10 (fun h => h)
    have bg5_w23 := hNa22.blk bg5_w10 (fun h => h)
    have bg8_w23 := hNa22.blk bg8_w10 (fun h => h)
    have hXw23_w := hXw10_w.trans_ hNa22 (fun b hb h1 h2 => h2)
    have hBw23 : Below w.heap.size w w23 := hXw23_w.below (Nat.le_refl _) (fun _ _ h => h)
    clear hEa22 hOa22 hpa22 hfa22 hsa22
    refine wp_cond_true ea22_51 ?_
    refine rg_plain_seq (n := 163) (pu := false) (kl := []) (rs := []) (oth := 2) (own0 := (fun _ => 2))
        (bs := [0, 1])
        (ds := [⟨[], [], Fct.val 0 52 (.bool true)⟩,
        ⟨[0], [], Fct.val 1 10 (.bool true)⟩]) (by kernel_rfl) hza22 hda22 (fun _ h => nomatch h) ?_ ?_
    · refine steps_cons (fun own a wx hf hs hE hO => ?_) ?_
      · exact sg_plain rfl (or_call cf15 (args0) (known_any _) (post_val rfl))
      refine steps_cons (fun own a wx hf hs hE hO => ?_) ?_
      · obtain ⟨(f52 : a.eval (.tmp 52) = .bool true), -⟩ := hf
        exact sg_plain rfl (or_assign f52)
      exact steps_nil
    intro owna24 a24 w25 hda24 hza24 hsa24 hfa24 hEa24 hOa24 hpa24
    have ea24_5 : a24.eval (.tmp 5) = .pointer (some ⟨g1, 0, none⟩) := (hsa24 5 rfl).trans ea22_5
    have ea24_6 : a24.eval (.tmp 6) = .pointer (some ⟨g2, 0, none⟩) := (hsa24 6 rfl).trans ea22_6
    have ea24_7 : a24.eval (.tmp 7) = .pointer (some ⟨g3, 0, none⟩) := (hsa24 7 rfl).trans ea22_7
    have ea24_8 : a24.eval (.tmp 8) = .pointer (some ⟨g4, 0, none⟩) := (hsa24 8 rfl).trans ea22_8
    have ea24_9 : a24.eval (.tmp 9) = .pointer (some ⟨g5, 0, none⟩) := (hsa24 9 rfl).trans ea22_9
    have ea24_11 : a24.eval (.tmp 11) = .slice (some ⟨g8, 0, none⟩) 5 5 := (hsa24 11 rfl).trans ea22_11
    have ea24_12 : a24.eval (.tmp 12) = .int .i64 0 := (hsa24 12 rfl).trans ea22_12
    have ea24_23 : a24.eval (.tmp 23) = .bool true := (hsa24 23 rfl).trans ea22_23
    have ea24_51 : a24.eval (.tmp 51) = .bool true := (hsa24 51 rfl).trans ea22_51
    obtain ⟨(ea24_10 : a24.eval (.tmp 10) = .bool true), -⟩ := hfa24 [1] rfl
    have hNa24 : Ext (fun _ => False) w23 w25 := hEa24.mono_ (fun _ h => h rfl)
    have bg1_w25 := hNa24.blk bg1_w23 (fun h => h)
    have bg2_w25 := hNa24.blk bg2_w23 (fun h => h)
    have bg3_w25 := hNa24.blk bg3_w23 (fun h => h)
    have bg4_w25 := hNa24.blk bg4_w23 (fun h => h)
    have bg5_w25 := hNa24.blk bg5_w23 (fun h => h)
    have bg8_w25 := hNa24.blk bg8_w23 (fun h => h)
    have hXw25_w := hXw23_w.trans_ hNa24 (fun b hb h1 h2 => h2)
    have hBw25 : Below w.heap.size w w25 := hXw25_w.below (Nat.le_refl _) (fun _ _ h => h)
    clear hEa24 hOa24 hpa24 hfa24 hsa24
    refine fl_ret ?_
    refine hp20 _ _ _ rfl ?_
    refine hp19 _ _ _ rfl ?_
    refine hp15 _ _ _ rfl ?_
    refine hp14 _ _ _ rfl ?_
    refine hp11 _ _ _ rfl ?_
    refine hret _ _ _ hda24 (results1_ rfl (RVal.tmp_ ea24_10)) ?_
    exact ⟨congrArg Ending.returned rfl, hBw25⟩
  have dc21 : ¬ (4194304 < (imax ax ay)) := of_decide_eq_false c21
  have mc21 : ax ≤ 4194304 ∧ ay ≤ 4194304 := by rw [imax_eq] at dc21; omega
  refine rg_draw_seq g_mixed (n := 163) (pu := true) (kl := []) (rs := []) (oth := 26) (own0 := (fun _ => 26))
      (bs := [0, 0, 3, 7, 15, 0, 0, 96, 224, 480, 1023, 2047, 4095, 8191, 8191, 32767, 65535, 131071, 8191, 8191, 794623, 1843199, 3940351, 8388607, 16777215, 33554431])
      (ds := [⟨[], [11], Fct.val 0 26 (.slice (some ⟨g8, 0, none⟩) 5 5)⟩,
      ⟨[], [12], Fct.val 1 27 (.int .i64 0)⟩,
      ⟨[0, 1], [], Fct.val 2 28 (.pointer (some ⟨g8, 0, none⟩))⟩,
      ⟨[2], [], Fct.val 3 29 (.pointer (some ⟨g8, 0, none⟩))⟩,
      ⟨[3], [], Fct.val 4 30 (.int .i64 ax)⟩,
      ⟨[], [11], Fct.val 5 31 (.slice (some ⟨g8, 0, none⟩) 5 5)⟩,
      ⟨[], [12], Fct.val 6 32 (.int .i64 0)⟩,
      ⟨[5, 6], [], Fct.val 7 33 (.pointer (some ⟨g8, 0, none⟩))⟩,
      ⟨[7], [], Fct.val 8 34 (.pointer (some ⟨g8, 1, none⟩))⟩,
      ⟨[8], [], Fct.val 9 35 (.int .i64 ay)⟩,
      ⟨[4, 9], [], Fct.val 10 36 (.int .i64 (imax ax ay))⟩,
      ⟨[10], [], Fct.val 11 37 (.bool false)⟩,
      ⟨[11], [], Fct.val 12 38 (.bool false)⟩,
      ⟨[12], [11], Fct.val 13 39 (.slice (some ⟨g8, 0, none⟩) 5 5)⟩,
      ⟨[12], [12], Fct.val 14 40 (.int .i64 0)⟩,
      ⟨[12, 13, 14], [], Fct.val 15 41 (.pointer (some ⟨g8, 0, none⟩))⟩,
      ⟨[12, 15], [], Fct.val 16 42 (.pointer (some ⟨g8, 0, none⟩))⟩,
      ⟨[12, 16], [], Fct.val 17 43 (.int .i64 ax)⟩,
      ⟨[12], [11], Fct.val 18 44 (.slice (some ⟨g8, 0, none⟩) 5 5)⟩,
      ⟨[12], [12], Fct.val 19 45 (.int .i64 0)⟩,
      ⟨[12, 18, 19], [], Fct.val 20 46 (.pointer (some ⟨g8, 0, none⟩))⟩,
      ⟨[12, 20], [], Fct.val 21 47 (.pointer (some ⟨g8, 1, none⟩))⟩,
      ⟨[12, 21], [], Fct.val 22 48 (.int .i64 ay)⟩,
      ⟨[12, 17, 22], [], Fct.val 23 49 (.int .i64 (imin ax ay))⟩,
      ⟨[12, 23], [], Fct.val 24 50 (.bool (decide ((imin ax ay) < (-4194304))))⟩,
      ⟨[12, 24], [], Fct.val 25 51 (.bool (decide ((imin ax ay) < (-4194304))))⟩]) (by kernel_rfl) hza17 hda17 (fun _ h => nomatch h) ?_ ?_
  · refine steps_cons (fun own a wx hf hs hE hO => ?_) ?_
    · obtain ⟨s11, -⟩ := hs
      exact sg_plain rfl (or_move (s11.trans ea17_11))
    refine steps_cons (fun own a wx hf hs hE hO => ?_) ?_
    · obtain ⟨s12, -⟩ := hs
      exact sg_plain rfl (or_move (s12.trans ea17_12))
    refine steps_cons (fun own a wx hf hs hE hO => ?_) ?_
    · obtain ⟨(f26 : a.eval (.tmp 26) = .slice (some ⟨g8, 0, none⟩) 5 5), (f27 : a.eval (.tmp 27) = .int .i64 0), -⟩ := hf
      exact sg_plain rfl (or_index (j := 0) tl41 f26 f27 rfl (by decide) rfl (by rfl))
    refine steps_cons (fun own a wx hf hs hE hO => ?_) ?_
    · obtain ⟨(f28 : a.eval (.tmp 28) = .pointer (some ⟨g8, 0, none⟩)), -⟩ := hf
      exact sg_plain rfl (or_field fo29_0 f28 (by rfl))
    refine steps_cons (fun own a wx hf hs hE hO => ?_) ?_
    · obtain ⟨(f29 : a.eval (.tmp 29) = .pointer (some ⟨g8, 0, none⟩)), -⟩ := hf
      exact sg_plain rfl (or_load1 to3 f29 (Blk.at_ (hE.blk bg8_w10 (fun h => h rfl)) 0 rfl))
    refine steps_cons (fun own a wx hf hs hE hO => ?_) ?_
    · obtain ⟨s11, -⟩ := hs
      exact sg_plain rfl (or_move (s11.trans ea17_11))
    refine steps_cons (fun own a wx hf hs hE hO => ?_) ?_
    · obtain ⟨s12, -⟩ := hs
      exact sg_plain rfl (or_move (s12.trans ea17_12))
    refine steps_cons (fun own a wx hf hs hE hO => ?_) ?_
    · obtain ⟨(f31 : a.eval (.tmp 31) = .slice (some ⟨g8, 0, none⟩) 5 5), (f32 : a.eval (.tmp 32) = .int .i64 0), -⟩ := hf
      exact sg_plain rfl (or_index (j := 0) tl41 f31 f32 rfl (by decide) rfl (by rfl))
    refine steps_cons (fun own a wx hf hs hE hO => ?_) ?_
    · obtain ⟨(f33 : a.eval (.tmp 33) = .pointer (some ⟨g8, 0, none⟩)), -⟩ := hf
      exact sg_plain rfl (or_field fo29_1 f33 (by rfl))
    refine steps_cons (fun own a wx hf hs hE hO => ?_) ?_
    · obtain ⟨(f34 : a.eval (.tmp 34) = .pointer (some ⟨g8, 1, none⟩)), -⟩ := hf
      exact sg_plain rfl (or_load1 to3 f34 (Blk.at_ (hE.blk bg8_w10 (fun h => h rfl)) 1 rfl))
    refine steps_cons (fun own a wx hf hs hE hO => ?_) ?_
    · obtain ⟨(f30 : a.eval (.tmp 30) = .int .i64 ax), (f35 : a.eval (.tmp 35) = .int .i64 ay), -⟩ := hf
      exact sg_plain rfl (or_max f30 f35)
    refine steps_cons (fun own a wx hf hs hE hO => ?_) ?_
    · obtain ⟨(f36 : a.eval (.tmp 36) = .int .i64 (imax ax ay)), -⟩ := hf
      exact sg_plain rfl (or_gtr f36 rfl c21)
    refine steps_cons (fun own a wx hf hs hE hO => ?_) ?_
    · obtain ⟨(f37 : a.eval (.tmp 37) = .bool false), -⟩ := hf
      exact sg_plain rfl (or_move f37)
    refine steps_cons (fun own a wx hf hs hE hO => ?_) ?_
    · obtain ⟨(f38 : a.eval (.tmp 38) = .bool false), -⟩ := hf
      obtain ⟨s11, -⟩ := hs
      exact sg_yes rfl rfl f38 (or_move (s11.trans ea17_11))
    refine steps_cons (fun own a wx hf hs hE hO => ?_) ?_
    · obtain ⟨(f38 : a.eval (.tmp 38) = .bool false), -⟩ := hf
      obtain ⟨s12, -⟩ := hs
      exact sg_yes rfl rfl f38 (or_move (s12.trans ea17_12))
    refine steps_cons (fun own a wx hf hs hE hO => ?_) ?_
    · obtain ⟨(f38 : a.eval (.tmp 38) = .bool false), (f39 : a.eval (.tmp 39) = .slice (some ⟨g8, 0, none⟩) 5 5), (f40 : a.eval (.tmp 40) = .int .i64 0), -⟩ := hf
      exact sg_yes rfl rfl f38 (or_index (j := 0) tl41 f39 f40 rfl (by decide) rfl (by rfl))
    refine steps_cons (fun own a wx hf hs hE hO => ?_) ?_
    · obtain ⟨(f38 : a.eval (.tmp 38) = .bool false), (f41 : a.eval (.tmp 41) = .pointer (some ⟨g8, 0, none⟩)), -⟩ := hf
      exact sg_yes rfl rfl f38 (or_field fo29_0 f41 (by rfl))
    refine steps_cons (fun own a wx hf hs hE hO => ?_) ?_
    · obtain ⟨(f38 : a.eval (.tmp 38) = .bool false), (f42 : a.eval (.tmp 42) = .pointer (some ⟨g8, 0, none⟩)), -⟩ := hf
      exact sg_yes rfl rfl f38 (or_load1 to3 f42 (Blk.at_ (hE.blk bg8_w10 (fun h => h rfl)) 0 rfl))
    refine steps_cons (fun own a wx hf hs hE hO => ?_) ?_
    · obtain ⟨(f38 : a.eval (.tmp 38) = .bool false), -⟩ := hf
      obtain ⟨s11, -⟩ := hs
      exact sg_yes rfl rfl f38 (or_move (s11.trans ea17_11))
    refine steps_cons (fun own a wx hf hs hE hO => ?_) ?_
    · obtain ⟨(f38 : a.eval (.tmp 38) = .bool false), -⟩ := hf
      obtain ⟨s12, -⟩ := hs
      exact sg_yes rfl rfl f38 (or_move (s12.trans ea17_12))
    refine steps_cons (fun own a wx hf hs hE hO => ?_) ?_
    · obtain ⟨(f38 : a.eval (.tmp 38) = .bool false), (f44 : a.eval (.tmp 44) = .slice (some ⟨g8, 0, none⟩) 5 5), (f45 : a.eval (.tmp 45) = .int .i64 0), -⟩ := hf
      exact sg_yes rfl rfl f38 (or_index (j := 0) tl41 f44 f45 rfl (by decide) rfl (by rfl))
    refine steps_cons (fun own a wx hf hs hE hO => ?_) ?_
    · obtain ⟨(f38 : a.eval (.tmp 38) = .bool false), (f46 : a.eval (.tmp 46) = .pointer (some ⟨g8, 0, none⟩)), -⟩ := hf
      exact sg_yes rfl rfl f38 (or_field fo29_1 f46 (by rfl))
    refine steps_cons (fun own a wx hf hs hE hO => ?_) ?_
    · obtain ⟨(f38 : a.eval (.tmp 38) = .bool false), (f47 : a.eval (.tmp 47) = .pointer (some ⟨g8, 1, none⟩)), -⟩ := hf
      exact sg_yes rfl rfl f38 (or_load1 to3 f47 (Blk.at_ (hE.blk bg8_w10 (fun h => h rfl)) 1 rfl))
    refine steps_cons (fun own a wx hf hs hE hO => ?_) ?_
    · obtain ⟨(f38 : a.eval (.tmp 38) = .bool false), (f43 : a.eval (.tmp 43) = .int .i64 ax), (f48 : a.eval (.tmp 48) = .int .i64 ay), -⟩ := hf
      exact sg_yes rfl rfl f38 (or_min f43 f48)
    refine steps_cons (fun own a wx hf hs hE hO => ?_) ?_
    · obtain ⟨(f38 : a.eval (.tmp 38) = .bool false), (f49 : a.eval (.tmp 49) = .int .i64 (imin ax ay)), -⟩ := hf
      exact sg_yes rfl rfl f38 (or_lss f49 rfl rfl)
    refine steps_cons (fun own a wx hf hs hE hO => ?_) ?_
    · obtain ⟨(f38 : a.eval (.tmp 38) = .bool false), (f50 : a.eval (.tmp 50) = .bool (decide ((imin ax ay) < (-4194304)))), -⟩ := hf
      exact sg_plain rfl (or_pick_f f38 f50)
    exact steps_nil
  intro owna26 a26 w27 hda26 hza26 hsa26 hfa26 hEa26 hOa26 hpa26
  have ea26_10 : a26.eval (.tmp 10) = .bool false := (hsa26 10 rfl).trans ea17_10
  have ea26_5 : a26.eval (.tmp 5) = .pointer (some ⟨g1, 0, none⟩) := (hsa26 5 rfl).trans ea17_5
  have ea26_6 : a26.eval (.tmp 6) = .pointer (some ⟨g2, 0, none⟩) := (hsa26 6 rfl).trans ea17_6
  have ea26_7 : a26.eval (.tmp 7) = .pointer (some ⟨g3, 0, none⟩) := (hsa26 7 rfl).trans ea17_7
  have ea26_8 : a26.eval (.tmp 8) = .pointer (some ⟨g4, 0, none⟩) := (hsa26 8 rfl).trans ea17_8
  have ea26_9 : a26.eval (.tmp 9) = .pointer (some ⟨g5, 0, none⟩) := (hsa26 9 rfl).trans ea17_9
  have ea26_11 : a26.eval (.tmp 11) = .slice (some ⟨g8, 0, none⟩) 5 5 := (hsa26 11 rfl).trans ea17_11
  have ea26_12 : a26.eval (.tmp 12) = .int .i64 0 := (hsa26 12 rfl).trans ea17_12
  have ea26_23 : a26.eval (.tmp 23) = .bool true := (hsa26 23 rfl).trans ea17_23
  obtain ⟨(ea26_51 : a26.eval (.tmp 51) = .bool (decide ((imin ax ay) < (-4194304)))), -⟩ := hfa26 [25] rfl
  have hNa26 : Ext (fun _ => False) w10 w27 := hEa26.mono_ (fun _ h => h rfl)
  have bg1_w27 := hNa26.blk bg1_w10 (fun h => h)
  have bg2_w27 := hNa26.blk bg2_w10 (fun h => h)
  have bg3_w27 := hNa26.blk bg3_w10 (fun h => h)
  have bg4_w27 := hNa26.blk bg4_w10 (fun h => h)
  have bg5_w27 := hNa26.blk bg5_w10 (fun h => h)
  have bg8_w27 := hNa26.blk bg8_w10 (fun h => h)
  have hXw27_w := hXw10_w.trans_ hNa26 (fun b hb h1 h2 => h2)
  have hBw27 : Below w.heap.size w w27 := hXw27_w.below (Nat.le_refl _) (fun _ _ h => h)
  clear hEa26 hOa26 hpa26 hfa26 hsa26
  refine fl_cond ea26_51 (fun c28 => ?_) (fun c28 => ?_)
  · have dc28 : (imin ax ay) < (-4194304) := of_decide_eq_true c28
    refine rg_plain_seq (n := 163) (pu := false) (kl := []) (rs := []) (oth := 2) (own0 := (fun _ => 2))
        (bs := [0, 1])
        (ds := [⟨[], [], Fct.val 0 52 (.bool true)⟩,
        ⟨[0], [], Fct.val 1 10 (.bool true)⟩]) (by kernel_rfl) hza26 hda26 (fun _ h => nomatch h) ?_ ?_
    · refine steps_cons (fun own a wx hf hs hE hO => ?_) ?_
      · exact sg_plain rfl (or_call cf15 (args0) (known_any _) (post_val rfl))
      refine steps_cons (fun own a wx hf hs hE hO => ?_) ?_
      · obtain ⟨(f52 : a.eval (.tmp 52) = .bool true), -⟩ := hf
        exact sg_plain rfl (or_assign f52)
      exact steps_nil
    intro owna29 a29 w30 hda29 hza29 hsa29 hfa29 hEa29 hOa29 hpa29
    have ea29_5 : a29.eval (.tmp 5) = .pointer (some ⟨g1, 0, none⟩) := (hsa29 5 rfl).trans ea26_5
    have ea29_6 : a29.eval (.tmp 6) = .pointer (some ⟨g2, 0, none⟩) := (hsa29 6 rfl).trans ea26_6
    have ea29_7 : a29.eval (.tmp 7) = .pointer (some ⟨g3, 0, none⟩) := (hsa29 7 rfl).trans ea26_7
    have ea29_8 : a29.eval (.tmp 8) = .pointer (some ⟨g4, 0, none⟩) := (hsa29 8 rfl).trans ea26_8
    have ea29_9 : a29.eval (.tmp 9) = .pointer (some ⟨g5, 0, none⟩) := (hsa29 9 rfl).trans ea26_9
    have ea29_11 : a29.eval (.tmp 11) = .slice (some ⟨g8, 0, none⟩) 5 5 := (hsa29 11 rfl).trans ea26_11
    have ea29_12 : a29.eval (.tmp 12) = .int .i64 0 := (hsa29 12 rfl).trans ea26_12
    have ea29_23 : a29.eval (.tmp 23) = .bool true := (hsa29 23 rfl).trans ea26_23
    have ea29_51 : a29.eval (.tmp 51) = .bool (decide ((imin ax ay) < (-4194304))) := (hsa29 51 rfl).trans ea26_51
    obtain ⟨(ea29_10 : a29.eval (.tmp 10) = .bool true), -⟩ := hfa29 [1] rfl
    have hNa29 : Ext (fun _ => False) w27 w30 := hEa29.mono_ (fun _ h => h rfl)
    have bg1_w30 := hNa29.blk bg1_w27 (fun h => h)
    have bg2_w30 := hNa29.blk bg2_w27 (fun h => h)
    have bg3_w30 := hNa29.blk bg3_w27 (fun h => h)
    have bg4_w30 := hNa29.blk bg4_w27 (fun h => h)
    have bg5_w30 := hNa29.blk bg5_w27 (fun h => h)
    have bg8_w30 := hNa29.blk bg8_w27 (fun h => h)
    have hXw30_w := hXw27_w.trans_ hNa29 (fun b hb h1 h2 => h2)
    have hBw30 : Below w.heap.size w w30 := hXw30_w.below (Nat.le_refl _) (fun _ _ h => h)
    clear hEa29 hOa29 hpa29 hfa29 hsa29
    refine fl_ret ?_
    refine hp20 _ _ _ rfl ?_
    refine hp19 _ _ _ rfl ?_
    refine hp15 _ _ _ rfl ?_
    refine hp14 _ _ _ rfl ?_
    refine hp11 _ _ _ rfl ?_
    refine hret _ _ _ hda29 (results1_ rfl (RVal.tmp_ ea29_10)) ?_
    exact ⟨congrArg Ending.returned rfl, hBw30⟩
  have dc28 : ¬ ((imin ax ay) < (-4194304)) := of_decide_eq_false c28
  have mc28 : -4194304 ≤ ax ∧ -4194304 ≤ ay := by rw [imin_eq] at dc28; omega
  refine fl_skip ?_
  refine hn20 _ _ ?_
  refine hn19 _ _ ?_
  refine rg_plain (n := 163) (pu := true) (kl := []) (rs := []) (oth := 3) (own0 := (fun _ => 3))
      (bs := [0, 1, 3])
      (ds := [⟨[], [12], Fct.val 0 24 (.int .i64 0)⟩,
      ⟨[0], [], Fct.val 1 25 (.int .i64 1)⟩,
      ⟨[1], [], Fct.val 2 12 (.int .i64 1)⟩]) (by kernel_rfl) hza26 hda26 (fun _ h => nomatch h) ?_ ?_
  · refine steps_cons (fun own a wx hf hs hE hO => ?_) ?_
    · obtain ⟨s12, -⟩ := hs
      exact sg_plain rfl (or_move (s12.trans ea26_12))
    refine steps_cons (fun own a wx hf hs hE hO => ?_) ?_
    · obtain ⟨(f24 : a.eval (.tmp 24) = .int .i64 0), -⟩ := hf
      exact sg_plain rfl (or_add f24 rfl (by decide))
    refine steps_cons (fun own a wx hf hs hE hO => ?_) ?_
    · obtain ⟨(f25 : a.eval (.tmp 25) = .int .i64 1), -⟩ := hf
      exact sg_plain rfl (or_assign f25)
    exact steps_nil
  intro owna31 a31 w32 hda31 hza31 hsa31 hfa31 hEa31 hOa31 hpa31
  have ea31_10 : a31.eval (.tmp 10) = .bool false := (hsa31 10 rfl).trans ea26_10
  have ea31_5 : a31.eval (.tmp 5) = .pointer (some ⟨g1, 0, none⟩) := (hsa31 5 rfl).trans ea26_5
  have ea31_6 : a31.eval (.tmp 6) = .pointer (some ⟨g2, 0, none⟩) := (hsa31 6 rfl).trans ea26_6
  have ea31_7 : a31.eval (.tmp 7) = .pointer (some ⟨g3, 0, none⟩) := (hsa31 7 rfl).trans ea26_7
  have ea31_8 : a31.eval (.tmp 8) = .pointer (some ⟨g4, 0, none⟩) := (hsa31 8 rfl).trans ea26_8
  have ea31_9 : a31.eval (.tmp 9) = .pointer (some ⟨g5, 0, none⟩) := (hsa31 9 rfl).trans ea26_9
  have ea31_11 : a31.eval (.tmp 11) = .slice (some ⟨g8, 0, none⟩) 5 5 := (hsa31 11 rfl).trans ea26_11
  have ea31_23 : a31.eval (.tmp 23) = .bool true := (hsa31 23 rfl).trans ea26_23
  have ea31_51 : a31.eval (.tmp 51) = .bool (decide ((imin ax ay) < (-4194304))) := (hsa31 51 rfl).trans ea26_51
  obtain ⟨(ea31_12 : a31.eval (.tmp 12) = .int .i64 1), -⟩ := hfa31 [2] rfl
  have hwa31 : w27 = w32 := (hpa31 rfl).symm
  clear hEa31 hOa31 hpa31 hfa31 hsa31
  subst hwa31
  refine hn15 _ _ ?_
  refine fl_round (fun Q33 hn33 hp33 => ?_)
  refine fl_seq (fun Q34 hn34 hp34 => ?_)
  refine rg_plain_seq (n := 163) (pu := true) (kl := []) (rs := []) (oth := 4) (own0 := (fun _ => 4))
      (bs := [0, 0, 2, 7])
      (ds := [⟨[], [12], Fct.val 0 20 (.int .i64 1)⟩,
      ⟨[], [11], Fct.val 1 21 (.slice (some ⟨g8, 0, none⟩) 5 5)⟩,
      ⟨[1], [], Fct.val 2 22 (.int .i64 5)⟩,
      ⟨[0, 2], [], Fct.val 3 23 (.bool true)⟩]) (by kernel_rfl) hza31 hda31 (fun _ h => nomatch h) ?_ ?_
  · refine steps_cons (fun own a wx hf hs hE hO => ?_) ?_
    · obtain ⟨s12, -⟩ := hs
      exact sg_plain rfl (or_move (s12.trans ea31_12))
    refine steps_cons (fun own a wx hf hs hE hO => ?_) ?_
    · obtain ⟨s11, -⟩ := hs
      exact sg_plain rfl (or_move (s11.trans ea31_11))
    refine steps_cons (fun own a wx hf hs hE hO => ?_) ?_
    · obtain ⟨(f21 : a.eval (.tmp 21) = .slice (some ⟨g8, 0, none⟩) 5 5), -⟩ := hf
      exact sg_plain rfl (or_len tu41 f21 rfl)
    refine steps_cons (fun own a wx hf hs hE hO => ?_) ?_
    · obtain ⟨(f20 : a.eval (.tmp 20) = .int .i64 1), (f22 : a.eval (.tmp 22) = .int .i64 5), -⟩ := hf
      exact sg_plain rfl (or_lss f20 f22 (by decide))
    exact steps_nil
  intro owna35 a35 w36 hda35 hza35 hsa35 hfa35 hEa35 hOa35 hpa35
  have ea35_10 : a35.eval (.tmp 10) = .bool false := (hsa35 10 rfl).trans ea31_10
  have ea35_5 : a35.eval (.tmp 5) = .pointer (some ⟨g1, 0, none⟩) := (hsa35 5 rfl).trans ea31_5
  have ea35_6 : a35.eval (.tmp 6) = .pointer (some ⟨g2, 0, none⟩) := (hsa35 6 rfl).trans ea31_6
  have ea35_7 : a35.eval (.tmp 7) = .pointer (some ⟨g3, 0, none⟩) := (hsa35 7 rfl).trans ea31_7
  have ea35_8 : a35.eval (.tmp 8) = .pointer (some ⟨g4, 0, none⟩) := (hsa35 8 rfl).trans ea31_8
  have ea35_9 : a35.eval (.tmp 9) = .pointer (some ⟨g5, 0, none⟩) := (hsa35 9 rfl).trans ea31_9
  have ea35_11 : a35.eval (.tmp 11) = .slice (some ⟨g8, 0, none⟩) 5 5 := (hsa35 11 rfl).trans ea31_11
  have ea35_51 : a35.eval (.tmp 51) = .bool (decide ((imin ax ay) < (-4194304))) := (hsa35 51 rfl).trans ea31_51
  have ea35_12 : a35.eval (.tmp 12) = .int .i64 1 := (hsa35 12 rfl).trans ea31_12
  obtain ⟨(ea35_23 : a35.eval (.tmp 23) = .bool true), -⟩ := hfa35 [3] rfl
  have hwa35 : w27 = w36 := (hpa35 rfl).symm
  clear hEa35 hOa35 hpa35 hfa35 hsa35
  subst hwa35
  refine wp_cond_true ea35_23 ?_
  refine fl_skip ?_
  refine hn34 _ _ ?_
  refine fl_seq (fun Q37 hn37 hp37 => ?_)
  refine fl_block (fun Q38 hn38 hx38 hp38 => ?_)
  rcases Bool.eq_false_or_eq_true (decide (4194304 < (imax bx bY))) with c39 | c39
  · have dc39 : 4194304 < (imax bx bY) := of_decide_eq_true c39
    refine rg_draw_seq g_mixed (n := 163) (pu := true) (kl := []) (rs := []) (oth := 26) (own0 := (fun _ => 26))
        (bs := [0, 0, 3, 7, 15, 0, 0, 96, 224, 480, 1023, 2047, 4095, 8191, 8191, 32767, 65535, 131071, 8191, 8191, 794623, 1843199, 3940351, 8388607, 16777215, 33554431])
        (ds := [⟨[], [11], Fct.val 0 26 (.slice (some ⟨g8, 0, none⟩) 5 5)⟩,
        ⟨[], [12], Fct.val 1 27 (.int .i64 1)⟩,
        ⟨[0, 1], [], Fct.val 2 28 (.pointer (some ⟨g8, 2, none⟩))⟩,
        ⟨[2], [], Fct.val 3 29 (.pointer (some ⟨g8, 2, none⟩))⟩,
        ⟨[3], [], Fct.val 4 30 (.int .i64 bx)⟩,
        ⟨[], [11], Fct.val 5 31 (.slice (some ⟨g8, 0, none⟩) 5 5)⟩,
        ⟨[], [12], Fct.val 6 32 (.int .i64 1)⟩,
        ⟨[5, 6], [], Fct.val 7 33 (.pointer (some ⟨g8, 2, none⟩))⟩,
        ⟨[7], [], Fct.val 8 34 (.pointer (some ⟨g8, 3, none⟩))⟩,
        ⟨[8], [], Fct.val 9 35 (.int .i64 bY)⟩,
        ⟨[4, 9], [], Fct.val 10 36 (.int .i64 (imax bx bY))⟩,
        ⟨[10], [], Fct.val 11 37 (.bool true)⟩,
        ⟨[11], [], Fct.val 12 38 (.bool true)⟩,
        ⟨[12], [], Fct.val 13 39 undef⟩,
        ⟨[12], [], Fct.val 14 40 undef⟩,
        ⟨[12], [], Fct.val 15 41 undef⟩,
        ⟨[12], [], Fct.val 16 42 undef⟩,
        ⟨[12], [], Fct.val 17 43 undef⟩,
        ⟨[12], [], Fct.val 18 44 undef⟩,
        ⟨[12], [], Fct.val 19 45 undef⟩,
        ⟨[12], [], Fct.val 20 46 undef⟩,
        ⟨[12], [], Fct.val 21 47 undef⟩,
        ⟨[12], [], Fct.val 22 48 undef⟩,
        ⟨[12], [], Fct.val 23 49 undef⟩,
        ⟨[12], [], Fct.val 24 50 undef⟩,
        ⟨[12], [], Fct.val 25 51 (.bool true)⟩]) (by kernel_rfl) hza35 hda35 (fun _ h => nomatch h) ?_ ?_
    · refine steps_cons (fun own a wx hf hs hE hO => ?_) ?_
      · obtain ⟨s11, -⟩ := hs
        exact sg_plain rfl (or_move (s11.trans ea35_11))
      refine steps_cons (fun own a wx hf hs hE hO => ?_) ?_
      · obtain ⟨s12, -⟩ := hs
        exact sg_plain rfl (or_move (s12.trans ea35_12))
      refine steps_cons (fun own a wx hf hs hE hO => ?_) ?_
      · obtain ⟨(f26 : a.eval (.tmp 26) = .slice (some ⟨g8, 0, none⟩) 5 5), (f27 : a.eval (.tmp 27) = .int .i64 1), -⟩ := hf
        exact sg_plain rfl (or_index (j := 1) tl41 f26 f27 rfl (by decide) rfl (by rfl))
      refine steps_cons (fun own a wx hf hs hE hO => ?_) ?_
      · obtain ⟨(f28 : a.eval (.tmp 28) = .pointer (some ⟨g8, 2, none⟩)), -⟩ := hf
        exact sg_plain rfl (or_field fo29_0 f28 (by rfl))
      refine steps_cons (fun own a wx hf hs hE hO => ?_) ?_
      · obtain ⟨(f29 : a.eval (.tmp 29) = .pointer (some ⟨g8, 2, none⟩)), -⟩ := hf
        exact sg_plain rfl (or_load1 to3 f29 (Blk.at_ (hE.blk bg8_w27 (fun h => h rfl)) 2 rfl))
      refine steps_cons (fun own a wx hf hs hE hO => ?_) ?_
      · obtain ⟨s11, -⟩ := hs
        exact sg_plain rfl (or_move (s11.trans ea35_11))
      refine steps_cons (fun own a wx hf hs hE hO => ?_) ?_
      · obtain ⟨s12, -⟩ := hs
        exact sg_plain rfl (or_move (s12.trans ea35_12))
      refine steps_cons (fun own a wx hf hs hE hO => ?_) ?_
      · obtain ⟨(f31 : a.eval (.tmp 31) = .slice (some ⟨g8, 0, none⟩) 5 5), (f32 : a.eval (.tmp 32) = .int .i64 1), -⟩ := hf
        exact sg_plain rfl (or_index (j := 1) tl41 f31 f32 rfl (by decide) rfl (by rfl))
      refine steps_cons (fun own a wx hf hs hE hO => ?_) ?_
      · obtain ⟨(f33 : a.eval (.tmp 33) = .pointer (some ⟨g8, 2, none⟩)), -⟩ := hf
        exact sg_plain rfl (or_field fo29_1 f33 (by rfl))
      refine steps_cons (fun own a wx hf hs hE hO => ?_) ?_
      · obtain ⟨(f34 : a.eval (.tmp 34) = .pointer (some ⟨g8, 3, none⟩)), -⟩ := hf
        exact sg_plain rfl (or_load1 to3 f34 (Blk.at_ (hE.blk bg8_w27 (fun h => h rfl)) 3 rfl))
      refine steps_cons (fun own a wx hf hs hE hO => ?_) ?_
      · obtain ⟨(f30 : a.eval (.tmp 30) = .int .i64 bx), (f35 : a.eval (.tmp 35) = .int .i64 bY), -⟩ := hf
        exact sg_plain rfl (or_max f30 f35)
      refine steps_cons (fun own a wx hf hs hE hO => ?_) ?_
      · obtain ⟨(f36 : a.eval (.tmp 36) = .int .i64 (imax bx bY)), -⟩ := hf
        exact sg_plain rfl (or_gtr f36 rfl c39)
      refine steps_cons (fun own a wx hf hs hE hO => ?_) ?_
      · obtain ⟨(f37 : a.eval (.tmp 37) = .bool true), -⟩ := hf
        exact sg_plain rfl (or_move f37)
      refine steps_cons (fun own a wx hf hs hE hO => ?_) ?_
      · obtain ⟨(f38 : a.eval (.tmp 38) = .bool true), -⟩ := hf
        exact sg_no rfl rfl f38 rfl (fun a' ha => ha.1 39 rfl)
      refine steps_cons (fun own a wx hf hs hE hO => ?_) ?_
      · obtain ⟨(f38 : a.eval (.tmp 38) = .bool true), -⟩ := hf
        exact sg_no rfl rfl f38 rfl (fun a' ha => ha.1 40 rfl)
      refine steps_cons (fun own a wx hf hs hE hO => ?_) ?_
      · obtain ⟨(f38 : a.eval (.tmp 38) = .bool true), -⟩ := hf
        exact sg_no rfl rfl f38 rfl (fun a' ha => ha.1 41 rfl)
      refine steps_cons (fun own a wx hf hs hE hO => ?_) ?_
      · obtain ⟨(f38 : a.eval (.tmp 38) = .bool true), -⟩ := hf
        exact sg_no rfl rfl f38 rfl (fun a' ha => ha.1 42 rfl)
      refine steps_cons (fun own a wx hf hs hE hO => ?_) ?_
      · obtain ⟨(f38 : a.eval (.tmp 38) = .bool true), -⟩ := hf
        exact sg_no rfl rfl f38 rfl (fun a' ha => ha.1 43 rfl)
      refine steps_cons (fun own a wx hf hs hE hO => ?_) ?_
      · obtain ⟨(f38 : a.eval (.tmp 38) = .bool true), -⟩ := hf
        exact sg_no rfl rfl f38 rfl (fun a' ha => ha.1 44 rfl)
      refine steps_cons (fun own a wx hf hs hE hO => ?_) ?_
      · obtain ⟨(f38 : a.eval (.tmp 38) = .bool true), -⟩ := hf
        exact sg_no rfl rfl f38 rfl (fun a' ha => ha.1 45 rfl)
      refine steps_cons (fun own a wx hf hs hE hO => ?_) ?_
      · obtain ⟨(f38 : a.eval (.tmp 38) = .bool true), -⟩ := hf
        exact sg_no rfl rfl f38 rfl (fun a' ha => ha.1 46 rfl)
      refine steps_cons (fun own a wx hf hs hE hO => ?_) ?_
      · obtain ⟨(f38 : a.eval (.tmp 38) = .bool true), -⟩ := hf
        exact sg_no rfl rfl f38 rfl (fun a' ha => ha.1 47 rfl)
      refine steps_cons (fun own a wx hf hs hE hO => ?_) ?_
      · obtain ⟨(f38 : a.eval (.tmp 38) = .bool true), -⟩ := hf
        exact sg_no rfl rfl f38 rfl (fun a' ha => ha.1 48 rfl)
      refine steps_cons (fun own a wx hf hs hE hO => ?_) ?_
      · obtain ⟨(f38 : a.eval (.tmp 38) = .bool true), -⟩ := hf
        exact sg_no rfl rfl f38 rfl (fun a' ha => ha.1 49 rfl)
      refine steps_cons (fun own a wx hf hs hE hO => ?_) ?_
      · obtain ⟨(f38 : a.eval (.tmp 38) = .bool true), -⟩ := hf
        exact sg_no rfl rfl f38 rfl (fun a' ha => ha.1 50 rfl)
      refine steps_cons (fun own a wx hf hs hE hO => ?_) ?_
      · obtain ⟨(f38 : a.eval (.tmp 38) = .bool true), -⟩ := hf
        exact sg_plain rfl (or_pick_t f38 rfl)
      exact steps_nil
    intro owna40 a40 w41 hda40 hza40 hsa40 hfa40 hEa40 hOa40 hpa40
    have ea40_10 : a40.eval (.tmp 10) = .bool false := (hsa40 10 rfl).trans ea35_10
    have ea40_5 : a40.eval (.tmp 5) = .pointer (some ⟨g1, 0, none⟩) := (hsa40 5 rfl).trans ea35_5
    have ea40_6 : a40.eval (.tmp 6) = .pointer (some ⟨g2, 0, none⟩) := (hsa40 6 rfl).trans ea35_6
    have ea40_7 : a40.eval (.tmp 7) = .pointer (some ⟨g3, 0, none⟩) := (hsa40 7 rfl).trans ea35_7
    have ea40_8 : a40.eval (.tmp 8) = .pointer (some ⟨g4, 0, none⟩) := (hsa40 8 rfl).trans ea35_8
    have ea40_9 : a40.eval (.tmp 9) = .pointer (some ⟨g5, 0, none⟩) := (hsa40 9 rfl).trans ea35_9
    have ea40_11 : a40.eval (.tmp 11) = .slice (some ⟨g8, 0, none⟩) 5 5 := (hsa40 11 rfl).trans ea35_11
    have ea40_12 : a40.eval (.tmp 12) = .int .i64 1 := (hsa40 12 rfl).trans ea35_12
    have ea40_23 : a40.eval (.tmp 23) = .bool true := (hsa40 23 rfl).trans ea35_23
    obtain ⟨(ea40_51 : a40.eval (.tmp 51) = .bool true), -⟩ := hfa40 [25] rfl
    have hNa40 : Ext (fun _ => False) w27 w41 := hEa40.mono_ (fun _ h => h rfl)
    have bg1_w41 := hNa40.blk bg1_w27 (fun h => h)
    have bg2_w41 := hNa40.blk bg2_w27 (fun h => h)
    have bg3_w41 := hNa40.blk bg3_w27 (fun h => h)
    have bg4_w41 := hNa40.blk bg4_w27 (fun h => h)
    have bg5_w41 := hNa40.blk bg5_w27 (fun h => h)
    have bg8_w41 := hNa40.blk bg8_w27 (fun h => h)
    have hXw41_w := hXw27_w.trans_ hNa40 (fun b hb h1 h2 => h2)
    have hBw41 : Below w.heap.size w w41 := hXw41_w.below (Nat.le_refl _) (fun _ _ h => h)
    clear hEa40 hOa40 hpa40 hfa40 hsa40
    refine wp_cond_true ea40_51 ?_
    refine rg_plain_seq (n := 163) (pu := false) (kl := []) (rs := []) (oth := 2) (own0 := (fun _ => 2))
        (bs := [0, 1])
        (ds := [⟨[], [], Fct.val 0 52 (.bool true)⟩,
        ⟨[0], [], Fct.val 1 10 (.bool true)⟩]) (by kernel_rfl) hza40 hda40 (fun _ h => nomatch h) ?_ ?_
    · refine steps_cons (fun own a wx hf hs hE hO => ?_) ?_
      · exact sg_plain rfl (or_call cf15 (args0) (known_any _) (post_val rfl))
      refine steps_cons (fun own a wx hf hs hE hO => ?_) ?_
      · obtain ⟨(f52 : a.eval (.tmp 52) = .bool true), -⟩ := hf
        exact sg_plain rfl (or_assign f52)
      exact steps_nil
    intro owna42 a42 w43 hda42 hza42 hsa42 hfa42 hEa42 hOa42 hpa42
    have ea42_5 : a42.eval (.tmp 5) = .pointer (some ⟨g1, 0, none⟩) := (hsa42 5 rfl).trans ea40_5
    have ea42_6 : a42.eval (.tmp 6) = .pointer (some ⟨g2, 0, none⟩) := (hsa42 6 rfl).trans ea40_6
    have ea42_7 : a42.eval (.tmp 7) = .pointer (some ⟨g3, 0, none⟩) := (hsa42 7 rfl).trans ea40_7
    have ea42_8 : a42.eval (.tmp 8) = .pointer (some ⟨g4, 0, none⟩) := (hsa42 8 rfl).trans ea40_8
    have ea42_9 : a42.eval (.tmp 9) = .pointer (some ⟨g5, 0, none⟩) := (hsa42 9 rfl).trans ea40_9
    have ea42_11 : a42.eval (.tmp 11) = .slice (some ⟨g8, 0, none⟩) 5 5 := (hsa42 11 rfl).trans ea40_11
    have ea42_12 : a42.eval (.tmp 12) = .int .i64 1 := (hsa42 12 rfl).trans ea40_12
    have ea42_23 : a42.eval (.tmp 23) = .bool true := (hsa42 23 rfl).trans ea40_23
    have ea42_51 : a42.eval (.tmp 51) = .bool true := (hsa42 51 rfl).trans ea40_51
    obtain ⟨(ea42_10 : a42.eval (.tmp 10) = .bool true), -⟩ := hfa42 [1] rfl
    have hNa42 : Ext (fun _ => False) w41 w43 := hEa42.mono_ (fun _ h => h rfl)
    have bg1_w43 := hNa42.blk bg1_w41 (fun h => h)
    have bg2_w43 := hNa42.blk bg2_w41 (fun h => h)
    have bg3_w43 := hNa42.blk bg3_w41 (fun h => h)
    have bg4_w43 := hNa42.blk bg4_w41 (fun h => h)
    have bg5_w43 := hNa42.blk bg5_w41 (fun h => h)
    have bg8_w43 := hNa42.blk bg8_w41 (fun h => h)
    have hXw43_w := hXw41_w.trans_ hNa42 (fun b hb h1 h2 => h2)
    have hBw43 : Below w.heap.size w w43 := hXw43_w.below (Nat.le_refl _) (fun _ _ h => h)
    clear hEa42 hOa42 hpa42 hfa42 hsa42
    refine fl_ret ?_
    refine hp38 _ _ _ rfl ?_
    refine hp37 _ _ _ rfl ?_
    refine hp33 _ _ _ rfl ?_
    refine hp14 _ _ _ rfl ?_
    refine hp11 _ _ _ rfl ?_
    refine hret _ _ _ hda42 (results1_ rfl (RVal.tmp_ ea42_10)) ?_
    exact ⟨congrArg Ending.returned rfl, hBw43⟩
  have dc39 : ¬ (4194304 < (imax bx bY)) := of_decide_eq_false c39
  have mc39 : bx ≤ 4194304 ∧ bY ≤ 4194304 := by rw [imax_eq] at dc39; omega
  refine rg_draw_seq g_mixed (n := 163) (pu := true) (kl := []) (rs := []) (oth := 26) (own0 := (fun _ => 26))
      (bs := [0, 0, 3, 7, 15, 0, 0, 96, 224, 480, 1023, 2047, 4095, 8191, 8191, 32767, 65535, 131071, 8191, 8191, 794623, 1843199, 3940351, 8388607, 16777215, 33554431])
      (ds := [⟨[], [11], Fct.val 0 26 (.slice (some ⟨g8, 0, none⟩) 5 5)⟩,
      ⟨[], [12], Fct.val 1 27 (.int .i64 1)⟩,
      ⟨[0, 1], [], Fct.val 2 28 (.pointer (some ⟨g8, 2, none⟩))⟩,
      ⟨[2], [], Fct.val 3 29 (.pointer (some ⟨g8, 2, none⟩))⟩,
      ⟨[3], [], Fct.val 4 30 (.int .i64 bx)⟩,
      ⟨[], [11], Fct.val 5 31 (.slice (some ⟨g8, 0, none⟩) 5 5)⟩,
      ⟨[], [12], Fct.val 6 32 (.int .i64 1)⟩,
      ⟨[5, 6], [], Fct.val 7 33 (.pointer (some ⟨g8, 2, none⟩))⟩,
      ⟨[7], [], Fct.val 8 34 (.pointer (some ⟨g8, 3, none⟩))⟩,
      ⟨[8], [], Fct.val 9 35 (.int .i64 bY)⟩,
      ⟨[4, 9], [], Fct.val 10 36 (.int .i64 (imax bx bY))⟩,
      ⟨[10], [], Fct.val 11 37 (.bool false)⟩,
      ⟨[11], [], Fct.val 12 38 (.bool false)⟩,
      ⟨[12], [11], Fct.val 13 39 (.slice (some ⟨g8, 0, none⟩) 5 5)⟩,
      ⟨[12], [12], Fct.val 14 40 (.int .i64 1)⟩,
      ⟨[12, 13, 14], [], Fct.val 15 41 (.pointer (some ⟨g8, 2, none⟩))⟩,
      ⟨[12, 15], [], Fct.val 16 42 (.pointer (some ⟨g8, 2, none⟩))⟩,
      ⟨[12, 16], [], Fct.val 17 43 (.int .i64 bx)⟩,
      ⟨[12], [11], Fct.val 18 44 (.slice (some ⟨g8, 0, none⟩) 5 5)⟩,
      ⟨[12], [12], Fct.val 19 45 (.int .i64 1)⟩,
      ⟨[12, 18, 19], [], Fct.val 20 46 (.pointer (some ⟨g8, 2, none⟩))⟩,
      ⟨[12, 20], [], Fct.val 21 47 (.pointer (some ⟨g8, 3, none⟩))⟩,
      ⟨[12, 21], [], Fct.val 22 48 (.int .i64 bY)⟩,
      ⟨[12, 17, 22], [], Fct.val 23 49 (.int .i64 (imin bx bY))⟩,
      ⟨[12, 23], [], Fct.val 24 50 (.bool (decide ((imin bx bY) < (-4194304))))⟩,
      ⟨[12, 24], [], Fct.val 25 51 (.bool (decide ((imin bx bY) < (-4194304))))⟩]) (by kernel_rfl) hza35 hda35 (fun _ h => nomatch h) ?_ ?_
  · refine steps_cons (fun own a wx hf hs hE hO => ?_) ?_
    · obtain ⟨s11, -⟩ := hs
      exact sg_plain rfl (or_move (s11.trans ea35_11))
    refine steps_cons (fun own a wx hf hs hE hO => ?_) ?_
    · obtain ⟨s12, -⟩ := hs
      exact sg_plain rfl (or_move (s12.trans ea35_12))
    refine steps_cons (fun own a wx hf hs hE hO => ?_) ?_
    · obtain ⟨(f26 : a.eval (.tmp 26) = .slice (some ⟨g8, 0, none⟩) 5 5), (f27 : a.eval (.tmp 27) = .int .i64 1), -⟩ := hf
      exact sg_plain rfl (or_index (j := 1) tl41 f26 f27 rfl (by decide) rfl (by rfl))
    refine steps_cons (fun own a wx hf hs hE hO => ?_) ?_
    · obtain ⟨(f28 : a.eval (.tmp 28) = .pointer (some ⟨g8, 2, none⟩)), -⟩ := hf
      exact sg_plain rfl (or_field fo29_0 f28 (by rfl))
    refine steps_cons (fun own a wx hf hs hE hO => ?_) ?_
    · obtain ⟨(f29 : a.eval (.tmp 29) = .pointer (some ⟨g8, 2, none⟩)), -⟩ := hf
      exact sg_plain rfl (or_load1 to3 f29 (Blk.at_ (hE.blk bg8_w27 (fun h => h rfl)) 2 rfl))
    refine steps_cons (fun own a wx hf hs hE hO => ?_) ?_
    · obtain ⟨s11, -⟩ := hs
      exact sg_plain rfl (or_move (s11.trans ea35_11))
    refine steps_cons (fun own a wx hf hs hE hO => ?_) ?_
    · obtain ⟨s12, -⟩ := hs
      exact sg_plain rfl (or_move (s12.trans ea35_12))
    refine steps_cons (fun own a wx hf hs hE hO => ?_) ?_
    · obtain ⟨(f31 : a.eval (.tmp 31) = .slice (some ⟨g8, 0, none⟩) 5 5), (f32 : a.eval (.tmp 32) = .int .i64 1), -⟩ := hf
      exact sg_plain rfl (or_index (j := 1) tl41 f31 f32 rfl (by decide) rfl (by rfl))
    refine steps_cons (fun own a wx hf hs hE hO => ?_) ?_
    · obtain ⟨(f33 : a.eval (.tmp 33) = .pointer (some ⟨g8, 2, none⟩)), -⟩ := hf
      exact sg_plain rfl (or_field fo29_1 f33 (by rfl))
    refine steps_cons (fun own a wx hf hs hE hO => ?_) ?_
    · obtain ⟨(f34 : a.eval (.tmp 34) = .pointer (some ⟨g8, 3, none⟩)), -⟩ := hf
      exact sg_plain rfl (or_load1 to3 f34 (Blk.at_ (hE.blk bg8_w27 (fun h => h rfl)) 3 rfl))
    refine steps_cons (fun own a wx hf hs hE hO => ?_) ?_
    · obtain ⟨(f30 : a.eval (.tmp 30) = .int .i64 bx), (f35 : a.eval (.tmp 35) = .int .i64 bY), -⟩ := hf
      exact sg_plain rfl (or_max f30 f35)
    refine steps_cons (fun own a wx hf hs hE hO => ?_) ?_
    · obtain ⟨(f36 : a.eval (.tmp 36) = .int .i64 (imax bx bY)), -⟩ := hf
      exact sg_plain rfl (or_gtr f36 rfl c39)
    refine steps_cons (fun own a wx hf hs hE hO => ?_) ?_
    · obtain ⟨(f37 : a.eval (.tmp 37) = .bool false), -⟩ := hf
      exact sg_plain rfl (or_move f37)
    refine steps_cons (fun own a wx hf hs hE hO => ?_) ?_
    · obtain ⟨(f38 : a.eval (.tmp 38) = .bool false), -⟩ := hf
      obtain ⟨s11, -⟩ := hs
      exact sg_yes rfl rfl f38 (or_move (s11.trans ea35_11))
    refine steps_cons (fun own a wx hf hs hE hO => ?_) ?_
    · obtain ⟨(f38 : a.eval (.tmp 38) = .bool false), -⟩ := hf
      obtain ⟨s12, -⟩ := hs
      exact sg_yes rfl rfl f38 (or_move (s12.trans ea35_12))
    refine steps_cons (fun own a wx hf hs hE hO => ?_) ?_
    · obtain ⟨(f38 : a.eval (.tmp 38) = .bool false), (f39 : a.eval (.tmp 39) = .slice (some ⟨g8, 0, none⟩) 5 5), (f40 : a.eval (.tmp 40) = .int .i64 1), -⟩ := hf
      exact sg_yes rfl rfl f38 (or_index (j := 1) tl41 f39 f40 rfl (by decide) rfl (by rfl))
    refine steps_cons (fun own a wx hf hs hE hO => ?_) ?_
    · obtain ⟨(f38 : a.eval (.tmp 38) = .bool false), (f41 : a.eval (.tmp 41) = .pointer (some ⟨g8, 2, none⟩)), -⟩ := hf
      exact sg_yes rfl rfl f38 (or_field fo29_0 f41 (by rfl))
    refine steps_cons (fun own a wx hf hs hE hO => ?_) ?_
    · obtain ⟨(f38 : a.eval (.tmp 38) = .bool false), (f42 : a.eval (.tmp 42) = .pointer (some ⟨g8, 2, none⟩)), -⟩ := hf
      exact sg_yes rfl rfl f38 (or_load1 to3 f42 (Blk.at_ (hE.blk bg8_w27 (fun h => h rfl)) 2 rfl))
    refine steps_cons (fun own a wx hf hs hE hO => ?_) ?_
    · obtain ⟨(f38 : a.eval (.tmp 38) = .bool false), -⟩ := hf
      obtain ⟨s11, -⟩ := hs
      exact sg_yes rfl rfl f38 (or_move (s11.trans ea35_11))
    refine steps_cons (fun own a wx hf hs hE hO => ?_) ?_
    · obtain ⟨(f38 : a.eval (.tmp 38) = .bool false), -⟩ := hf
      obtain ⟨s12, -⟩ := hs
      exact sg_yes rfl rfl f38 (or_move (s12.trans ea35_12))
    refine steps_cons (fun own a wx hf hs hE hO => ?_) ?_
    · obtain ⟨(f38 : a.eval (.tmp 38) = .bool false), (f44 : a.eval (.tmp 44) = .slice (some ⟨g8, 0, none⟩) 5 5), (f45 : a.eval (.tmp 45) = .int .i64 1), -⟩ := hf
      exact sg_yes rfl rfl f38 (or_index (j := 1) tl41 f44 f45 rfl (by decide) rfl (by rfl))
    refine steps_cons (fun own a wx hf hs hE hO => ?_) ?_
    · obtain ⟨(f38 : a.eval (.tmp 38) = .bool false), (f46 : a.eval (.tmp 46) = .pointer (some ⟨g8, 2, none⟩)), -⟩ := hf
      exact sg_yes rfl rfl f38 (or_field fo29_1 f46 (by rfl))
    refine steps_cons (fun own a wx hf hs hE hO => ?_) ?_
    · obtain ⟨(f38 : a.eval (.tmp 38) = .bool false), (f47 : a.eval (.tmp 47) = .pointer (some ⟨g8, 3, none⟩)), -⟩ := hf
      exact sg_yes rfl rfl f38 (or_load1 to3 f47 (Blk.at_ (hE.blk bg8_w27 (fun h => h rfl)) 3 rfl))
    refine steps_cons (fun own a wx hf hs hE hO => ?_) ?_
    · obtain ⟨(f38 : a.eval (.tmp 38) = .bool false), (f43 : a.eval (.tmp 43) = .int .i64 bx), (f48 : a.eval (.tmp 48) = .int .i64 bY), -⟩ := hf
      exact sg_yes rfl rfl f38 (or_min f43 f48)
    refine steps_cons (fun own a wx hf hs hE hO => ?_) ?_
    · obtain ⟨(f38 : a.eval (.tmp 38) = .bool false), (f49 : a.eval (.tmp 49) = .int .i64 (imin bx bY)), -⟩ := hf
      exact sg_yes rfl rfl f38 (or_lss f49 rfl rfl)
    refine steps_cons (fun own a wx hf hs hE hO => ?_) ?_
    · obtain ⟨(f38 : a.eval (.tmp 38) = .bool false), (f50 : a.eval (.tmp 50) = .bool (decide ((imin bx bY) < (-4194304)))), -⟩ := hf
      exact sg_plain rfl (or_pick_f f38 f50)
    exact steps_nil
  intro owna44 a44 w45 hda44 hza44 hsa44 hfa44 hEa44 hOa44 hpa44
  have ea44_10 : a44.eval (.tmp 10) = .bool false := (hsa44 10 rfl).trans ea35_10
  have ea44_5 : a44.eval (.tmp 5) = .pointer (some ⟨g1, 0, none⟩) := (hsa44 5 rfl).trans ea35_5
  have ea44_6 : a44.eval (.tmp 6) = .pointer (some ⟨g2, 0, none⟩) := (hsa44 6 rfl).trans ea35_6
  have ea44_7 : a44.eval (.tmp 7) = .pointer (some ⟨g3, 0, none⟩) := (hsa44 7 rfl).trans ea35_7
  have ea44_8 : a44.eval (.tmp 8) = .pointer (some ⟨g4, 0, none⟩) := (hsa44 8 rfl).trans ea35_8
  have ea44_9 : a44.eval (.tmp 9) = .pointer (some ⟨g5, 0, none⟩) := (hsa44 9 rfl).trans ea35_9
  have ea44_11 : a44.eval (.tmp 11) = .slice (some ⟨g8, 0, none⟩) 5 5 := (hsa44 11 rfl).trans ea35_11
  have ea44_12 : a44.eval (.tmp 12) = .int .i64 1 := (hsa44 12 rfl).trans ea35_12
  have ea44_23 : a44.eval (.tmp 23) = .bool true := (hsa44 23 rfl).trans ea35_23
  obtain ⟨(ea44_51 : a44.eval (.tmp 51) = .bool (decide ((imin bx bY) < (-4194304)))), -⟩ := hfa44 [25] rfl
  have hNa44 : Ext (fun _ => False) w27 w45 := hEa44.mono_ (fun _ h => h rfl)
  have bg1_w45 := hNa44.blk bg1_w27 (fun h => h)
  have bg2_w45 := hNa44.blk bg2_w27 (fun h => h)
  have bg3_w45 := hNa44.blk bg3_w27 (fun h => h)
  have bg4_w45 := hNa44.blk bg4_w27 (fun h => h)
  have bg5_w45 := hNa44.blk bg5_w27 (fun h => h)
  have bg8_w45 := hNa44.blk bg8_w27 (fun h => h)
  have hXw45_w := hXw27_w.trans_ hNa44 (fun b hb h1 h2 => h2)
  have hBw45 : Below w.heap.size w w45 := hXw45_w.below (Nat.le_refl _) (fun _ _ h => h)
  clear hEa44 hOa44 hpa44 hfa44 hsa44
  refine fl_cond ea44_51 (fun c46 => ?_) (fun c46 => ?_)
  · have dc46 : (imin bx bY) < (-4194304) := of_decide_eq_true c46
    refine rg_plain_seq (n := 163) (pu := false) (kl := []) (rs := []) (oth := 2) (own0 := (fun _ => 2))
        (bs := [0, 1])
        (ds := [⟨[], [], Fct.val 0 52 (.bool true)⟩,
        ⟨[0], [], Fct.val 1 10 (.bool true)⟩]) (by kernel_rfl) hza44 hda44 (fun _ h => nomatch h) ?_ ?_
    · refine steps_cons (fun own a wx hf hs hE hO => ?_) ?_
      · exact sg_plain rfl (or_call cf15 (args0) (known_any _) (post_val rfl))
      refine steps_cons (fun own a wx hf hs hE hO => ?_) ?_
      · obtain ⟨(f52 : a.eval (.tmp 52) = .bool true), -⟩ := hf
        exact sg_plain rfl (or_assign f52)
      exact steps_nil
    intro owna47 a47 w48 hda47 hza47 hsa47 hfa47 hEa47 hOa47 hpa47
    have ea47_5 : a47.eval (.tmp 5) = .pointer (some ⟨g1, 0, none⟩) := (hsa47 5 rfl).trans ea44_5
    have ea47_6 : a47.eval (.tmp 6) = .pointer (some ⟨g2, 0, none⟩) := (hsa47 6 rfl).trans ea44_6
    have ea47_7 : a47.eval (.tmp 7) = .pointer (some ⟨g3, 0, none⟩) := (hsa47 7 rfl).trans ea44_7
    have ea47_8 : a47.eval (.tmp 8) = .pointer (some ⟨g4, 0, none⟩) := (hsa47 8 rfl).trans ea44_8
    have ea47_9 : a47.eval (.tmp 9) = .pointer (some ⟨g5, 0, none⟩) := (hsa47 9 rfl).trans ea44_9
    have ea47_11 : a47.eval (.tmp 11) = .slice (some ⟨g8, 0, none⟩) 5 5 := (hsa47 11 rfl).trans ea44_11
    have ea47_12 : a47.eval (.tmp 12) = .int .i64 1 := (hsa47 12 rfl).trans ea44_12
    have ea47_23 : a47.eval (.tmp 23) = .bool true := (hsa47 23 rfl).trans ea44_23
    have ea47_51 : a47.eval (.tmp 51) = .bool (decide ((imin bx bY) < (-4194304))) := (hsa47 51 rfl).trans ea44_51
    obtain ⟨(ea47_10 : a47.eval (.tmp 10) = .bool true), -⟩ := hfa47 [1] rfl
    have hNa47 : Ext (fun _ => False) w45 w48 := hEa47.mono_ (fun _ h => h rfl)
    have bg1_w48 := hNa47.blk bg1_w45 (fun h => h)
    have bg2_w48 := hNa47.blk bg2_w45 (fun h => h)
    have bg3_w48 := hNa47.blk bg3_w45 (fun h => h)
    have bg4_w48 := hNa47.blk bg4_w45 (fun h => h)
    have bg5_w48 := hNa47.blk bg5_w45 (fun h => h)
    have bg8_w48 := hNa47.blk bg8_w45 (fun h => h)
    have hXw48_w := hXw45_w.trans_ hNa47 (fun b hb h1 h2 => h2)
    have hBw48 : Below w.heap.size w w48 := hXw48_w.below (Nat.le_refl _) (fun _ _ h => h)
    clear hEa47 hOa47 hpa47 hfa47 hsa47
    refine fl_ret ?_
    refine hp38 _ _ _ rfl ?_
    refine hp37 _ _ _ rfl ?_
    refine hp33 _ _ _ rfl ?_
    refine hp14 _ _ _ rfl ?_
    refine hp11 _ _ _ rfl ?_
    refine hret _ _ _ hda47 (results1_ rfl (RVal.tmp_ ea47_10)) ?_
    exact ⟨congrArg Ending.returned rfl, hBw48⟩
  have dc46 : ¬ ((imin bx bY) < (-4194304)) := of_decide_eq_false c46
  have mc46 : -4194304 ≤ bx ∧ -4194304 ≤ bY := by rw [imin_eq] at dc46; omega
  refine fl_skip ?_
  refine hn38 _ _ ?_
  refine hn37 _ _ ?_
  refine rg_plain (n := 163) (pu := true) (kl := []) (rs := []) (oth := 3) (own0 := (fun _ => 3))
      (bs := [0, 1, 3])
      (ds := [⟨[], [12], Fct.val 0 24 (.int .i64 1)⟩,
      ⟨[0], [], Fct.val 1 25 (.int .i64 2)⟩,
      ⟨[1], [], Fct.val 2 12 (.int .i64 2)⟩]) (by kernel_rfl) hza44 hda44 (fun _ h => nomatch h) ?_ ?_
  · refine steps_cons (fun own a wx hf hs hE hO => ?_) ?_
    · obtain ⟨s12, -⟩ := hs
      exact sg_plain rfl (or_move (s12.trans ea44_12))
    refine steps_cons (fun own a wx hf hs hE hO => ?_) ?_
    · obtain ⟨(f24 : a.eval (.tmp 24) = .int .i64 1), -⟩ := hf
      exact sg_plain rfl (or_add f24 rfl (by decide))
    refine steps_cons (fun own a wx hf hs hE hO => ?_) ?_
    · obtain ⟨(f25 : a.eval (.tmp 25) = .int .i64 2), -⟩ := hf
      exact sg_plain rfl (or_assign f25)
    exact steps_nil
  intro owna49 a49 w50 hda49 hza49 hsa49 hfa49 hEa49 hOa49 hpa49
  have ea49_10 : a49.eval (.tmp 10) = .bool false := (hsa49 10 rfl).trans ea44_10
  have ea49_5 : a49.eval (.tmp 5) = .pointer (some ⟨g1, 0, none⟩) := (hsa49 5 rfl).trans ea44_5
  have ea49_6 : a49.eval (.tmp 6) = .pointer (some ⟨g2, 0, none⟩) := (hsa49 6 rfl).trans ea44_6
  have ea49_7 : a49.eval (.tmp 7) = .pointer (some ⟨g3, 0, none⟩) := (hsa49 7 rfl).trans ea44_7
  have ea49_8 : a49.eval (.tmp 8) = .pointer (some ⟨g4, 0, none⟩) := (hsa49 8 rfl).trans ea44_8
  have ea49_9 : a49.eval (.tmp 9) = .pointer (some ⟨g5, 0, none⟩) := (hsa49 9 rfl).trans ea44_9
  have ea49_11 : a49.eval (.tmp 11) = .slice (some ⟨g8, 0, none⟩) 5 5 := (hsa49 11 rfl).trans ea44_11
  have ea49_23 : a49.eval (.tmp 23) = .bool true := (hsa49 23 rfl).trans ea44_23
  have ea49_51 : a49.eval (.tmp 51) = .bool (decide ((imin bx bY) < (-4194304))) := (hsa49 51 rfl).trans ea44_51
  obtain ⟨(ea49_12 : a49.eval (.tmp 12) = .int .i64 2), -⟩ := hfa49 [2] rfl
  have hwa49 : w45 = w50 := (hpa49 rfl).symm
  clear hEa49 hOa49 hpa49 hfa49 hsa49
  subst hwa49
  refine hn33 _ _ ?_
  refine fl_round (fun Q51 hn51 hp51 => ?_)
  refine fl_seq (fun Q52 hn52 hp52 => ?_)
  refine rg_plain_seq (n := 163) (pu := true) (kl := []) (rs := []) (oth := 4) (own0 := (fun _ => 4))
      (bs := [0, 0, 2, 7])
      (ds := [⟨[], [12], Fct.val 0 20 (.int .i64 2)⟩,
      ⟨[], [11], Fct.val 1 21 (.slice (some ⟨g8, 0, none⟩) 5 5)⟩,
      ⟨[1], [], Fct.val 2 22 (.int .i64 5)⟩,
      ⟨[0, 2], [], Fct.val 3 23 (.bool true)⟩]) (by kernel_rfl) hza49 hda49 (fun _ h => nomatch h) ?_ ?_
  · refine steps_cons (fun own a wx hf hs hE hO => ?_) ?_
    · obtain ⟨s12, -⟩ := hs
      exact sg_plain rfl (or_move (s12.trans ea49_12))
    refine steps_cons (fun own a wx hf hs hE hO => ?_) ?_
    · obtain ⟨s11, -⟩ := hs
      exact sg_plain rfl (or_move (s11.trans ea49_11))
    refine steps_cons (fun own a wx hf hs hE hO => ?_) ?_
    · obtain ⟨(f21 : a.eval (.tmp 21) = .slice (some ⟨g8, 0, none⟩) 5 5), -⟩ := hf
      exact sg_plain rfl (or_len tu41 f21 rfl)
    refine steps_cons (fun own a wx hf hs hE hO => ?_) ?_
    · obtain ⟨(f20 : a.eval (.tmp 20) = .int .i64 2), (f22 : a.eval (.tmp 22) = .int .i64 5), -⟩ := hf
      exact sg_plain rfl (or_lss f20 f22 (by decide))
    exact steps_nil
  intro owna53 a53 w54 hda53 hza53 hsa53 hfa53 hEa53 hOa53 hpa53
  have ea53_10 : a53.eval (.tmp 10) = .bool false := (hsa53 10 rfl).trans ea49_10
  have ea53_5 : a53.eval (.tmp 5) = .pointer (some ⟨g1, 0, none⟩) := (hsa53 5 rfl).trans ea49_5
  have ea53_6 : a53.eval (.tmp 6) = .pointer (some ⟨g2, 0, none⟩) := (hsa53 6 rfl).trans ea49_6
  have ea53_7 : a53.eval (.tmp 7) = .pointer (some ⟨g3, 0, none⟩) := (hsa53 7 rfl).trans ea49_7
  have ea53_8 : a53.eval (.tmp 8) = .pointer (some ⟨g4, 0, none⟩) := (hsa53 8 rfl).trans ea49_8
  have ea53_9 : a53.eval (.tmp 9) = .pointer (some ⟨g5, 0, none⟩) := (hsa53 9 rfl).trans ea49_9
  have ea53_11 : a53.eval (.tmp 11) = .slice (some ⟨g8, 0, none⟩) 5 5 := (hsa53 11 rfl).trans ea49_11
  have ea53_51 : a53.eval (.tmp 51) = .bool (decide ((imin bx bY) < (-4194304))) := (hsa53 51 rfl).trans ea49_51
  have ea53_12 : a53.eval (.tmp 12) = .int .i64 2 := (hsa53 12 rfl).trans ea49_12
  obtain ⟨(ea53_23 : a53.eval (.tmp 23) = .bool true), -⟩ := hfa53 [3] rfl
  have hwa53 : w45 = w54 := (hpa53 rfl).symm
  clear hEa53 hOa53 hpa53 hfa53 hsa53
  subst hwa53
  refine wp_cond_true ea53_23 ?_
  refine fl_skip ?_
  refine hn52 _ _ ?_
  refine fl_seq (fun Q55 hn55 hp55 => ?_)
  refine fl_block (fun Q56 hn56 hx56 hp56 => ?_)
  rcases Bool.eq_false_or_eq_true (decide (4194304 < (imax cx cy))) with c57 | c57
  · have dc57 : 4194304 < (imax cx cy) := of_decide_eq_true c57
    refine rg_draw_seq g_mixed (n := 163) (pu := true) (kl := []) (rs := []) (oth := 26) (own0 := (fun _ => 26))
        (bs := [0, 0, 3, 7, 15, 0, 0, 96, 224, 480, 1023, 2047, 4095, 8191, 8191, 32767, 65535, 131071, 8191, 8191, 794623, 1843199, 3940351, 8388607, 16777215, 33554431])
        (ds := [⟨[], [11], Fct.val 0 26 (.slice (some ⟨g8, 0, none⟩) 5 5)⟩,
        ⟨[], [12], Fct.val 1 27 (.int .i64 2)⟩,
        ⟨[0, 1], [], Fct.val 2 28 (.pointer (some ⟨g8, 4, none⟩))⟩,
        ⟨[2], [], Fct.val 3 29 (.pointer (some ⟨g8, 4, none⟩))⟩,
        ⟨[3], [], Fct.val 4 30 (.int .i64 cx)⟩,
        ⟨[], [11], Fct.val 5 31 (.slice (some ⟨g8, 0, none⟩) 5 5)⟩,
        ⟨[], [12], Fct.val 6 32 (.int .i64 2)⟩,
        ⟨[5, 6], [], Fct.val 7 33 (.pointer (some ⟨g8, 4, none⟩))⟩,
        ⟨[7], [], Fct.val 8 34 (.pointer (some ⟨g8, 5, none⟩))⟩,
        ⟨[8], [], Fct.val 9 35 (.int .i64 cy)⟩,
        ⟨[4, 9], [], Fct.val 10 36 (.int .i64 (imax cx cy))⟩,
        ⟨[10], [], Fct.val 11 37 (.bool true)⟩,
        ⟨[11], [], Fct.val 12 38 (.bool true)⟩,
        ⟨[12], [], Fct.val 13 39 undef⟩,
        ⟨[12], [], Fct.val 14 40 undef⟩,
        ⟨[12], [], Fct.val 15 41 undef⟩,
        ⟨[12], [], Fct.val 16 42 undef⟩,
        ⟨[12], [], Fct.val 17 43 undef⟩,
        ⟨[12], [], Fct.val 18 44 undef⟩,
        ⟨[12], [], Fct.val 19 45 undef⟩,
        ⟨[12], [], Fct.val 20 46 undef⟩,
        ⟨[12], [], Fct.val 21 47 undef⟩,
        ⟨[12], [], Fct.val 22 48 undef⟩,
        ⟨[12], [], Fct.val 23 49 undef⟩,
        ⟨[12], [], Fct.val 24 50 undef⟩,
        ⟨[12], [], Fct.val 25 51 (.bool true)⟩]) (by kernel_rfl) hza53 hda53 (fun _ h => nomatch h) ?_ ?_
    · refine steps_cons (fun own a wx hf hs hE hO => ?_) ?_
      · obtain ⟨s11, -⟩ := hs
        exact sg_plain rfl (or_move (s11.trans ea53_11))
      refine steps_cons (fun own a wx hf hs hE hO => ?_) ?_
      · obtain ⟨s12, -⟩ := hs
        exact sg_plain rfl (or_move (s12.trans ea53_12))
      refine steps_cons (fun own a wx hf hs hE hO => ?_) ?_
      · obtain ⟨(f26 : a.eval (.tmp 26) = .slice (some ⟨g8, 0, none⟩) 5 5), (f27 : a.eval (.tmp 27) = .int .i64 2), -⟩ := hf
        exact sg_plain rfl (or_index (j := 2) tl41 f26 f27 rfl (by decide) rfl (by rfl))
      refine steps_cons (fun own a wx hf hs hE hO => ?_) ?_
      · obtain ⟨(f28 : a.eval (.tmp 28) = .pointer (some ⟨g8, 4, none⟩)), -⟩ := hf
        exact sg_plain rfl (or_field fo29_0 f28 (by rfl))
      refine steps_cons (fun own a wx hf hs hE hO => ?_) ?_
      · obtain ⟨(f29 : a.eval (.tmp 29) = .pointer (some ⟨g8, 4, none⟩)), -⟩ := hf
        exact sg_plain rfl (or_load1 to3 f29 (Blk.at_ (hE.blk bg8_w45 (fun h => h rfl)) 4 rfl))
      refine steps_cons (fun own a wx hf hs hE hO => ?_) ?_
      · obtain ⟨s11, -⟩ := hs
        exact sg_plain rfl (or_move (s11.trans ea53_11))
      refine steps_cons (fun own a wx hf hs hE hO => ?_) ?_
      · obtain ⟨s12, -⟩ := hs
        exact sg_plain rfl (or_move (s12.trans ea53_12))
      refine steps_cons (fun own a wx hf hs hE hO => ?_) ?_
      · obtain ⟨(f31 : a.eval (.tmp 31) = .slice (some ⟨g8, 0, none⟩) 5 5), (f32 : a.eval (.tmp 32) = .int .i64 2), -⟩ := hf
        exact sg_plain rfl (or_index (j := 2) tl41 f31 f32 rfl (by decide) rfl (by rfl))
      refine steps_cons (fun own a wx hf hs hE hO => ?_) ?_
      · obtain ⟨(f33 : a.eval (.tmp 33) = .pointer (some ⟨g8, 4, none⟩)), -⟩ := hf
        exact sg_plain rfl (or_field fo29_1 f33 (by rfl))
      refine steps_cons (fun own a wx hf hs hE hO => ?_) ?_
      · obtain ⟨(f34 : a.eval (.tmp 34) = .pointer (some ⟨g8, 5, none⟩)), -⟩ := hf
        exact sg_plain rfl (or_load1 to3 f34 (Blk.at_ (hE.blk bg8_w45 (fun h => h rfl)) 5 rfl))
      refine steps_cons (fun own a wx hf hs hE hO => ?_) ?_
      · obtain ⟨(f30 : a.eval (.tmp 30) = .int .i64 cx), (f35 : a.eval (.tmp 35) = .int .i64 cy), -⟩ := hf
        exact sg_plain rfl (or_max f30 f35)
      refine steps_cons (fun own a wx hf hs hE hO => ?_) ?_
      · obtain ⟨(f36 : a.eval (.tmp 36) = .int .i64 (imax cx cy)), -⟩ := hf
        exact sg_plain rfl (or_gtr f36 rfl c57)
      refine steps_cons (fun own a wx hf hs hE hO => ?_) ?_
      · obtain ⟨(f37 : a.eval (.tmp 37) = .bool true), -⟩ := hf
        exact sg_plain rfl (or_move f37)
      refine steps_cons (fun own a wx hf hs hE hO => ?_) ?_
      · obtain ⟨(f38 : a.eval (.tmp 38) = .bool true), -⟩ := hf
        exact sg_no rfl rfl f38 rfl (fun a' ha => ha.1 39 rfl)
      refine steps_cons (fun own a wx hf hs hE hO => ?_) ?_
      · obtain ⟨(f38 : a.eval (.tmp 38) = .bool true), -⟩ := hf
        exact sg_no rfl rfl f38 rfl (fun a' ha => ha.1 40 rfl)
      refine steps_cons (fun own a wx hf hs hE hO => ?_) ?_
      · obtain ⟨(f38 : a.eval (.tmp 38) = .bool true), -⟩ := hf
        exact sg_no rfl rfl f38 rfl (fun a' ha => ha.1 41 rfl)
      refine steps_cons (fun own a wx hf hs hE hO => ?_) ?_
      · obtain ⟨(f38 : a.eval (.tmp 38) = .bool true), -⟩ := hf
        exact sg_no rfl rfl f38 rfl (fun a' ha => ha.1 42 rfl)
      refine steps_cons (fun own a wx hf hs hE hO => ?_) ?_
      · obtain ⟨(f38 : a.eval (.tmp 38) = .bool true), -⟩ := hf
        exact sg_no rfl rfl f38 rfl (fun a' ha => ha.1 43 rfl)
      refine steps_cons (fun own a wx hf hs hE hO => ?_) ?_
      · obtain ⟨(f38 : a.eval (.tmp 38) = .bool true), -⟩ := hf
        exact sg_no rfl rfl f38 rfl (fun a' ha => ha.1 44 rfl)
      refine steps_cons (fun own a wx hf hs hE hO => ?_) ?_
      · obtain ⟨(f38 : a.eval (.tmp 38) = .bool true), -⟩ := hf
        exact sg_no rfl rfl f38 rfl (fun a' ha => ha.1 45 rfl)
      refine steps_cons (fun own a wx hf hs hE hO => ?_) ?_
      · obtain ⟨(f38 : a.eval (.tmp 38) = .bool true), -⟩ := hf
        exact sg_no rfl rfl f38 rfl (fun a' ha => ha.1 46 rfl)
      refine steps_cons (fun own a wx hf hs hE hO => ?_) ?_
      · obtain ⟨(f38 : a.eval (.tmp 38) = .bool true), -⟩ := hf
        exact sg_no rfl rfl f38 rfl (fun a' ha => ha.1 47 rfl)
      refine steps_cons (fun own a wx hf hs hE hO => ?_) ?_
      · obtain ⟨(f38 : a.eval (.tmp 38) = .bool true), -⟩ := hf
        exact sg_no rfl rfl f38 rfl (fun a' ha => ha.1 48 rfl)
      refine steps_cons (fun own a wx hf hs hE hO => ?_) ?_
      · obtain ⟨(f38 : a.eval (.tmp 38) = .bool true), -⟩ := hf
        exact sg_no rfl rfl f38 rfl (fun a' ha => ha.1 49 rfl)
      refine steps_cons (fun own a wx hf hs hE hO => ?_) ?_
      · obtain ⟨(f38 : a.eval (.tmp 38) = .bool true), -⟩ := hf
        exact sg_no rfl rfl f38 rfl (fun a' ha => ha.1 50 rfl)
      refine steps_cons (fun own a wx hf hs hE hO => ?_) ?_
      · obtain ⟨(f38 : a.eval (.tmp 38) = .bool true), -⟩ := hf
        exact sg_plain rfl (or_pick_t f38 rfl)
      exact steps_nil
    intro owna58 a58 w59 hda58 hza58 hsa58 hfa58 hEa58 hOa58 hpa58
    have ea58_10 : a58.eval (.tmp 10) = .bool false := (hsa58 10 rfl).trans ea53_10
    have ea58_5 : a58.eval (.tmp 5) = .pointer (some ⟨g1, 0, none⟩) := (hsa58 5 rfl).trans ea53_5
    have ea58_6 : a58.eval (.tmp 6) = .pointer (some ⟨g2, 0, none⟩) := (hsa58 6 rfl).trans ea53_6
    have ea58_7 : a58.eval (.tmp 7) = .pointer (some ⟨g3, 0, none⟩) := (hsa58 7 rfl).trans ea53_7
    have ea58_8 : a58.eval (.tmp 8) = .pointer (some ⟨g4, 0, none⟩) := (hsa58 8 rfl).trans ea53_8
    have ea58_9 : a58.eval (.tmp 9) = .pointer (some ⟨g5, 0, none⟩) := (hsa58 9 rfl).trans ea53_9
    have ea58_11 : a58.eval (.tmp 11) = .slice (some ⟨g8, 0, none⟩) 5 5 := (hsa58 11 rfl).trans ea53_11
    have ea58_12 : a58.eval (.tmp 12) = .int .i64 2 := (hsa58 12 rfl).trans ea53_12
    have ea58_23 : a58.eval (.tmp 23) = .bool true := (hsa58 23 rfl).trans ea53_23
    obtain ⟨(ea58_51 : a58.eval (.tmp 51) = .bool true), -⟩ := hfa58 [25] rfl
    have hNa58 : Ext (fun _ => False) w45 w59 := hEa58.mono_ (fun _ h => h rfl)
    have bg1_w59 := hNa58.blk bg1_w45 (fun h => h)
    have bg2_w59 := hNa58.blk bg2_w45 (fun h => h)
    have bg3_w59 := hNa58.blk bg3_w45 (fun h => h)
    have bg4_w59 := hNa58.blk bg4_w45 (fun h => h)
    have bg5_w59 := hNa58.blk bg5_w45 (fun h => h)
    have bg8_w59 := hNa58.blk bg8_w45 (fun h => h)
    have hXw59_w := hXw45_w.trans_ hNa58 (fun b hb h1 h2 => h2)
    have hBw59 : Below w.heap.size w w59 := hXw59_w.below (Nat.le_refl _) (fun _ _ h => h)
    clear hEa58 hOa58 hpa58 hfa58 hsa58
    refine wp_cond_true ea58_51 ?_
    refine rg_plain_seq (n := 163) (pu := false) (kl := []) (rs := []) (oth := 2) (own0 := (fun _ => 2))
        (bs := [0, 1])
        (ds := [⟨[], [], Fct.val 0 52 (.bool true)⟩,
        ⟨[0], [], Fct.val 1 10 (.bool true)⟩]) (by kernel_rfl) hza58 hda58 (fun _ h => nomatch h) ?_ ?_
    · refine steps_cons (fun own a wx hf hs hE hO => ?_) ?_
      · exact sg_plain rfl (or_call cf15 (args0) (known_any _) (post_val rfl))
      refine steps_cons (fun own a wx hf hs hE hO => ?_) ?_
      · obtain ⟨(f52 : a.eval (.tmp 52) = .bool true), -⟩ := hf
        exact sg_plain rfl (or_assign f52)
      exact steps_nil
    intro owna60 a60 w61 hda60 hza60 hsa60 hfa60 hEa60 hOa60 hpa60
    have ea60_5 : a60.eval (.tmp 5) = .pointer (some ⟨g1, 0, none⟩) := (hsa60 5 rfl).trans ea58_5
    have ea60_6 : a60.eval (.tmp 6) = .pointer (some ⟨g2, 0, none⟩) := (hsa60 6 rfl).trans ea58_6
    have ea60_7 : a60.eval (.tmp 7) = .pointer (some ⟨g3, 0, none⟩) := (hsa60 7 rfl).trans ea58_7
    have ea60_8 : a60.eval (.tmp 8) = .pointer (some ⟨g4, 0, none⟩) := (hsa60 8 rfl).trans ea58_8
    have ea60_9 : a60.eval (.tmp 9) = .pointer (some ⟨g5, 0, none⟩) := (hsa60 9 rfl).trans ea58_9
    have ea60_11 : a60.eval (.tmp 11) = .slice (some ⟨g8, 0, none⟩) 5 5 := (hsa60 11 rfl).trans ea58_11
    have ea60_12 : a60.eval (.tmp 12) = .int .i64 2 := (hsa60 12 rfl).trans ea58_12
    have ea60_23 : a60.eval (.tmp 23) = .bool true := (hsa60 23 rfl).trans ea58_23
    have ea60_51 : a60.eval (.tmp 51) = .bool true := (hsa60 51 rfl).trans ea58_51
    obtain ⟨(ea60_10 : a60.eval (.tmp 10) = .bool true), -⟩ := hfa60 [1] rfl
    have hNa60 : Ext (fun _ => False) w59 w61 := hEa60.mono_ (fun _ h => h rfl)
    have bg1_w61 := hNa60.blk bg1_w59 (fun h => h)
    have bg2_w61 := hNa60.blk bg2_w59 (fun h => h)
    have bg3_w61 := hNa60.blk bg3_w59 (fun h => h)
    have bg4_w61 := hNa60.blk bg4_w59 (fun h => h)
    have bg5_w61 := hNa60.blk bg5_w59 (fun h => h)
    have bg8_w61 := hNa60.blk bg8_w59 (fun h => h)
    have hXw61_w := hXw59_w.trans_ hNa60 (fun b hb h1 h2 => h2)
    have hBw61 : Below w.heap.size w w61 := hXw61_w.below (Nat.le_refl _) (fun _ _ h => h)
    clear hEa60 hOa60 hpa60 hfa60 hsa60
    refine fl_ret ?_
    refine hp56 _ _ _ rfl ?_
    refine hp55 _ _ _ rfl ?_
    refine hp51 _ _ _ rfl ?_
    refine hp14 _ _ _ rfl ?_
    refine hp11 _ _ _ rfl ?_
    refine hret _ _ _ hda60 (results1_ rfl (RVal.tmp_ ea60_10)) ?_
    exact ⟨congrArg Ending.returned rfl, hBw61⟩
  have dc57 : ¬ (4194304 < (imax cx cy)) := of_decide_eq_false c57
  have mc57 : cx ≤ 4194304 ∧ cy ≤ 4194304 := by rw [imax_eq] at dc57; omega
  refine rg_draw_seq g_mixed (n := 163) (pu := true) (kl := []) (rs := []) (oth := 26) (own0 := (fun _ => 26))
      (bs := [0, 0, 3, 7, 15, 0, 0, 96, 224, 480, 1023, 2047, 4095, 8191, 8191, 32767, 65535, 131071, 8191, 8191, 794623, 1843199, 3940351, 8388607, 16777215, 33554431])
      (ds := [⟨[], [11], Fct.val 0 26 (.slice (some ⟨g8, 0, none⟩) 5 5)⟩,
      ⟨[], [12], Fct.val 1 27 (.int .i64 2)⟩,
      ⟨[0, 1], [], Fct.val 2 28 (.pointer (some ⟨g8, 4, none⟩))⟩,
      ⟨[2], [], Fct.val 3 29 (.pointer (some ⟨g8, 4, none⟩))⟩,
      ⟨[3], [], Fct.val 4 30 (.int .i64 cx)⟩,
      ⟨[], [11], Fct.val 5 31 (.slice (some ⟨g8, 0, none⟩) 5 5)⟩,
      ⟨[], [12], Fct.val 6 32 (.int .i64 2)⟩,
      ⟨[5, 6], [], Fct.val 7 33 (.pointer (some ⟨g8, 4, none⟩))⟩,
      ⟨[7], [], Fct.val 8 34 (.pointer (some ⟨g8, 5, none⟩))⟩,
      ⟨[8], [], Fct.val 9 35 (.int .i64 cy)⟩,
      ⟨[4, 9], [], Fct.val 10 36 (.int .i64 (imax cx cy))⟩,
      ⟨[10], [], Fct.val 11 37 (.bool false)⟩,
      ⟨[11], [], Fct.val 12 38 (.bool false)⟩,
      ⟨[12], [11], Fct.val 13 39 (.slice (some ⟨g8, 0, none⟩) 5 5)⟩,
      ⟨[12], [12], Fct.val 14 40 (.int .i64 2)⟩,
      ⟨[12, 13, 14], [], Fct.val 15 41 (.pointer (some ⟨g8, 4, none⟩))⟩,
      ⟨[12, 15], [], Fct.val 16 42 (.pointer (some ⟨g8, 4, none⟩))⟩,
      ⟨[12, 16], [], Fct.val 17 43 (.int .i64 cx)⟩,
      ⟨[12], [11], Fct.val 18 44 (.slice (some ⟨g8, 0, none⟩) 5 5)⟩,
      ⟨[12], [12], Fct.val 19 45 (.int .i64 2)⟩,
      ⟨[12, 18, 19], [], Fct.val 20 46 (.pointer (some ⟨g8, 4, none⟩))⟩,
      ⟨[12, 20], [], Fct.val 21 47 (.pointer (some ⟨g8, 5, none⟩))⟩,
      ⟨[12, 21], [], Fct.val 22 48 (.int .i64 cy)⟩,
      ⟨[12, 17, 22], [], Fct.val 23 49 (.int .i64 (imin cx cy))⟩,
      ⟨[12, 23], [], Fct.val 24 50 (.bool (decide ((imin cx cy) < (-4194304))))⟩,
      ⟨[12, 24], [], Fct.val 25 51 (.bool (decide ((imin cx cy) < (-4194304))))⟩]) (by kernel_rfl) hza53 hda53 (fun _ h => nomatch h) ?_ ?_
  · refine steps_cons (fun own a wx hf hs hE hO => ?_) ?_
    · obtain ⟨s11, -⟩ := hs
      exact sg_plain rfl (or_move (s11.trans ea53_11))
    refine steps_cons (fun own a wx hf hs hE hO => ?_) ?_
    · obtain ⟨s12, -⟩ := hs
      exact sg_plain rfl (or_move (s12.trans ea53_12))
    refine steps_cons (fun own a wx hf hs hE hO => ?_) ?_
    · obtain ⟨(f26 : a.eval (.tmp 26) = .slice (some ⟨g8, 0, none⟩) 5 5), (f27 : a.eval (.tmp 27) = .int .i64 2), -⟩ := hf
      exact sg_plain rfl (or_index (j := 2) tl41 f26 f27 rfl (by decide) rfl (by rfl))
    refine steps_cons (fun own a wx hf hs hE hO => ?_) ?_
    · obtain ⟨(f28 : a.eval (.tmp 28) = .pointer (some ⟨g8, 4, none⟩)), -⟩ := hf
      exact sg_plain rfl (or_field fo29_0 f28 (by rfl))
    refine steps_cons (fun own a wx hf hs hE hO => ?_) ?_
    · obtain ⟨(f29 : a.eval (.tmp 29) = .pointer (some ⟨g8, 4, none⟩)), -⟩ := hf
      exact sg_plain rfl (or_load1 to3 f29 (Blk.at_ (hE.blk bg8_w45 (fun h => h rfl)) 4 rfl))
    refine steps_cons (fun own a wx hf hs hE hO => ?_) ?_
    · obtain ⟨s11, -⟩ := hs
      exact sg_plain rfl (or_move (s11.trans ea53_11))
    refine steps_cons (fun own a wx hf hs hE hO => ?_) ?_
    · obtain ⟨s12, -⟩ := hs
      exact sg_plain rfl (or_move (s12.trans ea53_12))
    refine steps_cons (fun own a wx hf hs hE hO => ?_) ?_
    · obtain ⟨(f31 : a.eval (.tmp 31) = .slice (some ⟨g8, 0, none⟩) 5 5), (f32 : a.eval (.tmp 32) = .int .i64 2), -⟩ := hf
      exact sg_plain rfl (or_index (j := 2) tl41 f31 f32 rfl (by decide) rfl (by rfl))
    refine steps_cons (fun own a wx hf hs hE hO => ?_) ?_
    · obtain ⟨(f33 : a.eval (.tmp 33) = .pointer (some ⟨g8, 4, none⟩)), -⟩ := hf
      exact sg_plain rfl (or_field fo29_1 f33 (by rfl))
    refine steps_cons (fun own a wx hf hs hE hO => ?_) ?_
    · obtain ⟨(f34 : a.eval (.tmp 34) = .pointer (some ⟨g8, 5, none⟩)), -⟩ := hf
      exact sg_plain rfl (or_load1 to3 f34 (Blk.at_ (hE.blk bg8_w45 (fun h => h rfl)) 5 rfl))
    refine steps_cons (fun own a wx hf hs hE hO => ?_) ?_
    · obtain ⟨(f30 : a.eval (.tmp 30) = .int .i64 cx), (f35 : a.eval (.tmp 35) = .int .i64 cy), -⟩ := hf
      exact sg_plain rfl (or_max f30 f35)
    refine steps_cons (fun own a wx hf hs hE hO => ?_) ?_
    · obtain ⟨(f36 : a.eval (.tmp 36) = .int .i64 (imax cx cy)), -⟩ := hf
      exact sg_plain rfl (or_gtr f36 rfl c57)
    refine steps_cons (fun own a wx hf hs hE hO => ?_) ?_
    · obtain ⟨(f37 : a.eval (.tmp 37) = .bool false), -⟩ := hf
      exact sg_plain rfl (or_move f37)
    refine steps_cons (fun own a wx hf hs hE hO => ?_) ?_
    · obtain ⟨(f38 : a.eval (.tmp 38) = .bool false), -⟩ := hf
      obtain ⟨s11, -⟩ := hs
      exact sg_yes rfl rfl f38 (or_move (s11.trans ea53_11))
    refine steps_cons (fun own a wx hf hs hE hO => ?_) ?_
    · obtain ⟨(f38 : a.eval (.tmp 38) = .bool false), -⟩ := hf
      obtain ⟨s12, -⟩ := hs
      exact sg_yes rfl rfl f38 (or_move (s12.trans ea53_12))
    refine steps_cons (fun own a wx hf hs hE hO => ?_) ?_
    · obtain ⟨(f38 : a.eval (.tmp 38) = .bool false), (f39 : a.eval (.tmp 39) = .slice (some ⟨g8, 0, none⟩) 5 5), (f40 : a.eval (.tmp 40) = .int .i64 2), -⟩ := hf
      exact sg_yes rfl rfl f38 (or_index (j := 2) tl41 f39 f40 rfl (by decide) rfl (by rfl))
    refine steps_cons (fun own a wx hf hs hE hO => ?_) ?_
    · obtain ⟨(f38 : a.eval (.tmp 38) = .bool false), (f41 : a.eval (.tmp 41) = .pointer (some ⟨g8, 4, none⟩)), -⟩ := hf
      exact sg_yes rfl rfl f38 (or_field fo29_0 f41 (by rfl))
    refine steps_cons (fun own a wx hf hs hE hO => ?_) ?_
    · obtain ⟨(f38 : a.eval (.tmp 38) = .bool false), (f42 : a.eval (.tmp 42) = .pointer (some ⟨g8, 4, none⟩)), -⟩ := hf
      exact sg_yes rfl rfl f38 (or_load1 to3 f42 (Blk.at_ (hE.blk bg8_w45 (fun h => h rfl)) 4 rfl))
    refine steps_cons (fun own a wx hf hs hE hO => ?_) ?_
    · obtain ⟨(f38 : a.eval (.tmp 38) = .bool false), -⟩ := hf
      obtain ⟨s11, -⟩ := hs
      exact sg_yes rfl rfl f38 (or_move (s11.trans ea53_11))
    refine steps_cons (fun own a wx hf hs hE hO => ?_) ?_
    · obtain ⟨(f38 : a.eval (.tmp 38) = .bool false), -⟩ := hf
      obtain ⟨s12, -⟩ := hs
      exact sg_yes rfl rfl f38 (or_move (s12.trans ea53_12))
    refine steps_cons (fun own a wx hf hs hE hO => ?_) ?_
    · obtain ⟨(f38 : a.eval (.tmp 38) = .bool false), (f44 : a.eval (.tmp 44) = .slice (some ⟨g8, 0, none⟩) 5 5), (f45 : a.eval (.tmp 45) = .int .i64 2), -⟩ := hf
      exact sg_yes rfl rfl f38 (or_index (j := 2) tl41 f44 f45 rfl (by decide) rfl (by rfl))
    refine steps_cons (fun own a wx hf hs hE hO => ?_) ?_
    · obtain ⟨(f38 : a.eval (.tmp 38) = .bool false), (f46 : a.eval (.tmp 46) = .pointer (some ⟨g8, 4, none⟩)), -⟩ := hf
      exact sg_yes rfl rfl f38 (or_field fo29_1 f46 (by rfl))
    refine steps_cons (fun own a wx hf hs hE hO => ?_) ?_
    · obtain ⟨(f38 : a.eval (.tmp 38) = .bool false), (f47 : a.eval (.tmp 47) = .pointer (some ⟨g8, 5, none⟩)), -⟩ := hf
      exact sg_yes rfl rfl f38 (or_load1 to3 f47 (Blk.at_ (hE.blk bg8_w45 (fun h => h rfl)) 5 rfl))
    refine steps_cons (fun own a wx hf hs hE hO => ?_) ?_
    · obtain ⟨(f38 : a.eval (.tmp 38) = .bool false), (f43 : a.eval (.tmp 43) = .int .i64 cx), (f48 : a.eval (.tmp 48) = .int .i64 cy), -⟩ := hf
      exact sg_yes rfl rfl f38 (or_min f43 f48)
    refine steps_cons (fun own a wx hf hs hE hO => ?_) ?_
    · obtain ⟨(f38 : a.eval (.tmp 38) = .bool false), (f49 : a.eval (.tmp 49) = .int .i64 (imin cx cy)), -⟩ := hf
      exact sg_yes rfl rfl f38 (or_lss f49 rfl rfl)
    refine steps_cons (fun own a wx hf hs hE hO => ?_) ?_
    · obtain ⟨(f38 : a.eval (.tmp 38) = .bool false), (f50 : a.eval (.tmp 50) = .bool (decide ((imin cx cy) < (-4194304)))), -⟩ := hf
      exact sg_plain rfl (or_pick_f f38 f50)
    exact steps_nil
  intro owna62 a62 w63 hda62 hza62 hsa62 hfa62 hEa62 hOa62 hpa62
  have ea62_10 : a62.eval (.tmp 10) = .bool false := (hsa62 10 rfl).trans ea53_10
  have ea62_5 : a62.eval (.tmp 5) = .pointer (some ⟨g1, 0, none⟩) := (hsa62 5 rfl).trans ea53_5
  have ea62_6 : a62.eval (.tmp 6) = .pointer (some ⟨g2, 0, none⟩) := (hsa62 6 rfl).trans ea53_6
  have ea62_7 : a62.eval (.tmp 7) = .pointer (some ⟨g3, 0, none⟩) := (hsa62 7 rfl).trans ea53_7
  have ea62_8 : a62.eval (.tmp 8) = .pointer (some ⟨g4, 0, none⟩) := (hsa62 8 rfl).trans ea53_8
  have ea62_9 : a62.eval (.tmp 9) = .pointer (some ⟨g5, 0, none⟩) := (hsa62 9 rfl).trans ea53_9
  have ea62_11 : a62.eval (.tmp 11) = .slice (some ⟨g8, 0, none⟩) 5 5 := (hsa62 11 rfl).trans ea53_11
  have ea62_12 : a62.eval (.tmp 12) = .int .i64 2 := (hsa62 12 rfl).trans ea53_12
  have ea62_23 : a62.eval (.tmp 23) = .bool true := (hsa62 23 rfl).trans ea53_23
  obtain ⟨(ea62_51 : a62.eval (.tmp 51) = .bool (decide ((imin cx cy) < (-4194304)))), -⟩ := hfa62 [25] rfl
  have hNa62 : Ext (fun _ => False) w45 w63 := hEa62.mono_ (fun _ h => h rfl)
  have bg1_w63 := hNa62.blk bg1_w45 (fun h => h)
  have bg2_w63 := hNa62.blk bg2_w45 (fun h => h)
  have bg3_w63 := hNa62.blk bg3_w45 (fun h => h)
  have bg4_w63 := hNa62.blk bg4_w45 (fun h => h)
  have bg5_w63 := hNa62.blk bg5_w45 (fun h => h)
  have bg8_w63 := hNa62.blk bg8_w45 (fun h => h)
  have hXw63_w := hXw45_w.trans_ hNa62 (fun b hb h1 h2 => h2)
  have hBw63 : Below w.heap.size w w63 := hXw63_w.below (Nat.le_refl _) (fun _ _ h => h)
  clear hEa62 hOa62 hpa62 hfa62 hsa62
  refine fl_cond ea62_51 (fun c64 => ?_) (fun c64 => ?_)
  · have dc64 : (imin cx cy) < (-4194304) := of_decide_eq_true c64
    refine rg_plain_seq (n := 163) (pu := false) (kl := []) (rs := []) (oth := 2) (own0 := (fun _ => 2))
        (bs := [0, 1])
        (ds := [⟨[], [], Fct.val 0 52 (.bool true)⟩,
        ⟨[0], [], Fct.val 1 10 (.bool true)⟩]) (by kernel_rfl) hza62 hda62 (fun _ h => nomatch h) ?_ ?_
    · refine steps_cons (fun own a wx hf hs hE hO => ?_) ?_
      · exact sg_plain rfl (or_call cf15 (args0) (known_any _) (post_val rfl))
      refine steps_cons (fun own a wx hf hs hE hO => ?_) ?_
      · obtain ⟨(f52 : a.eval (.tmp 52) = .bool true), -⟩ := hf
        exact sg_plain rfl (or_assign f52)
      exact steps_nil
    intro owna65 a65 w66 hda65 hza65 hsa65 hfa65 hEa65 hOa65 hpa65
    have ea65_5 : a65.eval (.tmp 5) = .pointer (some ⟨g1, 0, none⟩) := (hsa65 5 rfl).trans ea62_5
    have ea65_6 : a65.eval (.tmp 6) = .pointer (some ⟨g2, 0, none⟩) := (hsa65 6 rfl).trans ea62_6
    have ea65_7 : a65.eval (.tmp 7) = .pointer (some ⟨g3, 0, none⟩) := (hsa65 7 rfl).trans ea62_7
    have ea65_8 : a65.eval (.tmp 8) = .pointer (some ⟨g4, 0, none⟩) := (hsa65 8 rfl).trans ea62_8
    have ea65_9 : a65.eval (.tmp 9) = .pointer (some ⟨g5, 0, none⟩) := (hsa65 9 rfl).trans ea62_9
    have ea65_11 : a65.eval (.tmp 11) = .slice (some ⟨g8, 0, none⟩) 5 5 := (hsa65 11 rfl).trans ea62_11
    have ea65_12 : a65.eval (.tmp 12) = .int .i64 2 := (hsa65 12 rfl).trans ea62_12
    have ea65_23 : a65.eval (.tmp 23) = .bool true := (hsa65 23 rfl).trans ea62_23
    have ea65_51 : a65.eval (.tmp 51) = .bool (decide ((imin cx cy) < (-4194304))) := (hsa65 51 rfl).trans ea62_51
    obtain ⟨(ea65_10 : a65.eval (.tmp 10) = .bool true), -⟩ := hfa65 [1] rfl
    have hNa65 : Ext (fun _ => False) w63 w66 := hEa65.mono_ (fun _ h => h rfl)
    have bg1_w66 := hNa65.blk bg1_w63 (fun h => h)
    have bg2_w66 := hNa65.blk bg2_w63 (fun h => h)
    have bg3_w66 := hNa65.blk bg3_w63 (fun h => h)
    have bg4_w66 := hNa65.blk bg4_w63 (fun h => h)
    have bg5_w66 := hNa65.blk bg5_w63 (fun h => h)
    have bg8_w66 := hNa65.blk bg8_w63 (fun h => h)
    have hXw66_w := hXw63_w.trans_ hNa65 (fun b hb h1 h2 => h2)
    have hBw66 : Below w.heap.size w w66 := hXw66_w.below (Nat.le_refl _) (fun _ _ h => h)
    clear hEa65 hOa65 hpa65 hfa65 hsa65
    refine fl_ret ?_
    refine hp56 _ _ _ rfl ?_
    refine hp55 _ _ _ rfl ?_
    refine hp51 _ _ _ rfl ?_
    refine hp14 _ _ _ rfl ?_
    refine hp11 _ _ _ rfl ?_
    refine hret _ _ _ hda65 (results1_ rfl (RVal.tmp_ ea65_10)) ?_
    exact ⟨congrArg Ending.returned rfl, hBw66⟩
  have dc64 : ¬ ((imin cx cy) < (-4194304)) := of_decide_eq_false c64
  have mc64 : -4194304 ≤ cx ∧ -4194304 ≤ cy := by rw [imin_eq] at dc64; omega
  refine fl_skip ?_
  refine hn56 _ _ ?_
  refine hn55 _ _ ?_
  refine rg_plain (n := 163) (pu := true) (kl := []) (rs := []) (oth := 3) (own0 := (fun _ => 3))
      (bs := [0, 1, 3])
      (ds := [⟨[], [12], Fct.val 0 24 (.int .i64 2)⟩,
      ⟨[0], [], Fct.val 1 25 (.int .i64 3)⟩,
      ⟨[1], [], Fct.val 2 12 (.int .i64 3)⟩]) (by kernel_rfl) hza62 hda62 (fun _ h => nomatch h) ?_ ?_
  · refine steps_cons (fun own a wx hf hs hE hO => ?_) ?_
    · obtain ⟨s12, -⟩ := hs
      exact sg_plain rfl (or_move (s12.trans ea62_12))
    refine steps_cons (fun own a wx hf hs hE hO => ?_) ?_
    · obtain ⟨(f24 : a.eval (.tmp 24) = .int .i64 2), -⟩ := hf
      exact sg_plain rfl (or_add f24 rfl (by decide))
    refine steps_cons (fun own a wx hf hs hE hO => ?_) ?_
    · obtain ⟨(f25 : a.eval (.tmp 25) = .int .i64 3), -⟩ := hf
      exact sg_plain rfl (or_assign f25)
    exact steps_nil
  intro owna67 a67 w68 hda67 hza67 hsa67 hfa67 hEa67 hOa67 hpa67
  have ea67_10 : a67.eval (.tmp 10) = .bool false := (hsa67 10 rfl).trans ea62_10
  have ea67_5 : a67.eval (.tmp 5) = .pointer (some ⟨g1, 0, none⟩) := (hsa67 5 rfl).trans ea62_5
  have ea67_6 : a67.eval (.tmp 6) = .pointer (some ⟨g2, 0, none⟩) := (hsa67 6 rfl).trans ea62_6
  have ea67_7 : a67.eval (.tmp 7) = .pointer (some ⟨g3, 0, none⟩) := (hsa67 7 rfl).trans ea62_7
  have ea67_8 : a67.eval (.tmp 8) = .pointer (some ⟨g4, 0, none⟩) := (hsa67 8 rfl).trans ea62_8
  have ea67_9 : a67.eval (.tmp 9) = .pointer (some ⟨g5, 0, none⟩) := (hsa67 9 rfl).trans ea62_9
  have ea67_11 : a67.eval (.tmp 11) = .slice (some ⟨g8, 0, none⟩) 5 5 := (hsa67 11 rfl).trans ea62_11
  have ea67_23 : a67.eval (.tmp 23) = .bool true := (hsa67 23 rfl).trans ea62_23
  have ea67_51 : a67.eval (.tmp 51) = .bool (decide ((imin cx cy) < (-4194304))) := (hsa67 51 rfl).trans ea62_51
  obtain ⟨(ea67_12 : a67.eval (.tmp 12) = .int .i64 3), -⟩ := hfa67 [2] rfl
  have hwa67 : w63 = w68 := (hpa67 rfl).symm
  clear hEa67 hOa67 hpa67 hfa67 hsa67
  subst hwa67
  refine hn51 _ _ ?_
  refine fl_round (fun Q69 hn69 hp69 => ?_)
  refine fl_seq (fun Q70 hn70 hp70 => ?_)
  refine rg_plain_seq (n := 163) (pu := true) (kl := []) (rs := []) (oth := 4) (own0 := (fun _ => 4))
      (bs := [0, 0, 2, 7])
      (ds := [⟨[], [12], Fct.val 0 20 (.int .i64 3)⟩,
      ⟨[], [11], Fct.val 1 21 (.slice (some ⟨g8, 0, none⟩) 5 5)⟩,
      ⟨[1], [], Fct.val 2 22 (.int .i64 5)⟩,
      ⟨[0, 2], [], Fct.val 3 23 (.bool true)⟩]) (by kernel_rfl) hza67 hda67 (fun _ h => nomatch h) ?_ ?_
  · refine steps_cons (fun own a wx hf hs hE hO => ?_) ?_
    · obtain ⟨s12, -⟩ := hs
      exact sg_plain rfl (or_move (s12.trans ea67_12))
    refine steps_cons (fun own a wx hf hs hE hO => ?_) ?_
    · obtain ⟨s11, -⟩ := hs
      exact sg_plain rfl (or_move (s11.trans ea67_11))
    refine steps_cons (fun own a wx hf hs hE hO => ?_) ?_
    · obtain ⟨(f21 : a.eval (.tmp 21) = .slice (some ⟨g8, 0, none⟩) 5 5), -⟩ := hf
      exact sg_plain rfl (or_len tu41 f21 rfl)
    refine steps_cons (fun own a wx hf hs hE hO => ?_) ?_
    · obtain ⟨(f20 : a.eval (.tmp 20) = .int .i64 3), (f22 : a.eval (.tmp 22) = .int .i64 5), -⟩ := hf
      exact sg_plain rfl (or_lss f20 f22 (by decide))
    exact steps_nil
  intro owna71 a71 w72 hda71 hza71 hsa71 hfa71 hEa71 hOa71 hpa71
  have ea71_10 : a71.eval (.tmp 10) = .bool false := (hsa71 10 rfl).trans ea67_10
  have ea71_5 : a71.eval (.tmp 5) = .pointer (some ⟨g1, 0, none⟩) := (hsa71 5 rfl).trans ea67_5
  have ea71_6 : a71.eval (.tmp 6) = .pointer (some ⟨g2, 0, none⟩) := (hsa71 6 rfl).trans ea67_6
  have ea71_7 : a71.eval (.tmp 7) = .pointer (some ⟨g3, 0, none⟩) := (hsa71 7 rfl).trans ea67_7
  have ea71_8 : a71.eval (.tmp 8) = .pointer (some ⟨g4, 0, none⟩) := (hsa71 8 rfl).trans ea67_8
  have ea71_9 : a71.eval (.tmp 9) = .pointer (some ⟨g5, 0, none⟩) := (hsa71 9 rfl).trans ea67_9
  have ea71_11 : a71.eval (.tmp 11) = .slice (some ⟨g8, 0, none⟩) 5 5 := (hsa71 11 rfl).trans ea67_11
  have ea71_51 : a71.eval (.tmp 51) = .bool (decide ((imin cx cy) < (-4194304))) := (hsa71 51 rfl).trans ea67_51
  have ea71_12 : a71.eval (.tmp 12) = .int .i64 3 := (hsa71 12 rfl).trans ea67_12
  obtain ⟨(ea71_23 : a71.eval (.tmp 23) = .bool true), -⟩ := hfa71 [3] rfl
  have hwa71 : w63 = w72 := (hpa71 rfl).symm
  clear hEa71 hOa71 hpa71 hfa71 hsa71
  subst hwa71
  refine wp_cond_true ea71_23 ?_
  refine fl_skip ?_
  refine hn70 _ _ ?_
  refine fl_seq (fun Q73 hn73 hp73 => ?_)
  refine fl_block (fun Q74 hn74 hx74 hp74 => ?_)
  rcases Bool.eq_false_or_eq_true (decide (4194304 < (imax px py))) with c75 | c75
  · have dc75 : 4194304 < (imax px py) := of_decide_eq_true c75
    refine rg_draw_seq g_mixed (n := 163) (pu := true) (kl := []) (rs := []) (oth := 26) (own0 := (fun _ => 26))
        (bs := [0, 0, 3, 7, 15, 0, 0, 96, 224, 480, 1023, 2047, 4095, 8191, 8191, 32767, 65535, 131071, 8191, 8191, 794623, 1843199, 3940351, 8388607, 16777215, 33554431])
        (ds := [⟨[], [11], Fct.val 0 26 (.slice (some ⟨g8, 0, none⟩) 5 5)⟩,
        ⟨[], [12], Fct.val 1 27 (.int .i64 3)⟩,
        ⟨[0, 1], [], Fct.val 2 28 (.pointer (some ⟨g8, 6, none⟩))⟩,
        ⟨[2], [], Fct.val 3 29 (.pointer (some ⟨g8, 6, none⟩))⟩,
        ⟨[3], [], Fct.val 4 30 (.int .i64 px)⟩,
        ⟨[], [11], Fct.val 5 31 (.slice (some ⟨g8, 0, none⟩) 5 5)⟩,
        ⟨[], [12], Fct.val 6 32 (.int .i64 3)⟩,
        ⟨[5, 6], [], Fct.val 7 33 (.pointer (some ⟨g8, 6, none⟩))⟩,
        ⟨[7], [], Fct.val 8 34 (.pointer (some ⟨g8, 7, none⟩))⟩,
        ⟨[8], [], Fct.val 9 35 (.int .i64 py)⟩,
        ⟨[4, 9], [], Fct.val 10 36 (.int .i64 (imax px py))⟩,
        ⟨[10], [], Fct.val 11 37 (.bool true)⟩,
        ⟨[11], [], Fct.val 12 38 (.bool true)⟩,
        ⟨[12], [], Fct.val 13 39 undef⟩,
        ⟨[12], [], Fct.val 14 40 undef⟩,
        ⟨[12], [], Fct.val 15 41 undef⟩,
        ⟨[12], [], Fct.val 16 42 undef⟩,
        ⟨[12], [], Fct.val 17 43 undef⟩,
        ⟨[12], [], Fct.val 18 44 undef⟩,
        ⟨[12], [], Fct.val 19 45 undef⟩,
        ⟨[12], [], Fct.val 20 46 undef⟩,
        ⟨[12], [], Fct.val 21 47 undef⟩,
        ⟨[12], [], Fct.val 22 48 undef⟩,
        ⟨[12], [], Fct.val 23 49 undef⟩,
        ⟨[12], [], Fct.val 24 50 undef⟩,
        ⟨[12], [], Fct.val 25 51 (.bool true)⟩]) (by kernel_rfl) hza71 hda71 (fun _ h => nomatch h) ?_ ?_
    · refine steps_cons (fun own a wx hf hs hE hO => ?_) ?_
      · obtain ⟨s11, -⟩ := hs
        exact sg_plain rfl (or_move (s11.trans ea71_11))
      refine steps_cons (fun own a wx hf hs hE hO => ?_) ?_
      · obtain ⟨s12, -⟩ := hs
        exact sg_plain rfl (or_move (s12.trans ea71_12))
      refine steps_cons (fun own a wx hf hs hE hO => ?_) ?_
      · obtain ⟨(f26 : a.eval (.tmp 26) = .slice (some ⟨g8, 0, none⟩) 5 5), (f27 : a.eval (.tmp 27) = .int .i64 3), -⟩ := hf
        exact sg_plain rfl (or_index (j := 3) tl41 f26 f27 rfl (by decide) rfl (by rfl))
      refine steps_cons (fun own a wx hf hs hE hO => ?_) ?_
      · obtain ⟨(f28 : a.eval (.tmp 28) = .pointer (some ⟨g8, 6, none⟩)), -⟩ := hf
        exact sg_plain rfl (or_field fo29_0 f28 (by rfl))
      refine steps_cons (fun own a wx hf hs hE hO => ?_) ?_
      · obtain ⟨(f29 : a.eval (.tmp 29) = .pointer (some ⟨g8, 6, none⟩)), -⟩ := hf
        exact sg_plain rfl (or_load1 to3 f29 (Blk.at_ (hE.blk bg8_w63 (fun h => h rfl)) 6 rfl))
      refine steps_cons (fun own a wx hf hs hE hO => ?_) ?_
      · obtain ⟨s11, -⟩ := hs
        exact sg_plain rfl (or_move (s11.trans ea71_11))
      refine steps_cons (fun own a wx hf hs hE hO => ?_) ?_
      · obtain ⟨s12, -⟩ := hs
        exact sg_plain rfl (or_move (s12.trans ea71_12))
      refine steps_cons (fun own a wx hf hs hE hO => ?_) ?_
      · obtain ⟨(f31 : a.eval (.tmp 31) = .slice (some ⟨g8, 0, none⟩) 5 5), (f32 : a.eval (.tmp 32) = .int .i64 3), -⟩ := hf
        exact sg_plain rfl (or_index (j := 3) tl41 f31 f32 rfl (by decide) rfl (by rfl))
      refine steps_cons (fun own a wx hf hs hE hO => ?_) ?_
      · obtain ⟨(f33 : a.eval (.tmp 33) = .pointer (some ⟨g8, 6, none⟩)), -⟩ := hf
        exact sg_plain rfl (or_field fo29_1 f33 (by rfl))
      refine steps_cons (fun own a wx hf hs hE hO => ?_) ?_
      · obtain ⟨(f34 : a.eval (.tmp 34) = .pointer (some ⟨g8, 7, none⟩)), -⟩ := hf
        exact sg_plain rfl (or_load1 to3 f34 (Blk.at_ (hE.blk bg8_w63 (fun h => h rfl)) 7 rfl))
      refine steps_cons (fun own a wx hf hs hE hO => ?_) ?_
      · obtain ⟨(f30 : a.eval (.tmp 30) = .int .i64 px), (f35 : a.eval (.tmp 35) = .int .i64 py), -⟩ := hf
        exact sg_plain rfl (or_max f30 f35)
      refine steps_cons (fun own a wx hf hs hE hO => ?_) ?_
      · obtain ⟨(f36 : a.eval (.tmp 36) = .int .i64 (imax px py)), -⟩ := hf
        exact sg_plain rfl (or_gtr f36 rfl c75)
      refine steps_cons (fun own a wx hf hs hE hO => ?_) ?_
      · obtain ⟨(f37 : a.eval (.tmp 37) = .bool true), -⟩ := hf
        exact sg_plain rfl (or_move f37)
      refine steps_cons (fun own a wx hf hs hE hO => ?_) ?_
      · obtain ⟨(f38 : a.eval (.tmp 38) = .bool true), -⟩ := hf
        exact sg_no rfl rfl f38 rfl (fun a' ha => ha.1 39 rfl)
      refine steps_cons (fun own a wx hf hs hE hO => ?_) ?_
      · obtain ⟨(f38 : a.eval (.tmp 38) = .bool true), -⟩ := hf
        exact sg_no rfl rfl f38 rfl (fun a' ha => ha.1 40 rfl)
      refine steps_cons (fun own a wx hf hs hE hO => ?_) ?_
      · obtain ⟨(f38 : a.eval (.tmp 38) = .bool true), -⟩ := hf
        exact sg_no rfl rfl f38 rfl (fun a' ha => ha.1 41 rfl)
      refine steps_cons (fun own a wx hf hs hE hO => ?_) ?_
      · obtain ⟨(f38 : a.eval (.tmp 38) = .bool true), -⟩ := hf
        exact sg_no rfl rfl f38 rfl (fun a' ha => ha.1 42 rfl)
      refine steps_cons (fun own a wx hf hs hE hO => ?_) ?_
      · obtain ⟨(f38 : a.eval (.tmp 38) = .bool true), -⟩ := hf
        exact sg_no rfl rfl f38 rfl (fun a' ha => ha.1 43 rfl)
      refine steps_cons (fun own a wx hf hs hE hO => ?_) ?_
      · obtain ⟨(f38 : a.eval (.tmp 38) = .bool true), -⟩ := hf
        exact sg_no rfl rfl f38 rfl (fun a' ha => ha.1 44 rfl)
      refine steps_cons (fun own a wx hf hs hE hO => ?_) ?_
      · obtain ⟨(f38 : a.eval (.tmp 38) = .bool true), -⟩ := hf
        exact sg_no rfl rfl f38 rfl (fun a' ha => ha.1 45 rfl)
      refine steps_cons (fun own a wx hf hs hE hO => ?_) ?_
      · obtain ⟨(f38 : a.eval (.tmp 38) = .bool true), -⟩ := hf
        exact sg_no rfl rfl f38 rfl (fun a' ha => ha.1 46 rfl)
      refine steps_cons (fun own a wx hf hs hE hO => ?_) ?_
      · obtain ⟨(f38 : a.eval (.tmp 38) = .bool true), -⟩ := hf
        exact sg_no rfl rfl f38 rfl (fun a' ha => ha.1 47 rfl)
      refine steps_cons (fun own a wx hf hs hE hO => ?_) ?_
      · obtain ⟨(f38 : a.eval (.tmp 38) = .bool true), -⟩ := hf
        exact sg_no rfl rfl f38 rfl (fun a' ha => ha.1 48 rfl)
      refine steps_cons (fun own a wx hf hs hE hO => ?_) ?_
      · obtain ⟨(f38 : a.eval (.tmp 38) = .bool true), -⟩ := hf
        exact sg_no rfl rfl f38 rfl (fun a' ha => ha.1 49 rfl)
      refine steps_cons (fun own a wx hf hs hE hO => ?_) ?_
      · obtain ⟨(f38 : a.eval (.tmp 38) = .bool true), -⟩ := hf
        exact sg_no rfl rfl f38 rfl (fun a' ha => ha.1 50 rfl)
      refine steps_cons (fun own a wx hf hs hE hO => ?_) ?_
      · obtain ⟨(f38 : a.eval (.tmp 38) = .bool true), -⟩ := hf
        exact sg_plain rfl (or_pick_t f38 rfl)
      exact steps_nil
    intro owna76 a76 w77 hda76 hza76 hsa76 hfa76 hEa76 hOa76 hpa76
    have ea76_10 : a76.eval (.tmp 10) = .bool false := (hsa76 10 rfl).trans ea71_10
    have ea76_5 : a76.eval (.tmp 5) = .pointer (some ⟨g1, 0, none⟩) := (hsa76 5 rfl).trans ea71_5
    have ea76_6 : a76.eval (.tmp 6) = .pointer (some ⟨g2, 0, none⟩) := (hsa76 6 rfl).trans ea71_6
    have ea76_7 : a76.eval (.tmp 7) = .pointer (some ⟨g3, 0, none⟩) := (hsa76 7 rfl).trans ea71_7
    have ea76_8 : a76.eval (.tmp 8) = .pointer (some ⟨g4, 0, none⟩) := (hsa76 8 rfl).trans ea71_8
    have ea76_9 : a76.eval (.tmp 9) = .pointer (some ⟨g5, 0, none⟩) := (hsa76 9 rfl).trans ea71_9
    have ea76_11 : a76.eval (.tmp 11) = .slice (some ⟨g8, 0, none⟩) 5 5 := (hsa76 11 rfl).trans ea71_11
    have ea76_12 : a76.eval (.tmp 12) = .int .i64 3 := (hsa76 12 rfl).trans ea71_12
    have ea76_23 : a76.eval (.tmp 23) = .bool true := (hsa76 23 rfl).trans ea71_23
    obtain ⟨(ea76_51 : a76.eval (.tmp 51) = .bool true), -⟩ := hfa76 [25] rfl
    have hNa76 : Ext (fun _ => False) w63 w77 := hEa76.mono_ (fun _ h => h rfl)
    have bg1_w77 := hNa76.blk bg1_w63 (fun h => h)
    have bg2_w77 := hNa76.blk bg2_w63 (fun h => h)
    have bg3_w77 := hNa76.blk bg3_w63 (fun h => h)
    have bg4_w77 := hNa76.blk bg4_w63 (fun h => h)
    have bg5_w77 := hNa76.blk bg5_w63 (fun h => h)
    have bg8_w77 := hNa76.blk bg8_w63 (fun h => h)
    have hXw77_w := hXw63_w.trans_ hNa76 (fun b hb h1 h2 => h2)
    have hBw77 : Below w.heap.size w w77 := hXw77_w.below (Nat.le_refl _) (fun _ _ h => h)
    clear hEa76 hOa76 hpa76 hfa76 hsa76
    refine wp_cond_true ea76_51 ?_
    refine rg_plain_seq (n := 163) (pu := false) (kl := []) (rs := []) (oth := 2) (own0 := (fun _ => 2))
        (bs := [0, 1])
        (ds := [⟨[], [], Fct.val 0 52 (.bool true)⟩,
        ⟨[0], [], Fct.val 1 10 (.bool true)⟩]) (by kernel_rfl) hza76 hda76 (fun _ h => nomatch h) ?_ ?_
    · refine steps_cons (fun own a wx hf hs hE hO => ?_) ?_
      · exact sg_plain rfl (or_call cf15 (args0) (known_any _) (post_val rfl))
      refine steps_cons (fun own a wx hf hs hE hO => ?_) ?_
      · obtain ⟨(f52 : a.eval (.tmp 52) = .bool true), -⟩ := hf
        exact sg_plain rfl (or_assign f52)
      exact steps_nil
    intro owna78 a78 w79 hda78 hza78 hsa78 hfa78 hEa78 hOa78 hpa78
    have ea78_5 : a78.eval (.tmp 5) = .pointer (some ⟨g1, 0, none⟩) := (hsa78 5 rfl).trans ea76_5
    have ea78_6 : a78.eval (.tmp 6) = .pointer (some ⟨g2, 0, none⟩) := (hsa78 6 rfl).trans ea76_6
    have ea78_7 : a78.eval (.tmp 7) = .pointer (some ⟨g3, 0, none⟩) := (hsa78 7 rfl).trans ea76_7
    have ea78_8 : a78.eval (.tmp 8) = .pointer (some ⟨g4, 0, none⟩) := (hsa78 8 rfl).trans ea76_8
    have ea78_9 : a78.eval (.tmp 9) = .pointer (some ⟨g5, 0, none⟩) := (hsa78 9 rfl).trans ea76_9
    have ea78_11 : a78.eval (.tmp 11) = .slice (some ⟨g8, 0, none⟩) 5 5 := (hsa78 11 rfl).trans ea76_11
    have ea78_12 : a78.eval (.tmp 12) = .int .i64 3 := (hsa78 12 rfl).trans ea76_12
    have ea78_23 : a78.eval (.tmp 23) = .bool true := (hsa78 23 rfl).trans ea76_23
    have ea78_51 : a78.eval (.tmp 51) = .bool true := (hsa78 51 rfl).trans ea76_51
    obtain ⟨(ea78_10 : a78.eval (.tmp 10) = .bool true), -⟩ := hfa78 [1] rfl
    have hNa78 : Ext (fun _ => False) w77 w79 := hEa78.mono_ (fun _ h => h rfl)
    have bg1_w79 := hNa78.blk bg1_w77 (fun h => h)
    have bg2_w79 := hNa78.blk bg2_w77 (fun h => h)
    have bg3_w79 := hNa78.blk bg3_w77 (fun h => h)
    have bg4_w79 := hNa78.blk bg4_w77 (fun h => h)
    have bg5_w79 := hNa78.blk bg5_w77 (fun h => h)
    have bg8_w79 := hNa78.blk bg8_w77 (fun h => h)
    have hXw79_w := hXw77_w.trans_ hNa78 (fun b hb h1 h2 => h2)
    have hBw79 : Below w.heap.size w w79 := hXw79_w.below (Nat.le_refl _) (fun _ _ h => h)
    clear hEa78 hOa78 hpa78 hfa78 hsa78
    refine fl_ret ?_
    refine hp74 _ _ _ rfl ?_
    refine hp73 _ _ _ rfl ?_
    refine hp69 _ _ _ rfl ?_
    refine hp14 _ _ _ rfl ?_
    refine hp11 _ _ _ rfl ?_
    refine hret _ _ _ hda78 (results1_ rfl (RVal.tmp_ ea78_10)) ?_
    exact ⟨congrArg Ending.returned rfl, hBw79⟩
  have dc75 : ¬ (4194304 < (imax px py)) := of_decide_eq_false c75
  have mc75 : px ≤ 4194304 ∧ py ≤ 4194304 := by rw [imax_eq] at dc75; omega
  refine rg_draw_seq g_mixed (n := 163) (pu := true) (kl := []) (rs := []) (oth := 26) (own0 := (fun _ => 26))
      (bs := [0, 0, 3, 7, 15, 0, 0, 96, 224, 480, 1023, 2047, 4095, 8191, 8191, 32767, 65535, 131071, 8191, 8191, 794623, 1843199, 3940351, 8388607, 16777215, 33554431])
      (ds := [⟨[], [11], Fct.val 0 26 (.slice (some ⟨g8, 0, none⟩) 5 5)⟩,
      ⟨[], [12], Fct.val 1 27 (.int .i64 3)⟩,
      ⟨[0, 1], [], Fct.val 2 28 (.pointer (some ⟨g8, 6, none⟩))⟩,
      ⟨[2], [], Fct.val 3 29 (.pointer (some ⟨g8, 6, none⟩))⟩,
      ⟨[3], [], Fct.val 4 30 (.int .i64 px)⟩,
      ⟨[], [11], Fct.val 5 31 (.slice (some ⟨g8, 0, none⟩) 5 5)⟩,
      ⟨[], [12], Fct.val 6 32 (.int .i64 3)⟩,
      ⟨[5, 6], [], Fct.val 7 33 (.pointer (some ⟨g8, 6, none⟩))⟩,
      ⟨[7], [], Fct.val 8 34 (.pointer (some ⟨g8, 7, none⟩))⟩,
      ⟨[8], [], Fct.val 9 35 (.int .i64 py)⟩,
      ⟨[4, 9], [], Fct.val 10 36 (.int .i64 (imax px py))⟩,
      ⟨[10], [], Fct.val 11 37 (.bool false)⟩,
      ⟨[11], [], Fct.val 12 38 (.bool false)⟩,
      ⟨[12], [11], Fct.val 13 39 (.slice (some ⟨g8, 0, none⟩) 5 5)⟩,
      ⟨[12], [12], Fct.val 14 40 (.int .i64 3)⟩,
      ⟨[12, 13, 14], [], Fct.val 15 41 (.pointer (some ⟨g8, 6, none⟩))⟩,
      ⟨[12, 15], [], Fct.val 16 42 (.pointer (some ⟨g8, 6, none⟩))⟩,
      ⟨[12, 16], [], Fct.val 17 43 (.int .i64 px)⟩,
      ⟨[12], [11], Fct.val 18 44 (.slice (some ⟨g8, 0, none⟩) 5 5)⟩,
      ⟨[12], [12], Fct.val 19 45 (.int .i64 3)⟩,
      ⟨[12, 18, 19], [], Fct.val 20 46 (.pointer (some ⟨g8, 6, none⟩))⟩,
      ⟨[12, 20], [], Fct.val 21 47 (.pointer (some ⟨g8, 7, none⟩))⟩,
      ⟨[12, 21], [], Fct.val 22 48 (.int .i64 py)⟩,
      ⟨[12, 17, 22], [], Fct.val 23 49 (.int .i64 (imin px py))⟩,
      ⟨[12, 23], [], Fct.val 24 50 (.bool (decide ((imin px py) < (-4194304))))⟩,
      ⟨[12, 24], [], Fct.val 25 51 (.bool (decide ((imin px py) < (-4194304))))⟩]) (by kernel_rfl) hza71 hda71 (fun _ h => nomatch h) ?_ ?_
  · refine steps_cons (fun own a wx hf hs hE hO => ?_) ?_
    · obtain ⟨s11, -⟩ := hs
      exact sg_plain rfl (or_move (s11.trans ea71_11))
    refine steps_cons (fun own a wx hf hs hE hO => ?_) ?_
    · obtain ⟨s12, -⟩ := hs
      exact sg_plain rfl (or_move (s12.trans ea71_12))
    refine steps_cons (fun own a wx hf hs hE hO => ?_) ?_
    · obtain ⟨(f26 : a.eval (.tmp 26) = .slice (some ⟨g8, 0, none⟩) 5 5), (f27 : a.eval (.tmp 27) = .int .i64 3), -⟩ := hf
      exact sg_plain rfl (or_index (j := 3) tl41 f26 f27 rfl (by decide) rfl (by rfl))
    refine steps_cons (fun own a wx hf hs hE hO => ?_) ?_
    · obtain ⟨(f28 : a.eval (.tmp 28) = .pointer (some ⟨g8, 6, none⟩)), -⟩ := hf
      exact sg_plain rfl (or_field fo29_0 f28 (by rfl))
    refine steps_cons (fun own a wx hf hs hE hO => ?_) ?_
    · obtain ⟨(f29 : a.eval (.tmp 29) = .pointer (some ⟨g8, 6, none⟩)), -⟩ := hf
      exact sg_plain rfl (or_load1 to3 f29 (Blk.at_ (hE.blk bg8_w63 (fun h => h rfl)) 6 rfl))
    refine steps_cons (fun own a wx hf hs hE hO => ?_) ?_
    · obtain ⟨s11, -⟩ := hs
      exact sg_plain rfl (or_move (s11.trans ea71_11))
    refine steps_cons (fun own a wx hf hs hE hO => ?_) ?_
    · obtain ⟨s12, -⟩ := hs
      exact sg_plain rfl (or_move (s12.trans ea71_12))
    refine steps_cons (fun own a wx hf hs hE hO => ?_) ?_
    · obtain ⟨(f31 : a.eval (.tmp 31) = .slice (some ⟨g8, 0, none⟩) 5 5), (f32 : a.eval (.tmp 32) = .int .i64 3), -⟩ := hf
      exact sg_plain rfl (or_index (j := 3) tl41 f31 f32 rfl (by decide) rfl (by rfl))
    refine steps_cons (fun own a wx hf hs hE hO => ?_) ?_
    · obtain ⟨(f33 : a.eval (.tmp 33) = .pointer (some ⟨g8, 6, none⟩)), -⟩ := hf
      exact sg_plain rfl (or_field fo29_1 f33 (by rfl))
    refine steps_cons (fun own a wx hf hs hE hO => ?_) ?_
    · obtain ⟨(f34 : a.eval (.tmp 34) = .pointer (some ⟨g8, 7, none⟩)), -⟩ := hf
      exact sg_plain rfl (or_load1 to3 f34 (Blk.at_ (hE.blk bg8_w63 (fun h => h rfl)) 7 rfl))
    refine steps_cons (fun own a wx hf hs hE hO => ?_) ?_
    · obtain ⟨(f30 : a.eval (.tmp 30) = .int .i64 px), (f35 : a.eval (.tmp 35) = .int .i64 py), -⟩ := hf
      exact sg_plain rfl (or_max f30 f35)
    refine steps_cons (fun own a wx hf hs hE hO => ?_) ?_
    · obtain ⟨(f36 : a.eval (.tmp 36) = .int .i64 (imax px py)), -⟩ := hf
      exact sg_plain rfl (or_gtr f36 rfl c75)
    refine steps_cons (fun own a wx hf hs hE hO => ?_) ?_
    · obtain ⟨(f37 : a.eval (.tmp 37) = .bool false), -⟩ := hf
      exact sg_plain rfl (or_move f37)
    refine steps_cons (fun own a wx hf hs hE hO => ?_) ?_
    · obtain ⟨(f38 : a.eval (.tmp 38) = .bool false), -⟩ := hf
      obtain ⟨s11, -⟩ := hs
      exact sg_yes rfl rfl f38 (or_move (s11.trans ea71_11))
    refine steps_cons (fun own a wx hf hs hE hO => ?_) ?_
    · obtain ⟨(f38 : a.eval (.tmp 38) = .bool false), -⟩ := hf
      obtain ⟨s12, -⟩ := hs
      exact sg_yes rfl rfl f38 (or_move (s12.trans ea71_12))
    refine steps_cons (fun own a wx hf hs hE hO => ?_) ?_
    · obtain ⟨(f38 : a.eval (.tmp 38) = .bool false), (f39 : a.eval (.tmp 39) = .slice (some ⟨g8, 0, none⟩) 5 5), (f40 : a.eval (.tmp 40) = .int .i64 3), -⟩ := hf
      exact sg_yes rfl rfl f38 (or_index (j := 3) tl41 f39 f40 rfl (by decide) rfl (by rfl))
    refine steps_cons (fun own a wx hf hs hE hO => ?_) ?_
    · obtain ⟨(f38 : a.eval (.tmp 38) = .bool false), (f41 : a.eval (.tmp 41) = .pointer (some ⟨g8, 6, none⟩)), -⟩ := hf
      exact sg_yes rfl rfl f38 (or_field fo29_0 f41 (by rfl))
    refine steps_cons (fun own a wx hf hs hE hO => ?_) ?_
    · obtain ⟨(f38 : a.eval (.tmp 38) = .bool false), (f42 : a.eval (.tmp 42) = .pointer (some ⟨g8, 6, none⟩)), -⟩ := hf
      exact sg_yes rfl rfl f38 (or_load1 to3 f42 (Blk.at_ (hE.blk bg8_w63 (fun h => h rfl)) 6 rfl))
    refine steps_cons (fun own a wx hf hs hE hO => ?_) ?_
    · obtain ⟨(f38 : a.eval (.tmp 38) = .bool false), -⟩ := hf
      obtain ⟨s11, -⟩ := hs
      exact sg_yes rfl rfl f38 (or_move (s11.trans ea71_11))
    refine steps_cons (fun own a wx hf hs hE hO => ?_) ?_
    · obtain ⟨(f38 : a.eval (.tmp 38) = .bool false), -⟩ := hf
      obtain ⟨s12, -⟩ := hs
      exact sg_yes rfl rfl f38 (or_move (s12.trans ea71_12))
    refine steps_cons (fun own a wx hf hs hE hO => ?_) ?_
    · obtain ⟨(f38 : a.eval (.tmp 38) = .bool false), (f44 : a.eval (.tmp 44) = .slice (some ⟨g8, 0, none⟩) 5 5), (f45 : a.eval (.tmp 45) = .int .i64 3), -⟩ := hf
      exact sg_yes rfl rfl f38 (or_index (j := 3) tl41 f44 f45 rfl (by decide) rfl (by rfl))
    refine steps_cons (fun own a wx hf hs hE hO => ?_) ?_
    · obtain ⟨(f38 : a.eval (.tmp 38) = .bool false), (f46 : a.eval (.tmp 46) = .pointer (some ⟨g8, 6, none⟩)), -⟩ := hf
      exact sg_yes rfl rfl f38 (or_field fo29_1 f46 (by rfl))
    refine steps_cons (fun own a wx hf hs hE hO => ?_) ?_
    · obtain ⟨(f38 : a.eval (.tmp 38) = .bool false), (f47 : a.eval (.tmp 47) = .pointer (some ⟨g8, 7, none⟩)), -⟩ := hf
      exact sg_yes rfl rfl f38 (or_load1 to3 f47 (Blk.at_ (hE.blk bg8_w63 (fun h => h rfl)) 7 rfl))
    refine steps_cons (fun own a wx hf hs hE hO => ?_) ?_
    · obtain ⟨(f38 : a.eval (.tmp 38) = .bool false), (f43 : a.eval (.tmp 43) = .int .i64 px), (f48 : a.eval (.tmp 48) = .int .i64 py), -⟩ := hf
      exact sg_yes rfl rfl f38 (or_min f43 f48)
    refine steps_cons (fun own a wx hf hs hE hO => ?_) ?_
    · obtain ⟨(f38 : a.eval (.tmp 38) = .bool false), (f49 : a.eval (.tmp 49) = .int .i64 (imin px py)), -⟩ := hf
      exact sg_yes rfl rfl f38 (or_lss f49 rfl rfl)
    refine steps_cons (fun own a wx hf hs hE hO => ?_) ?_
    · obtain ⟨(f38 : a.eval (.tmp 38) = .bool false), (f50 : a.eval (.tmp 50) = .bool (decide ((imin px py) < (-4194304)))), -⟩ := hf
      exact sg_plain rfl (or_pick_f f38 f50)
    exact steps_nil
  intro owna80 a80 w81 hda80 hza80 hsa80 hfa80 hEa80 hOa80 hpa80
  have ea80_10 : a80.eval (.tmp 10) = .bool false := (hsa80 10 rfl).trans ea71_10
  have ea80_5 : a80.eval (.tmp 5) = .pointer (some ⟨g1, 0, none⟩) := (hsa80 5 rfl).trans ea71_5
  have ea80_6 : a80.eval (.tmp 6) = .pointer (some ⟨g2, 0, none⟩) := (hsa80 6 rfl).trans ea71_6
  have ea80_7 : a80.eval (.tmp 7) = .pointer (some ⟨g3, 0, none⟩) := (hsa80 7 rfl).trans ea71_7
  have ea80_8 : a80.eval (.tmp 8) = .pointer (some ⟨g4, 0, none⟩) := (hsa80 8 rfl).trans ea71_8
  have ea80_9 : a80.eval (.tmp 9) = .pointer (some ⟨g5, 0, none⟩) := (hsa80 9 rfl).trans ea71_9
  have ea80_11 : a80.eval (.tmp 11) = .slice (some ⟨g8, 0, none⟩) 5 5 := (hsa80 11 rfl).trans ea71_11
  have ea80_12 : a80.eval (.tmp 12) = .int .i64 3 := (hsa80 12 rfl).trans ea71_12
  have ea80_23 : a80.eval (.tmp 23) = .bool true := (hsa80 23 rfl).trans ea71_23
  obtain ⟨(ea80_51 : a80.eval (.tmp 51) = .bool (decide ((imin px py) < (-4194304)))), -⟩ := hfa80 [25] rfl
  have hNa80 : Ext (fun _ => False) w63 w81 := hEa80.mono_ (fun _ h => h rfl)
  have bg1_w81 := hNa80.blk bg1_w63 (fun h => h)
  have bg2_w81 := hNa80.blk bg2_w63 (fun h => h)
  have bg3_w81 := hNa80.blk bg3_w63 (fun h => h)
  have bg4_w81 := hNa80.blk bg4_w63 (fun h => h)
  have bg5_w81 := hNa80.blk bg5_w63 (fun h => h)
  have bg8_w81 := hNa80.blk bg8_w63 (fun h => h)
  have hXw81_w := hXw63_w.trans_ hNa80 (fun b hb h1 h2 => h2)
  have hBw81 : Below w.heap.size w w81 := hXw81_w.below (Nat.le_refl _) (fun _ _ h => h)
  clear hEa80 hOa80 hpa80 hfa80 hsa80
  refine fl_cond ea80_51 (fun c82 => ?_) (fun c82 => ?_)
  · have dc82 : (imin px py) < (-4194304) := of_decide_eq_true c82
    refine rg_plain_seq (n := 163) (pu := false) (kl := []) (rs := []) (oth := 2) (own0 := (fun _ => 2))
        (bs := [0, 1])
        (ds := [⟨[], [], Fct.val 0 52 (.bool true)⟩,
        ⟨[0], [], Fct.val 1 10 (.bool true)⟩]) (by kernel_rfl) hza80 hda80 (fun _ h => nomatch h) ?_ ?_
    · refine steps_cons (fun own a wx hf hs hE hO => ?_) ?_
      · exact sg_plain rfl (or_call cf15 (args0) (known_any _) (post_val rfl))
      refine steps_cons (fun own a wx hf hs hE hO => ?_) ?_
      · obtain ⟨(f52 : a.eval (.tmp 52) = .bool true), -⟩ := hf
        exact sg_plain rfl (or_assign f52)
      exact steps_nil
    intro owna83 a83 w84 hda83 hza83 hsa83 hfa83 hEa83 hOa83 hpa83
    have ea83_5 : a83.eval (.tmp 5) = .pointer (some ⟨g1, 0, none⟩) := (hsa83 5 rfl).trans ea80_5
    have ea83_6 : a83.eval (.tmp 6) = .pointer (some ⟨g2, 0, none⟩) := (hsa83 6 rfl).trans ea80_6
    have ea83_7 : a83.eval (.tmp 7) = .pointer (some ⟨g3, 0, none⟩) := (hsa83 7 rfl).trans ea80_7
    have ea83_8 : a83.eval (.tmp 8) = .pointer (some ⟨g4, 0, none⟩) := (hsa83 8 rfl).trans ea80_8
    have ea83_9 : a83.eval (.tmp 9) = .pointer (some ⟨g5, 0, none⟩) := (hsa83 9 rfl).trans ea80_9
    have ea83_11 : a83.eval (.tmp 11) = .slice (some ⟨g8, 0, none⟩) 5 5 := (hsa83 11 rfl).trans ea80_11
    have ea83_12 : a83.eval (.tmp 12) = .int .i64 3 := (hsa83 12 rfl).trans ea80_12
    have ea83_23 : a83.eval (.tmp 23) = .bool true := (hsa83 23 rfl).trans ea80_23
    have ea83_51 : a83.eval (.tmp 51) = .bool (decide ((imin px py) < (-4194304))) := (hsa83 51 rfl).trans ea80_51
    obtain ⟨(ea83_10 : a83.eval (.tmp 10) = .bool true), -⟩ := hfa83 [1] rfl
    have hNa83 : Ext (fun _ => False) w81 w84 := hEa83.mono_ (fun _ h => h rfl)
    have bg1_w84 := hNa83.blk bg1_w81 (fun h => h)
    have bg2_w84 := hNa83.blk bg2_w81 (fun h => h)
    have bg3_w84 := hNa83.blk bg3_w81 (fun h => h)
    have bg4_w84 := hNa83.blk bg4_w81 (fun h => h)
    have bg5_w84 := hNa83.blk bg5_w81 (fun h => h)
    have bg8_w84 := hNa83.blk bg8_w81 (fun h => h)
    have hXw84_w := hXw81_w.trans_ hNa83 (fun b hb h1 h2 => h2)
    have hBw84 : Below w.heap.size w w84 := hXw84_w.below (Nat.le_refl _) (fun _ _ h => h)
    clear hEa83 hOa83 hpa83 hfa83 hsa83
    refine fl_ret ?_
    refine hp74 _ _ _ rfl ?_
    refine hp73 _ _ _ rfl ?_
    refine hp69 _ _ _ rfl ?_
    refine hp14 _ _ _ rfl ?_
    refine hp11 _ _ _ rfl ?_
    refine hret _ _ _ hda83 (results1_ rfl (RVal.tmp_ ea83_10)) ?_
    exact ⟨congrArg Ending.returned rfl, hBw84⟩
  have dc82 : ¬ ((imin px py) < (-4194304)) := of_decide_eq_false c82
  have mc82 : -4194304 ≤ px ∧ -4194304 ≤ py := by rw [imin_eq] at dc82; omega
  refine fl_skip ?_
  refine hn74 _ _ ?_
  refine hn73 _ _ ?_
  refine rg_plain (n := 163) (pu := true) (kl := []) (rs := []) (oth := 3) (own0 := (fun _ => 3))
      (bs := [0, 1, 3])
      (ds := [⟨[], [12], Fct.val 0 24 (.int .i64 3)⟩,
      ⟨[0], [], Fct.val 1 25 (.int .i64 4)⟩,
      ⟨[1], [], Fct.val 2 12 (.int .i64 4)⟩]) (by kernel_rfl) hza80 hda80 (fun _ h => nomatch h) ?_ ?_
  · refine steps_cons (fun own a wx hf hs hE hO => ?_) ?_
    · obtain ⟨s12, -⟩ := hs
      exact sg_plain rfl (or_move (s12.trans ea80_12))
    refine steps_cons (fun own a wx hf hs hE hO => ?_) ?_
    · obtain ⟨(f24 : a.eval (.tmp 24) = .int .i64 3), -⟩ := hf
      exact sg_plain rfl (or_add f24 rfl (by decide))
    refine steps_cons (fun own a wx hf hs hE hO => ?_) ?_
    · obtain ⟨(f25 : a.eval (.tmp 25) = .int .i64 4), -⟩ := hf
      exact sg_plain rfl (or_assign f25)
    exact steps_nil
  intro owna85 a85 w86 hda85 hza85 hsa85 hfa85 hEa85 hOa85 hpa85
  have ea85_10 : a85.eval (.tmp 10) = .bool false := (hsa85 10 rfl).trans ea80_10
  have ea85_5 : a85.eval (.tmp 5) = .pointer (some ⟨g1, 0, none⟩) := (hsa85 5 rfl).trans ea80_5
  have ea85_6 : a85.eval (.tmp 6) = .pointer (some ⟨g2, 0, none⟩) := (hsa85 6 rfl).trans ea80_6
  have ea85_7 : a85.eval (.tmp 7) = .pointer (some ⟨g3, 0, none⟩) := (hsa85 7 rfl).trans ea80_7
  have ea85_8 : a85.eval (.tmp 8) = .pointer (some ⟨g4, 0, none⟩) := (hsa85 8 rfl).trans ea80_8
  have ea85_9 : a85.eval (.tmp 9) = .pointer (some ⟨g5, 0, none⟩) := (hsa85 9 rfl).trans ea80_9
  have ea85_11 : a85.eval (.tmp 11) = .slice (some ⟨g8, 0, none⟩) 5 5 := (hsa85 11 rfl).trans ea80_11
  have ea85_23 : a85.eval (.tmp 23) = .bool true := (hsa85 23 rfl).trans ea80_23
  have ea85_51 : a85.eval (.tmp 51) = .bool (decide ((imin px py) < (-4194304))) := (hsa85 51 rfl).trans ea80_51
  obtain ⟨(ea85_12 : a85.eval (.tmp 12) = .int .i64 4), -⟩ := hfa85 [2] rfl
  have hwa85 : w81 = w86 := (hpa85 rfl).symm
  clear hEa85 hOa85 hpa85 hfa85 hsa85
  subst hwa85
  refine hn69 _ _ ?_
  refine fl_round (fun Q87 hn87 hp87 => ?_)
  refine fl_seq (fun Q88 hn88 hp88 => ?_)
  refine rg_plain_seq (n := 163) (pu := true) (kl := []) (rs := []) (oth := 4) (own0 := (fun _ => 4))
      (bs := [0, 0, 2, 7])
      (ds := [⟨[], [12], Fct.val 0 20 (.int .i64 4)⟩,
      ⟨[], [11], Fct.val 1 21 (.slice (some ⟨g8, 0, none⟩) 5 5)⟩,
      ⟨[1], [], Fct.val 2 22 (.int .i64 5)⟩,
      ⟨[0, 2], [], Fct.val 3 23 (.bool true)⟩]) (by kernel_rfl) hza85 hda85 (fun _ h => nomatch h) ?_ ?_
  · refine steps_cons (fun own a wx hf hs hE hO => ?_) ?_
    · obtain ⟨s12, -⟩ := hs
      exact sg_plain rfl (or_move (s12.trans ea85_12))
    refine steps_cons (fun own a wx hf hs hE hO => ?_) ?_
    · obtain ⟨s11, -⟩ := hs
      exact sg_plain rfl (or_move (s11.trans ea85_11))
    refine steps_cons (fun own a wx hf hs hE hO => ?_) ?_
    · obtain ⟨(f21 : a.eval (.tmp 21) = .slice (some ⟨g8, 0, none⟩) 5 5), -⟩ := hf
      exact sg_plain rfl (or_len tu41 f21 rfl)
    refine steps_cons (fun own a wx hf hs hE hO => ?_) ?_
    · obtain ⟨(f20 : a.eval (.tmp 20) = .int .i64 4), (f22 : a.eval (.tmp 22) = .int .i64 5), -⟩ := hf
      exact sg_plain rfl (or_lss f20 f22 (by decide))
    exact steps_nil
  intro owna89 a89 w90 hda89 hza89 hsa89 hfa89 hEa89 hOa89 hpa89
  have ea89_10 : a89.eval (.tmp 10) = .bool false := (hsa89 10 rfl).trans ea85_10
  have ea89_5 : a89.eval (.tmp 5) = .pointer (some ⟨g1, 0, none⟩) := (hsa89 5 rfl).trans ea85_5
  have ea89_6 : a89.eval (.tmp 6) = .pointer (some ⟨g2, 0, none⟩) := (hsa89 6 rfl).trans ea85_6
  have ea89_7 : a89.eval (.tmp 7) = .pointer (some ⟨g3, 0, none⟩) := (hsa89 7 rfl).trans ea85_7
  have ea89_8 : a89.eval (.tmp 8) = .pointer (some ⟨g4, 0, none⟩) := (hsa89 8 rfl).trans ea85_8
  have ea89_9 : a89.eval (.tmp 9) = .pointer (some ⟨g5, 0, none⟩) := (hsa89 9 rfl).trans ea85_9
  have ea89_11 : a89.eval (.tmp 11) = .slice (some ⟨g8, 0, none⟩) 5 5 := (hsa89 11 rfl).trans ea85_11
  have ea89_51 : a89.eval (.tmp 51) = .bool (decide ((imin px py) < (-4194304))) := (hsa89 51 rfl).trans ea85_51
  have ea89_12 : a89.eval (.tmp 12) = .int .i64 4 := (hsa89 12 rfl).trans ea85_12
  obtain ⟨(ea89_23 : a89.eval (.tmp 23) = .bool true), -⟩ := hfa89 [3] rfl
  have hwa89 : w81 = w90 := (hpa89 rfl).symm
  clear hEa89 hOa89 hpa89 hfa89 hsa89
  subst hwa89
  refine wp_cond_true ea89_23 ?_
  refine fl_skip ?_
  refine hn88 _ _ ?_
  refine fl_seq (fun Q91 hn91 hp91 => ?_)
  refine fl_block (fun Q92 hn92 hx92 hp92 => ?_)
  rcases Bool.eq_false_or_eq_true (decide (4194304 < (imax gx gy))) with c93 | c93
  · have dc93 : 4194304 < (imax gx gy) := of_decide_eq_true c93
    refine rg_draw_seq g_mixed (n := 163) (pu := true) (kl := []) (rs := []) (oth := 26) (own0 := (fun _ => 26))
        (bs := [0, 0, 3, 7, 15, 0, 0, 96, 224, 480, 1023, 2047, 4095, 8191, 8191, 32767, 65535, 131071, 8191, 8191, 794623, 1843199, 3940351, 8388607, 16777215, 33554431])
        (ds := [⟨[], [11], Fct.val 0 26 (.slice (some ⟨g8, 0, none⟩) 5 5)⟩,
        ⟨[], [12], Fct.val 1 27 (.int .i64 4)⟩,
        ⟨[0, 1], [], Fct.val 2 28 (.pointer (some ⟨g8, 8, none⟩))⟩,
        ⟨[2], [], Fct.val 3 29 (.pointer (some ⟨g8, 8, none⟩))⟩,
        ⟨[3], [], Fct.val 4 30 (.int .i64 gx)⟩,
        ⟨[], [11], Fct.val 5 31 (.slice (some ⟨g8, 0, none⟩) 5 5)⟩,
        ⟨[], [12], Fct.val 6 32 (.int .i64 4)⟩,
        ⟨[5, 6], [], Fct.val 7 33 (.pointer (some ⟨g8, 8, none⟩))⟩,
        ⟨[7], [], Fct.val 8 34 (.pointer (some ⟨g8, 9, none⟩))⟩,
        ⟨[8], [], Fct.val 9 35 (.int .i64 gy)⟩,
        ⟨[4, 9], [], Fct.val 10 36 (.int .i64 (imax gx gy))⟩,
        ⟨[10], [], Fct.val 11 37 (.bool true)⟩,
        ⟨[11], [], Fct.val 12 38 (.bool true)⟩,
        ⟨[12], [], Fct.val 13 39 undef⟩,
        ⟨[12], [], Fct.val 14 40 undef⟩,
        ⟨[12], [], Fct.val 15 41 undef⟩,
        ⟨[12], [], Fct.val 16 42 undef⟩,
        ⟨[12], [], Fct.val 17 43 undef⟩,
        ⟨[12], [], Fct.val 18 44 undef⟩,
        ⟨[12], [], Fct.val 19 45 undef⟩,
        ⟨[12], [], Fct.val 20 46 undef⟩,
        ⟨[12], [], Fct.val 21 47 undef⟩,
        ⟨[12], [], Fct.val 22 48 undef⟩,
        ⟨[12], [], Fct.val 23 49 undef⟩,
        ⟨[12], [], Fct.val 24 50 undef⟩,
        ⟨[12], [], Fct.val 25 51 (.bool true)⟩]) (by kernel_rfl) hza89 hda89 (fun _ h => nomatch h) ?_ ?_
    · refine steps_cons (fun own a wx hf hs hE hO => ?_) ?_
      · obtain ⟨s11, -⟩ := hs
        exact sg_plain rfl (or_move (s11.trans ea89_11))
      refine steps_cons (fun own a wx hf hs hE hO => ?_) ?_
      · obtain ⟨s12, -⟩ := hs
        exact sg_plain rfl (or_move (s12.trans ea89_12))
      refine steps_cons (fun own a wx hf hs hE hO => ?_) ?_
      · obtain ⟨(f26 : a.eval (.tmp 26) = .slice (some ⟨g8, 0, none⟩) 5 5), (f27 : a.eval (.tmp 27) = .int .i64 4), -⟩ := hf
        exact sg_plain rfl (or_index (j := 4) tl41 f26 f27 rfl (by decide) rfl (by rfl))
      refine steps_cons (fun own a wx hf hs hE hO => ?_) ?_
      · obtain ⟨(f28 : a.eval (.tmp 28) = .pointer (some ⟨g8, 8, none⟩)), -⟩ := hf
        exact sg_plain rfl (or_field fo29_0 f28 (by rfl))
      refine steps_cons (fun own a wx hf hs hE hO => ?_) ?_
      · obtain ⟨(f29 : a.eval (.tmp 29) = .pointer (some ⟨g8, 8, none⟩)), -⟩ := hf
        exact sg_plain rfl (or_load1 to3 f29 (Blk.at_ (hE.blk bg8_w81 (fun h => h rfl)) 8 rfl))
      refine steps_cons (fun own a wx hf hs hE hO => ?_) ?_
      · obtain ⟨s11, -⟩ := hs
        exact sg_plain rfl (or_move (s11.trans ea89_11))
      refine steps_cons (fun own a wx hf hs hE hO => ?_) ?_
      · obtain ⟨s12, -⟩ := hs
        exact sg_plain rfl (or_move (s12.trans ea89_12))
      refine steps_cons (fun own a wx hf hs hE hO => ?_) ?_
      · obtain ⟨(f31 : a.eval (.tmp 31) = .slice (some ⟨g8, 0, none⟩) 5 5), (f32 : a.eval (.tmp 32) = .int .i64 4), -⟩ := hf
        exact sg_plain rfl (or_index (j := 4) tl41 f31 f32 rfl (by decide) rfl (by rfl))
      refine steps_cons (fun own a wx hf hs hE hO => ?_) ?_
      · obtain ⟨(f33 : a.eval (.tmp 33) = .pointer (some ⟨g8, 8, none⟩)), -⟩ := hf
        exact sg_plain rfl (or_field fo29_1 f33 (by rfl))
      refine steps_cons (fun own a wx hf hs hE hO => ?_) ?_
      · obtain ⟨(f34 : a.eval (.tmp 34) = .pointer (some ⟨g8, 9, none⟩)), -⟩ := hf
        exact sg_plain rfl (or_load1 to3 f34 (Blk.at_ (hE.blk bg8_w81 (fun h => h rfl)) 9 rfl))
      refine steps_cons (fun own a wx hf hs hE hO => ?_) ?_
      · obtain ⟨(f30 : a.eval (.tmp 30) = .int .i64 gx), (f35 : a.eval (.tmp 35) = .int .i64 gy), -⟩ := hf
        exact sg_plain rfl (or_max f30 f35)
      refine steps_cons (fun own a wx hf hs hE hO => ?_) ?_
      · obtain ⟨(f36 : a.eval (.tmp 36) = .int .i64 (imax gx gy)), -⟩ := hf
        exact sg_plain rfl (or_gtr f36 rfl c93)
      refine steps_cons (fun own a wx hf hs hE hO => ?_) ?_
      · obtain ⟨(f37 : a.eval (.tmp 37) = .bool true), -⟩ := hf
        exact sg_plain rfl (or_move f37)
      refine steps_cons (fun own a wx hf hs hE hO => ?_) ?_
      · obtain ⟨(f38 : a.eval (.tmp 38) = .bool true), -⟩ := hf
        exact sg_no rfl rfl f38 rfl (fun a' ha => ha.1 39 rfl)
      refine steps_cons (fun own a wx hf hs hE hO => ?_) ?_
      · obtain ⟨(f38 : a.eval (.tmp 38) = .bool true), -⟩ := hf
        exact sg_no rfl rfl f38 rfl (fun a' ha => ha.1 40 rfl)
      refine steps_cons (fun own a wx hf hs hE hO => ?_) ?_
      · obtain ⟨(f38 : a.eval (.tmp 38) = .bool true), -⟩ := hf
        exact sg_no rfl rfl f38 rfl (fun a' ha => ha.1 41 rfl)
      refine steps_cons (fun own a wx hf hs hE hO => ?_) ?_
      · obtain ⟨(f38 : a.eval (.tmp 38) = .bool true), -⟩ := hf
        exact sg_no rfl rfl f38 rfl (fun a' ha => ha.1 42 rfl)
      refine steps_cons (fun own a wx hf hs hE hO => ?_) ?_
      · obtain ⟨(f38 : a.eval (.tmp 38) = .bool true), -⟩ := hf
        exact sg_no rfl rfl f38 rfl (fun a' ha => ha.1 43 rfl)
      refine steps_cons (fun own a wx hf hs hE hO => ?_) ?_
      · obtain ⟨(f38 : a.eval (.tmp 38) = .bool true), -⟩ := hf
        exact sg_no rfl rfl f38 rfl (fun a' ha => ha.1 44 rfl)
      refine steps_cons (fun own a wx hf hs hE hO => ?_) ?_
      · obtain ⟨(f38 : a.eval (.tmp 38) = .bool true), -⟩ := hf
        exact sg_no rfl rfl f38 rfl (fun a' ha => ha.1 45 rfl)
      refine steps_cons (fun own a wx hf hs hE hO => ?_) ?_
      · obtain ⟨(f38 : a.eval (.tmp 38) = .bool true), -⟩ := hf
        exact sg_no rfl rfl f38 rfl (fun a' ha => ha.1 46 rfl)
      refine steps_cons (fun own a wx hf hs hE hO => ?_) ?_
      · obtain ⟨(f38 : a.eval (.tmp 38) = .bool true), -⟩ := hf
        exact sg_no rfl rfl f38 rfl (fun a' ha => ha.1 47 rfl)
      refine steps_cons (fun own a wx hf hs hE hO => ?_) ?_
      · obtain ⟨(f38 : a.eval (.tmp 38) = .bool true), -⟩ := hf
        exact sg_no rfl rfl f38 rfl (fun a' ha => ha.1 48 rfl)
      refine steps_cons (fun own a wx hf hs hE hO => ?_) ?_
      · obtain ⟨(f38 : a.eval (.tmp 38) = .bool true), -⟩ := hf
        exact sg_no rfl rfl f38 rfl (fun a' ha => ha.1 49 rfl)
      refine steps_cons (fun own a wx hf hs hE hO => ?_) ?_
      · obtain ⟨(f38 : a.eval (.tmp 38) = .bool true), -⟩ := hf
        exact sg_no rfl rfl f38 rfl (fun a' ha => ha.1 50 rfl)
      refine steps_cons (fun own a wx hf hs hE hO => ?_) ?_
      · obtain ⟨(f38 : a.eval (.tmp 38) = .bool true), -⟩ := hf
        exact sg_plain rfl (or_pick_t f38 rfl)
      exact steps_nil
    intro owna94 a94 w95 hda94 hza94 hsa94 hfa94 hEa94 hOa94 hpa94
    have ea94_10 : a94.eval (.tmp 10) = .bool false := (hsa94 10 rfl).trans ea89_10
    have ea94_5 : a94.eval (.tmp 5) = .pointer (some ⟨g1, 0, none⟩) := (hsa94 5 rfl).trans ea89_5
    have ea94_6 : a94.eval (.tmp 6) = .pointer (some ⟨g2, 0, none⟩) := (hsa94 6 rfl).trans ea89_6
    have ea94_7 : a94.eval (.tmp 7) = .pointer (some ⟨g3, 0, none⟩) := (hsa94 7 rfl).trans ea89_7
    have ea94_8 : a94.eval (.tmp 8) = .pointer (some ⟨g4, 0, none⟩) := (hsa94 8 rfl).trans ea89_8
    have ea94_9 : a94.eval (.tmp 9) = .pointer (some ⟨g5, 0, none⟩) := (hsa94 9 rfl).trans ea89_9
    have ea94_11 : a94.eval (.tmp 11) = .slice (some ⟨g8, 0, none⟩) 5 5 := (hsa94 11 rfl).trans ea89_11
    have ea94_12 : a94.eval (.tmp 12) = .int .i64 4 := (hsa94 12 rfl).trans ea89_12
    have ea94_23 : a94.eval (.tmp 23) = .bool true := (hsa94 23 rfl).trans ea89_23
    obtain ⟨(ea94_51 : a94.eval (.tmp 51) = .bool true), -⟩ := hfa94 [25] rfl
    have hNa94 : Ext (fun _ => False) w81 w95 := hEa94.mono_ (fun _ h => h rfl)
    have bg1_w95 := hNa94.blk bg1_w81 (fun h => h)
    have bg2_w95 := hNa94.blk bg2_w81 (fun h => h)
    have bg3_w95 := hNa94.blk bg3_w81 (fun h => h)
    have bg4_w95 := hNa94.blk bg4_w81 (fun h => h)
    have bg5_w95 := hNa94.blk bg5_w81 (fun h => h)
    have bg8_w95 := hNa94.blk bg8_w81 (fun h => h)
    have hXw95_w := hXw81_w.trans_ hNa94 (fun b hb h1 h2 => h2)
    have hBw95 : Below w.heap.size w w95 := hXw95_w.below (Nat.le_refl _) (fun _ _ h => h)
    clear hEa94 hOa94 hpa94 hfa94 hsa94
    refine wp_cond_true ea94_51 ?_
    refine rg_plain_seq (n := 163) (pu := false) (kl := []) (rs := []) (oth := 2) (own0 := (fun _ => 2))
        (bs := [0, 1])
        (ds := [⟨[], [], Fct.val 0 52 (.bool true)⟩,
        ⟨[0], [], Fct.val 1 10 (.bool true)⟩]) (by kernel_rfl) hza94 hda94 (fun _ h => nomatch h) ?_ ?_
    · refine steps_cons (fun own a wx hf hs hE hO => ?_) ?_
      · exact sg_plain rfl (or_call cf15 (args0) (known_any _) (post_val rfl))
      refine steps_cons (fun own a wx hf hs hE hO => ?_) ?_
      · obtain ⟨(f52 : a.eval (.tmp 52) = .bool true), -⟩ := hf
        exact sg_plain rfl (or_assign f52)
      exact steps_nil
    intro owna96 a96 w97 hda96 hza96 hsa96 hfa96 hEa96 hOa96 hpa96
    have ea96_5 : a96.eval (.tmp 5) = .pointer (some ⟨g1, 0, none⟩) := (hsa96 5 rfl).trans ea94_5
    have ea96_6 : a96.eval (.tmp 6) = .pointer (some ⟨g2, 0, none⟩) := (hsa96 6 rfl).trans ea94_6
    have ea96_7 : a96.eval (.tmp 7) = .pointer (some ⟨g3, 0, none⟩) := (hsa96 7 rfl).trans ea94_7
    have ea96_8 : a96.eval (.tmp 8) = .pointer (some ⟨g4, 0, none⟩) := (hsa96 8 rfl).trans ea94_8
    have ea96_9 : a96.eval (.tmp 9) = .pointer (some ⟨g5, 0, none⟩) := (hsa96 9 rfl).trans ea94_9
    have ea96_11 : a96.eval (.tmp 11) = .slice (some ⟨g8, 0, none⟩) 5 5 := (hsa96 11 rfl).trans ea94_11
    have ea96_12 : a96.eval (.tmp 12) = .int .i64 4 := (hsa96 12 rfl).trans ea94_12
    have ea96_23 : a96.eval (.tmp 23) = .bool true := (hsa96 23 rfl).trans ea94_23
    have ea96_51 : a96.eval (.tmp 51) = .bool true := (hsa96 51 rfl).trans ea94_51
    obtain ⟨(ea96_10 : a96.eval (.tmp 10) = .bool true), -⟩ := hfa96 [1] rfl
    have hNa96 : Ext (fun _ => False) w95 w97 := hEa96.mono_ (fun _ h => h rfl)
    have bg1_w97 := hNa96.blk bg1_w95 (fun h => h)
    have bg2_w97 := hNa96.blk bg2_w95 (fun h => h)
    have bg3_w97 := hNa96.blk bg3_w95 (fun h => h)
    have bg4_w97 := hNa96.blk bg4_w95 (fun h => h)
    have bg5_w97 := hNa96.blk bg5_w95 (fun h => h)
    have bg8_w97 := hNa96.blk bg8_w95 (fun h => h)
    have hXw97_w := hXw95_w.trans_ hNa96 (fun b hb h1 h2 => h2)
    have hBw97 : Below w.heap.size w w97 := hXw97_w.below (Nat.le_refl _) (fun _ _ h => h)
    clear hEa96 hOa96 hpa96 hfa96 hsa96
    refine fl_ret ?_
    refine hp92 _ _ _ rfl ?_
    refine hp91 _ _ _ rfl ?_
    refine hp87 _ _ _ rfl ?_
    refine hp14 _ _ _ rfl ?_
    refine hp11 _ _ _ rfl ?_
    refine hret _ _ _ hda96 (results1_ rfl (RVal.tmp_ ea96_10)) ?_
    exact ⟨congrArg Ending.returned rfl, hBw97⟩
  have dc93 : ¬ (4194304 < (imax gx gy)) := of_decide_eq_false c93
  have mc93 : gx ≤ 4194304 ∧ gy ≤ 4194304 := by rw [imax_eq] at dc93; omega
  refine rg_draw_seq g_mixed (n := 163) (pu := true) (kl := []) (rs := []) (oth := 26) (own0 := (fun _ => 26))
      (bs := [0, 0, 3, 7, 15, 0, 0, 96, 224, 480, 1023, 2047, 4095, 8191, 8191, 32767, 65535, 131071, 8191, 8191, 794623, 1843199, 3940351, 8388607, 16777215, 33554431])
      (ds := [⟨[], [11], Fct.val 0 26 (.slice (some ⟨g8, 0, none⟩) 5 5)⟩,
      ⟨[], [12], Fct.val 1 27 (.int .i64 4)⟩,
      ⟨[0, 1], [], Fct.val 2 28 (.pointer (some ⟨g8, 8, none⟩))⟩,
      ⟨[2], [], Fct.val 3 29 (.pointer (some ⟨g8, 8, none⟩))⟩,
      ⟨[3], [], Fct.val 4 30 (.int .i64 gx)⟩,
      ⟨[], [11], Fct.val 5 31 (.slice (some ⟨g8, 0, none⟩) 5 5)⟩,
      ⟨[], [12], Fct.val 6 32 (.int .i64 4)⟩,
      ⟨[5, 6], [], Fct.val 7 33 (.pointer (some ⟨g8, 8, none⟩))⟩,
      ⟨[7], [], Fct.val 8 34 (.pointer (some ⟨g8, 9, none⟩))⟩,
      ⟨[8], [], Fct.val 9 35 (.int .i64 gy)⟩,
      ⟨[4, 9], [], Fct.val 10 36 (.int .i64 (imax gx gy))⟩,
      ⟨[10], [], Fct.val 11 37 (.bool false)⟩,
      ⟨[11], [], Fct.val 12 38 (.bool false)⟩,
      ⟨[12], [11], Fct.val 13 39 (.slice (some ⟨g8, 0, none⟩) 5 5)⟩,
      ⟨[12], [12], Fct.val 14 40 (.int .i64 4)⟩,
      ⟨[12, 13, 14], [], Fct.val 15 41 (.pointer (some ⟨g8, 8, none⟩))⟩,
      ⟨[12, 15], [], Fct.val 16 42 (.pointer (some ⟨g8, 8, none⟩))⟩,
      ⟨[12, 16], [], Fct.val 17 43 (.int .i64 gx)⟩,
      ⟨[12], [11], Fct.val 18 44 (.slice (some ⟨g8, 0, none⟩) 5 5)⟩,
      ⟨[12], [12], Fct.val 19 45 (.int .i64 4)⟩,
      ⟨[12, 18, 19], [], Fct.val 20 46 (.pointer (some ⟨g8, 8, none⟩))⟩,
      ⟨[12, 20], [], Fct.val 21 47 (.pointer (some ⟨g8, 9, none⟩))⟩,
      ⟨[12, 21], [], Fct.val 22 48 (.int .i64 gy)⟩,
      ⟨[12, 17, 22], [], Fct.val 23 49 (.int .i64 (imin gx gy))⟩,
      ⟨[12, 23], [], Fct.val 24 50 (.bool (decide ((imin gx gy) < (-4194304))))⟩,
      ⟨[12, 24], [], Fct.val 25 51 (.bool (decide ((imin gx gy) < (-4194304))))⟩]) (by kernel_rfl) hza89 hda89 (fun _ h => nomatch h) ?_ ?_
  · refine steps_cons (fun own a wx hf hs hE hO => ?_) ?_
    · obtain ⟨s11, -⟩ := hs
      exact sg_plain rfl (or_move (s11.trans ea89_11))
    refine steps_cons (fun own a wx hf hs hE hO => ?_) ?_
    · obtain ⟨s12, -⟩ := hs
      exact sg_plain rfl (or_move (s12.trans ea89_12))
    refine steps_cons (fun own a wx hf hs hE hO => ?_) ?_
    · obtain ⟨(f26 : a.eval (.tmp 26) = .slice (some ⟨g8, 0, none⟩) 5 5), (f27 : a.eval (.tmp 27) = .int .i64 4), -⟩ := hf
      exact sg_plain rfl (or_index (j := 4) tl41 f26 f27 rfl (by decide) rfl (by rfl))
    refine steps_cons (fun own a wx hf hs hE hO => ?_) ?_
    · obtain ⟨(f28 : a.eval (.tmp 28) = .pointer (some ⟨g8, 8, none⟩)), -⟩ := hf
      exact sg_plain rfl (or_field fo29_0 f28 (by rfl))
    refine steps_cons (fun own a wx hf hs hE hO => ?_) ?_
    · obtain ⟨(f29 : a.eval (.tmp 29) = .pointer (some ⟨g8, 8, none⟩)), -⟩ := hf
      exact sg_plain rfl (or_load1 to3 f29 (Blk.at_ (hE.blk bg8_w81 (fun h => h rfl)) 8 rfl))
    refine steps_cons (fun own a wx hf hs hE hO => ?_) ?_
    · obtain ⟨s11, -⟩ := hs
      exact sg_plain rfl (or_move (s11.trans ea89_11))
    refine steps_cons (fun own a wx hf hs hE hO => ?_) ?_
    · obtain ⟨s12, -⟩ := hs
      exact sg_plain rfl (or_move (s12.trans ea89_12))
    refine steps_cons (fun own a wx hf hs hE hO => ?_) ?_
    · obtain ⟨(f31 : a.eval (.tmp 31) = .slice (some ⟨g8, 0, none⟩) 5 5), (f32 : a.eval (.tmp 32) = .int .i64 4), -⟩ := hf
      exact sg_plain rfl (or_index (j := 4) tl41 f31 f32 rfl (by decide) rfl (by rfl))
    refine steps_cons (fun own a wx hf hs hE hO => ?_) ?_
    · obtain ⟨(f33 : a.eval (.tmp 33) = .pointer (some ⟨g8, 8, none⟩)), -⟩ := hf
      exact sg_plain rfl (or_field fo29_1 f33 (by rfl))
    refine steps_cons (fun own a wx hf hs hE hO => ?_) ?_
    · obtain ⟨(f34 : a.eval (.tmp 34) = .pointer (some ⟨g8, 9, none⟩)), -⟩ := hf
      exact sg_plain rfl (or_load1 to3 f34 (Blk.at_ (hE.blk bg8_w81 (fun h => h rfl)) 9 rfl))
    refine steps_cons (fun own a wx hf hs hE hO => ?_) ?_
    · obtain ⟨(f30 : a.eval (.tmp 30) = .int .i64 gx), (f35 : a.eval (.tmp 35) = .int .i64 gy), -⟩ := hf
      exact sg_plain rfl (or_max f30 f35)
    refine steps_cons (fun own a wx hf hs hE hO => ?_) ?_
    · obtain ⟨(f36 : a.eval (.tmp 36) = .int .i64 (imax gx gy)), -⟩ := hf
      exact sg_plain rfl (or_gtr f36 rfl c93)
    refine steps_cons (fun own a wx hf hs hE hO => ?_) ?_
    · obtain ⟨(f37 : a.eval (.tmp 37) = .bool false), -⟩ := hf
      exact sg_plain rfl (or_move f37)
    refine steps_cons (fun own a wx hf hs hE hO => ?_) ?_
    · obtain ⟨(f38 : a.eval (.tmp 38) = .bool false), -⟩ := hf
      obtain ⟨s11, -⟩ := hs
      exact sg_yes rfl rfl f38 (or_move (s11.trans ea89_11))
    refine steps_cons (fun own a wx hf hs hE hO => ?_) ?_
    · obtain ⟨(f38 : a.eval (.tmp 38) = .bool false), -⟩ := hf
      obtain ⟨s12, -⟩ := hs
      exact sg_yes rfl rfl f38 (or_move (s12.trans ea89_12))
    refine steps_cons (fun own a wx hf hs hE hO => ?_) ?_
    · obtain ⟨(f38 : a.eval (.tmp 38) = .bool false), (f39 : a.eval (.tmp 39) = .slice (some ⟨g8, 0, none⟩) 5 5), (f40 : a.eval (.tmp 40) = .int .i64 4), -⟩ := hf
      exact sg_yes rfl rfl f38 (or_index (j := 4) tl41 f39 f40 rfl (by decide) rfl (by rfl))
    refine steps_cons (fun own a wx hf hs hE hO => ?_) ?_
    · obtain ⟨(f38 : a.eval (.tmp 38) = .bool false), (f41 : a.eval (.tmp 41) = .pointer (some ⟨g8, 8, none⟩)), -⟩ := hf
      exact sg_yes rfl rfl f38 (or_field fo29_0 f41 (by rfl))
    refine steps_cons (fun own a wx hf hs hE hO => ?_) ?_
    · obtain ⟨(f38 : a.eval (.tmp 38) = .bool false), (f42 : a.eval (.tmp 42) = .pointer (some ⟨g8, 8, none⟩)), -⟩ := hf
      exact sg_yes rfl rfl f38 (or_load1 to3 f42 (Blk.at_ (hE.blk bg8_w81 (fun h => h rfl)) 8 rfl))
    refine steps_cons (fun own a wx hf hs hE hO => ?_) ?_
    · obtain ⟨(f38 : a.eval (.tmp 38) = .bool false), -⟩ := hf
      obtain ⟨s11, -⟩ := hs
      exact sg_yes rfl rfl f38 (or_move (s11.trans ea89_11))
    refine steps_cons (fun own a wx hf hs hE hO => ?_) ?_
    · obtain ⟨(f38 : a.eval (.tmp 38) = .bool false), -⟩ := hf
      obtain ⟨s12, -⟩ := hs
      exact sg_yes rfl rfl f38 (or_move (s12.trans ea89_12))
    refine steps_cons (fun own a wx hf hs hE hO => ?_) ?_
    · obtain ⟨(f38 : a.eval (.tmp 38) = .bool false), (f44 : a.eval (.tmp 44) = .slice (some ⟨g8, 0, none⟩) 5 5), (f45 : a.eval (.tmp 45) = .int .i64 4), -⟩ := hf
      exact sg_yes rfl rfl f38 (or_index (j := 4) tl41 f44 f45 rfl (by decide) rfl (by rfl))
    refine steps_cons (fun own a wx hf hs hE hO => ?_) ?_
    · obtain ⟨(f38 : a.eval (.tmp 38) = .bool false), (f46 : a.eval (.tmp 46) = .pointer (some ⟨g8, 8, none⟩)), -⟩ := hf
      exact sg_yes rfl rfl f38 (or_field fo29_1 f46 (by rfl))
    refine steps_cons (fun own a wx hf hs hE hO => ?_) ?_
    · obtain ⟨(f38 : a.eval (.tmp 38) = .bool false), (f47 : a.eval (.tmp 47) = .pointer (some ⟨g8, 9, none⟩)), -⟩ := hf
      exact sg_yes rfl rfl f38 (or_load1 to3 f47 (Blk.at_ (hE.blk bg8_w81 (fun h => h rfl)) 9 rfl))
    refine steps_cons (fun own a wx hf hs hE hO => ?_) ?_
    · obtain ⟨(f38 : a.eval (.tmp 38) = .bool false), (f43 : a.eval (.tmp 43) = .int .i64 gx), (f48 : a.eval (.tmp 48) = .int .i64 gy), -⟩ := hf
      exact sg_yes rfl rfl f38 (or_min f43 f48)
    refine steps_cons (fun own a wx hf hs hE hO => ?_) ?_
    · obtain ⟨(f38 : a.eval (.tmp 38) = .bool false), (f49 : a.eval (.tmp 49) = .int .i64 (imin gx gy)), -⟩ := hf
      exact sg_yes rfl rfl f38 (or_lss f49 rfl rfl)
    refine steps_cons (fun own a wx hf hs hE hO => ?_) ?_
    · obtain ⟨(f38 : a.eval (.tmp 38) = .bool false), (f50 : a.eval (.tmp 50) = .bool (decide ((imin gx gy) < (-4194304)))), -⟩ := hf
      exact sg_plain rfl (or_pick_f f38 f50)
    exact steps_nil
  intro owna98 a98 w99 hda98 hza98 hsa98 hfa98 hEa98 hOa98 hpa98
  have ea98_10 : a98.eval (.tmp 10) = .bool false := (hsa98 10 rfl).trans ea89_10
  have ea98_5 : a98.eval (.tmp 5) = .pointer (some ⟨g1, 0, none⟩) := (hsa98 5 rfl).trans ea89_5
  have ea98_6 : a98.eval (.tmp 6) = .pointer (some ⟨g2, 0, none⟩) := (hsa98 6 rfl).trans ea89_6
  have ea98_7 : a98.eval (.tmp 7) = .pointer (some ⟨g3, 0, none⟩) := (hsa98 7 rfl).trans ea89_7
  have ea98_8 : a98.eval (.tmp 8) = .pointer (some ⟨g4, 0, none⟩) := (hsa98 8 rfl).trans ea89_8
  have ea98_9 : a98.eval (.tmp 9) = .pointer (some ⟨g5, 0, none⟩) := (hsa98 9 rfl).trans ea89_9
  have ea98_11 : a98.eval (.tmp 11) = .slice (some ⟨g8, 0, none⟩) 5 5 := (hsa98 11 rfl).trans ea89_11
  have ea98_12 : a98.eval (.tmp 12) = .int .i64 4 := (hsa98 12 rfl).trans ea89_12
  have ea98_23 : a98.eval (.tmp 23) = .bool true := (hsa98 23 rfl).trans ea89_23
  obtain ⟨(ea98_51 : a98.eval (.tmp 51) = .bool (decide ((imin gx gy) < (-4194304)))), -⟩ := hfa98 [25] rfl
  have hNa98 : Ext (fun _ => False) w81 w99 := hEa98.mono_ (fun _ h => h rfl)
  have bg1_w99 := hNa98.blk bg1_w81 (fun h => h)
  have bg2_w99 := hNa98.blk bg2_w81 (fun h => h)
  have bg3_w99 := hNa98.blk bg3_w81 (fun h => h)
  have bg4_w99 := hNa98.blk bg4_w81 (fun h => h)
  have bg5_w99 := hNa98.blk bg5_w81 (fun h => h)
  have bg8_w99 := hNa98.blk bg8_w81 (fun h => h)
  have hXw99_w := hXw81_w.trans_ hNa98 (fun b hb h1 h2 => h2)
  have hBw99 : Below w.heap.size w w99 := hXw99_w.below (Nat.le_refl _) (fun _ _ h => h)
  clear hEa98 hOa98 hpa98 hfa98 hsa98
  refine fl_cond ea98_51 (fun c100 => ?_) (fun c100 => ?_)
  · have dc100 : (imin gx gy) < (-4194304) := of_decide_eq_true c100
    refine rg_plain_seq (n := 163) (pu := false) (kl := []) (rs := []) (oth := 2) (own0 := (fun _ => 2))
        (bs := [0, 1])
        (ds := [⟨[], [], Fct.val 0 52 (.bool true)⟩,
        ⟨[0], [], Fct.val 1 10 (.bool true)⟩]) (by kernel_rfl) hza98 hda98 (fun _ h => nomatch h) ?_ ?_
    · refine steps_cons (fun own a wx hf hs hE hO => ?_) ?_
      · exact sg_plain rfl (or_call cf15 (args0) (known_any _) (post_val rfl))
      refine steps_cons (fun own a wx hf hs hE hO => ?_) ?_
      · obtain ⟨(f52 : a.eval (.tmp 52) = .bool true), -⟩ := hf
        exact sg_plain rfl (or_assign f52)
      exact steps_nil
    intro owna101 a101 w102 hda101 hza101 hsa101 hfa101 hEa101 hOa101 hpa101
    have ea101_5 : a101.eval (.tmp 5) = .pointer (some ⟨g1, 0, none⟩) := (hsa101 5 rfl).trans ea98_5
    have ea101_6 : a101.eval (.tmp 6) = .pointer (some ⟨g2, 0, none⟩) := (hsa101 6 rfl).trans ea98_6
    have ea101_7 : a101.eval (.tmp 7) = .pointer (some ⟨g3, 0, none⟩) := (hsa101 7 rfl).trans ea98_7
    have ea101_8 : a101.eval (.tmp 8) = .pointer (some ⟨g4, 0, none⟩) := (hsa101 8 rfl).trans ea98_8
    have ea101_9 : a101.eval (.tmp 9) = .pointer (some ⟨g5, 0, none⟩) := (hsa101 9 rfl).trans ea98_9
    have ea101_11 : a101.eval (.tmp 11) = .slice (some ⟨g8, 0, none⟩) 5 5 := (hsa101 11 rfl).trans ea98_11
    have ea101_12 : a101.eval (.tmp 12) = .int .i64 4 := (hsa101 12 rfl).trans ea98_12
    have ea101_23 : a101.eval (.tmp 23) = .bool true := (hsa101 23 rfl).trans ea98_23
    have ea101_51 : a101.eval (.tmp 51) = .bool (decide ((imin gx gy) < (-4194304))) := (hsa101 51 rfl).trans ea98_51
    obtain ⟨(ea101_10 : a101.eval (.tmp 10) = .bool true), -⟩ := hfa101 [1] rfl
    have hNa101 : Ext (fun _ => False) w99 w102 := hEa101.mono_ (fun _ h => h rfl)
    have bg1_w102 := hNa101.blk bg1_w99 (fun h => h)
    have bg2_w102 := hNa101.blk bg2_w99 (fun h => h)
    have bg3_w102 := hNa101.blk bg3_w99 (fun h => h)
    have bg4_w102 := hNa101.blk bg4_w99 (fun h => h)
    have bg5_w102 := hNa101.blk bg5_w99 (fun h => h)
    have bg8_w102 := hNa101.blk bg8_w99 (fun h => h)
    have hXw102_w := hXw99_w.trans_ hNa101 (fun b hb h1 h2 => h2)
    have hBw102 : Below w.heap.size w w102 := hXw102_w.below (Nat.le_refl _) (fun _ _ h => h)
    clear hEa101 hOa101 hpa101 hfa101 hsa101
    refine fl_ret ?_
    refine hp92 _ _ _ rfl ?_
    refine hp91 _ _ _ rfl ?_
    refine hp87 _ _ _ rfl ?_
    refine hp14 _ _ _ rfl ?_
    refine hp11 _ _ _ rfl ?_
    refine hret _ _ _ hda101 (results1_ rfl (RVal.tmp_ ea101_10)) ?_
    exact ⟨congrArg Ending.returned rfl, hBw102⟩
  have dc100 : ¬ ((imin gx gy) < (-4194304)) := of_decide_eq_false c100
  have mc100 : -4194304 ≤ gx ∧ -4194304 ≤ gy := by rw [imin_eq] at dc100; omega
  refine fl_skip ?_
  refine hn92 _ _ ?_
  refine hn91 _ _ ?_
  refine rg_plain (n := 163) (pu := true) (kl := []) (rs := []) (oth := 3) (own0 := (fun _ => 3))
      (bs := [0, 1, 3])
      (ds := [⟨[], [12], Fct.val 0 24 (.int .i64 4)⟩,
      ⟨[0], [], Fct.val 1 25 (.int .i64 5)⟩,
      ⟨[1], [], Fct.val 2 12 (.int .i64 5)⟩]) (by kernel_rfl) hza98 hda98 (fun _ h => nomatch h) ?_ ?_
  · refine steps_cons (fun own a wx hf hs hE hO => ?_) ?_
    · obtain ⟨s12, -⟩ := hs
      exact sg_plain rfl (or_move (s12.trans ea98_12))
    refine steps_cons (fun own a wx hf hs hE hO => ?_) ?_
    · obtain ⟨(f24 : a.eval (.tmp 24) = .int .i64 4), -⟩ := hf
      exact sg_plain rfl (or_add f24 rfl (by decide))
    refine steps_cons (fun own a wx hf hs hE hO => ?_) ?_
    · obtain ⟨(f25 : a.eval (.tmp 25) = .int .i64 5), -⟩ := hf
      exact sg_plain rfl (or_assign f25)
    exact steps_nil
  intro owna103 a103 w104 hda103 hza103 hsa103 hfa103 hEa103 hOa103 hpa103
  have ea103_10 : a103.eval (.tmp 10) = .bool false := (hsa103 10 rfl).trans ea98_10
  have ea103_5 : a103.eval (.tmp 5) = .pointer (some ⟨g1, 0, none⟩) := (hsa103 5 rfl).trans ea98_5
  have ea103_6 : a103.eval (.tmp 6) = .pointer (some ⟨g2, 0, none⟩) := (hsa103 6 rfl).trans ea98_6
  have ea103_7 : a103.eval (.tmp 7) = .pointer (some ⟨g3, 0, none⟩) := (hsa103 7 rfl).trans ea98_7
  have ea103_8 : a103.eval (.tmp 8) = .pointer (some ⟨g4, 0, none⟩) := (hsa103 8 rfl).trans ea98_8
  have ea103_9 : a103.eval (.tmp 9) = .pointer (some ⟨g5, 0, none⟩) := (hsa103 9 rfl).trans ea98_9
  have ea103_11 : a103.eval (.tmp 11) = .slice (some ⟨g8, 0, none⟩) 5 5 := (hsa103 11 rfl).trans ea98_11
  have ea103_23 : a103.eval (.tmp 23) = .bool true := (hsa103 23 rfl).trans ea98_23
  have ea103_51 : a103.eval (.tmp 51) = .bool (decide ((imin gx gy) < (-4194304))) := (hsa103 51 rfl).trans ea98_51
  obtain ⟨(ea103_12 : a103.eval (.tmp 12) = .int .i64 5), -⟩ := hfa103 [2] rfl
  have hwa103 : w99 = w104 := (hpa103 rfl).symm
  clear hEa103 hOa103 hpa103 hfa103 hsa103
  subst hwa103
  refine hn87 _ _ ?_
  refine fl_round (fun Q105 hn105 hp105 => ?_)
  refine fl_seq (fun Q106 hn106 hp106 => ?_)
  refine rg_plain_seq (n := 163) (pu := true) (kl := []) (rs := []) (oth := 4) (own0 := (fun _ => 4))
      (bs := [0, 0, 2, 7])
      (ds := [⟨[], [12], Fct.val 0 20 (.int .i64 5)⟩,
      ⟨[], [11], Fct.val 1 21 (.slice (some ⟨g8, 0, none⟩) 5 5)⟩,
      ⟨[1], [], Fct.val 2 22 (.int .i64 5)⟩,
      ⟨[0, 2], [], Fct.val 3 23 (.bool false)⟩]) (by kernel_rfl) hza103 hda103 (fun _ h => nomatch h) ?_ ?_
  · refine steps_cons (fun own a wx hf hs hE hO => ?_) ?_
    · obtain ⟨s12, -⟩ := hs
      exact sg_plain rfl (or_move (s12.trans ea103_12))
    refine steps_cons (fun own a wx hf hs hE hO => ?_) ?_
    · obtain ⟨s11, -⟩ := hs
      exact sg_plain rfl (or_move (s11.trans ea103_11))
    refine steps_cons (fun own a wx hf hs hE hO => ?_) ?_
    · obtain ⟨(f21 : a.eval (.tmp 21) = .slice (some ⟨g8, 0, none⟩) 5 5), -⟩ := hf
      exact sg_plain rfl (or_len tu41 f21 rfl)
    refine steps_cons (fun own a wx hf hs hE hO => ?_) ?_
    · obtain ⟨(f20 : a.eval (.tmp 20) = .int .i64 5), (f22 : a.eval (.tmp 22) = .int .i64 5), -⟩ := hf
      exact sg_plain rfl (or_lss f20 f22 (by decide))
    exact steps_nil
  intro owna107 a107 w108 hda107 hza107 hsa107 hfa107 hEa107 hOa107 hpa107
  have ea107_10 : a107.eval (.tmp 10) = .bool false := (hsa107 10 rfl).trans ea103_10
  have ea107_5 : a107.eval (.tmp 5) = .pointer (some ⟨g1, 0, none⟩) := (hsa107 5 rfl).trans ea103_5
  have ea107_6 : a107.eval (.tmp 6) = .pointer (some ⟨g2, 0, none⟩) := (hsa107 6 rfl).trans ea103_6
  have ea107_7 : a107.eval (.tmp 7) = .pointer (some ⟨g3, 0, none⟩) := (hsa107 7 rfl).trans ea103_7
  have ea107_8 : a107.eval (.tmp 8) = .pointer (some ⟨g4, 0, none⟩) := (hsa107 8 rfl).trans ea103_8
  have ea107_9 : a107.eval (.tmp 9) = .pointer (some ⟨g5, 0, none⟩) := (hsa107 9 rfl).trans ea103_9
  have ea107_11 : a107.eval (.tmp 11) = .slice (some ⟨g8, 0, none⟩) 5 5 := (hsa107 11 rfl).trans ea103_11
  have ea107_51 : a107.eval (.tmp 51) = .bool (decide ((imin gx gy) < (-4194304))) := (hsa107 51 rfl).trans ea103_51
  have ea107_12 : a107.eval (.tmp 12) = .int .i64 5 := (hsa107 12 rfl).trans ea103_12
  obtain ⟨(ea107_23 : a107.eval (.tmp 23) = .bool false), -⟩ := hfa107 [3] rfl
  have hwa107 : w99 = w108 := (hpa107 rfl).symm
  clear hEa107 hOa107 hpa107 hfa107 hsa107
  subst hwa107
  refine wp_cond_false ea107_23 ?_
  refine fl_exit ?_
  refine hp106 _ _ _ rfl ?_
  refine hp105 _ _ _ rfl ?_
  refine hx14 _ _ ?_
  refine hn11 _ _ ?_
  refine fl_seq (fun Q109 hn109 hp109 => ?_)
  refine rg_plain_seq (n := 163) (pu := true) (kl := []) (rs := []) (oth := 1) (own0 := (fun _ => 1))
      (bs := [0])
      (ds := [⟨[], [], Fct.val 0 13 (.int .i64 0)⟩]) (by kernel_rfl) hza107 hda107 (fun _ h => nomatch h) ?_ ?_
  · refine steps_cons (fun own a wx hf hs hE hO => ?_) ?_
    · exact sg_plain rfl (or_assign rfl)
    exact steps_nil
  intro owna110 a110 w111 hda110 hza110 hsa110 hfa110 hEa110 hOa110 hpa110
  have ea110_10 : a110.eval (.tmp 10) = .bool false := (hsa110 10 rfl).trans ea107_10
  have ea110_5 : a110.eval (.tmp 5) = .pointer (some ⟨g1, 0, none⟩) := (hsa110 5 rfl).trans ea107_5
  have ea110_6 : a110.eval (.tmp 6) = .pointer (some ⟨g2, 0, none⟩) := (hsa110 6 rfl).trans ea107_6
  have ea110_7 : a110.eval (.tmp 7) = .pointer (some ⟨g3, 0, none⟩) := (hsa110 7 rfl).trans ea107_7
  have ea110_8 : a110.eval (.tmp 8) = .pointer (some ⟨g4, 0, none⟩) := (hsa110 8 rfl).trans ea107_8
  have ea110_9 : a110.eval (.tmp 9) = .pointer (some ⟨g5, 0, none⟩) := (hsa110 9 rfl).trans ea107_9
  have ea110_11 : a110.eval (.tmp 11) = .slice (some ⟨g8, 0, none⟩) 5 5 := (hsa110 11 rfl).trans ea107_11
  obtain ⟨(ea110_13 : a110.eval (.tmp 13) = .int .i64 0), -⟩ := hfa110 [0] rfl
  have hwa110 : w99 = w111 := (hpa110 rfl).symm
  clear hEa110 hOa110 hpa110 hfa110 hsa110
  subst hwa110
  refine fl_block (fun Q112 hn112 hx112 hp112 => ?_)
  refine wp_loop_rounds 5 ?_
  refine fl_round (fun Q113 hn113 hp113 => ?_)
  refine fl_seq (fun Q114 hn114 hp114 => ?_)
  refine rg_plain_seq (n := 163) (pu := true) (kl := []) (rs := []) (oth := 2) (own0 := (fun _ => 2))
      (bs := [0, 1])
      (ds := [⟨[], [13], Fct.val 0 53 (.int .i64 0)⟩,
      ⟨[0], [], Fct.val 1 54 (.bool true)⟩]) (by kernel_rfl) hza110 hda110 (fun _ h => nomatch h) ?_ ?_
  · refine steps_cons (fun own a wx hf hs hE hO => ?_) ?_
    · obtain ⟨s13, -⟩ := hs
      exact sg_plain rfl (or_move (s13.trans ea110_13))
    refine steps_cons (fun own a wx hf hs hE hO => ?_) ?_
    · obtain ⟨(f53 : a.eval (.tmp 53) = .int .i64 0), -⟩ := hf
      exact sg_plain rfl (or_lss f53 rfl (by decide))
    exact steps_nil
  intro owna115 a115 w116 hda115 hza115 hsa115 hfa115 hEa115 hOa115 hpa115
  have ea115_10 : a115.eval (.tmp 10) = .bool false := (hsa115 10 rfl).trans ea110_10
  have ea115_5 : a115.eval (.tmp 5) = .pointer (some ⟨g1, 0, none⟩) := (hsa115 5 rfl).trans ea110_5
  have ea115_6 : a115.eval (.tmp 6) = .pointer (some ⟨g2, 0, none⟩) := (hsa115 6 rfl).trans ea110_6
  have ea115_7 : a115.eval (.tmp 7) = .pointer (some ⟨g3, 0, none⟩) := (hsa115 7 rfl).trans ea110_7
  have ea115_8 : a115.eval (.tmp 8) = .pointer (some ⟨g4, 0, none⟩) := (hsa115 8 rfl).trans ea110_8
  have ea115_9 : a115.eval (.tmp 9) = .pointer (some ⟨g5, 0, none⟩) := (hsa115 9 rfl).trans ea110_9
  have ea115_11 : a115.eval (.tmp 11) = .slice (some ⟨g8, 0, none⟩) 5 5 := (hsa115 11 rfl).trans ea110_11
  have ea115_13 : a115.eval (.tmp 13) = .int .i64 0 := (hsa115 13 rfl).trans ea110_13
  obtain ⟨(ea115_54 : a115.eval (.tmp 54) = .bool true), -⟩ := hfa115 [1] rfl
  have hwa115 : w99 = w116 := (hpa115 rfl).symm
  clear hEa115 hOa115 hpa115 hfa115 hsa115
  subst hwa115
  refine wp_cond_true ea115_54 ?_
  refine fl_skip ?_
  refine hn114 _ _ ?_
  refine fl_seq (fun Q117 hn117 hp117 => ?_)
  refine fl_block (fun Q118 hn118 hx118 hp118 => ?_)
  have qog8 : ((fun b => if b = g8 then 21 else 22) : Own) g8 = 21 := by show (if g8 = g8 then 21 else 22) = 21; exact (if_pos rfl)
  have qg5 : ¬ (((fun b => if b = g8 then 21 else 22) : Own) g5 ≠ 22) := fun h => h (by show (if g5 = g8 then 21 else 22) = 22; exact ((if_neg (fun h => by omega)).trans rfl))
  have qB : ∀ b, b < w.heap.size → ¬ (((fun b => if b = g8 then 21 else 22) : Own) b ≠ 22) := fun b hb h => h (by show (if b = g8 then 21 else 22) = 22; exact ((if_neg (by omega)).trans rfl))
  refine rg_draw g_mixed (n := 163) (pu := false) (kl := [(20, 21)]) (rs := [Fct.at_ 21 g8 29 #[.int .i64 ax, .int .i64 ay, .int .i64 bx, .int .i64 bY, .int .i64 cx, .int .i64 cy, .int .i64 px, .int .i64 py, .int .i64 gx, .int .i64 gy]]) (oth := 22) (own0 := (fun b => if b = g8 then 21 else 22))
      (bs := [0, 0, 0, 0, 12, 28, 60, 0, 128, 508, 0, 0, 3072, 7168, 15360, 0, 32768, 130048, 262140, 524287, 1048575])
      (ds := [⟨[], [11], Fct.val 0 57 (.slice (some ⟨g8, 0, none⟩) 5 5)⟩,
      ⟨[], [13], Fct.val 1 58 (.int .i64 0)⟩,
      ⟨[], [11], Fct.val 2 59 (.slice (some ⟨g8, 0, none⟩) 5 5)⟩,
      ⟨[], [13], Fct.val 3 60 (.int .i64 0)⟩,
      ⟨[2, 3], [], Fct.val 4 61 (.pointer (some ⟨g8, 0, none⟩))⟩,
      ⟨[4], [], Fct.val 5 62 (.pointer (some ⟨g8, 0, none⟩))⟩,
      ⟨[5, 21], [], Fct.val 6 63 (.int .i64 ax)⟩,
      ⟨[], [9], Fct.val 7 64 (.pointer (some ⟨g5, 0, none⟩))⟩,
      ⟨[7], [], Fct.val 8 65 (.int .i64 gx)⟩,
      ⟨[6, 8], [], Fct.val 9 66 (.int .i64 (ax + gx))⟩,
      ⟨[], [11], Fct.val 10 67 (.slice (some ⟨g8, 0, none⟩) 5 5)⟩,
      ⟨[], [13], Fct.val 11 68 (.int .i64 0)⟩,
      ⟨[10, 11], [], Fct.val 12 69 (.pointer (some ⟨g8, 0, none⟩))⟩,
      ⟨[12], [], Fct.val 13 70 (.pointer (some ⟨g8, 1, none⟩))⟩,
      ⟨[13, 21], [], Fct.val 14 71 (.int .i64 ay)⟩,
      ⟨[], [9], Fct.val 15 72 (.pointer (some ⟨g5, 1, none⟩))⟩,
      ⟨[15], [], Fct.val 16 73 (.int .i64 gy)⟩,
      ⟨[14, 16], [], Fct.val 17 74 (.int .i64 (ay + gy))⟩,
      ⟨[9, 17], [], Fct.val 18 75 (.agg #[.int .i64 (ax + gx), .int .i64 (ay + gy)])⟩,
      ⟨[0, 1], [], Fct.val 19 76 (.pointer (some ⟨g8, 0, none⟩))⟩,
      ⟨[19, 18, 21], [], Fct.at_ 20 g8 29 #[.int .i64 (ax + gx), .int .i64 (ay + gy), .int .i64 bx, .int .i64 bY, .int .i64 cx, .int .i64 cy, .int .i64 px, .int .i64 py, .int .i64 gx, .int .i64 gy]⟩]) (by kernel_rfl) hza115 hda115 (by simp only [List.forall_mem_cons]; exact ⟨⟨qog8, bg8_w99⟩, fun _ h => nomatch h⟩) ?_ ?_
  · refine steps_cons (fun own a wx hf hs hE hO => ?_) ?_
    · obtain ⟨s11, -⟩ := hs
      exact sg_plain rfl (or_move (s11.trans ea115_11))
    refine steps_cons (fun own a wx hf hs hE hO => ?_) ?_
    · obtain ⟨s13, -⟩ := hs
      exact sg_plain rfl (or_move (s13.trans ea115_13))
    refine steps_cons (fun own a wx hf hs hE hO => ?_) ?_
    · obtain ⟨s11, -⟩ := hs
      exact sg_plain rfl (or_move (s11.trans ea115_11))
    refine steps_cons (fun own a wx hf hs hE hO => ?_) ?_
    · obtain ⟨s13, -⟩ := hs
      exact sg_plain rfl (or_move (s13.trans ea115_13))
    refine steps_cons (fun own a wx hf hs hE hO => ?_) ?_
    · obtain ⟨(f59 : a.eval (.tmp 59) = .slice (some ⟨g8, 0, none⟩) 5 5), (f60 : a.eval (.tmp 60) = .int .i64 0), -⟩ := hf
      exact sg_plain rfl (or_index (j := 0) tl41 f59 f60 rfl (by decide) rfl (by rfl))
    refine steps_cons (fun own a wx hf hs hE hO => ?_) ?_
    · obtain ⟨(f61 : a.eval (.tmp 61) = .pointer (some ⟨g8, 0, none⟩)), -⟩ := hf
      exact sg_plain rfl (or_field fo29_0 f61 (by rfl))
    refine steps_cons (fun own a wx hf hs hE hO => ?_) ?_
    · obtain ⟨(f62 : a.eval (.tmp 62) = .pointer (some ⟨g8, 0, none⟩)), ⟨og8, bg8⟩, -⟩ := hf
      exact sg_plain rfl (or_load1 to3 f62 (Blk.at_ bg8 0 rfl))
    refine steps_cons (fun own a wx hf hs hE hO => ?_) ?_
    · obtain ⟨s9, -⟩ := hs
      exact sg_plain rfl (or_field fo29_0 (s9.trans ea115_9) (by rfl))
    refine steps_cons (fun own a wx hf hs hE hO => ?_) ?_
    · obtain ⟨(f64 : a.eval (.tmp 64) = .pointer (some ⟨g5, 0, none⟩)), -⟩ := hf
      exact sg_plain rfl (or_load1 to3 f64 (Blk.at_ (hE.blk bg5_w99 qg5) 0 rfl))
    refine steps_cons (fun own a wx hf hs hE hO => ?_) ?_
    · obtain ⟨(f63 : a.eval (.tmp 63) = .int .i64 ax), (f65 : a.eval (.tmp 65) = .int .i64 gx), -⟩ := hf
      exact sg_plain rfl (or_add f63 f65 (w64 (by omega)))
    refine steps_cons (fun own a wx hf hs hE hO => ?_) ?_
    · obtain ⟨s11, -⟩ := hs
      exact sg_plain rfl (or_move (s11.trans ea115_11))
    refine steps_cons (fun own a wx hf hs hE hO => ?_) ?_
    · obtain ⟨s13, -⟩ := hs
      exact sg_plain rfl (or_move (s13.trans ea115_13))
    refine steps_cons (fun own a wx hf hs hE hO => ?_) ?_
    · obtain ⟨(f67 : a.eval (.tmp 67) = .slice (some ⟨g8, 0, none⟩) 5 5), (f68 : a.eval (.tmp 68) = .int .i64 0), -⟩ := hf
      exact sg_plain rfl (or_index (j := 0) tl41 f67 f68 rfl (by decide) rfl (by rfl))
    refine steps_cons (fun own a wx hf hs hE hO => ?_) ?_
    · obtain ⟨(f69 : a.eval (.tmp 69) = .pointer (some ⟨g8, 0, none⟩)), -⟩ := hf
      exact sg_plain rfl (or_field fo29_1 f69 (by rfl))
    refine steps_cons (fun own a wx hf hs hE hO => ?_) ?_
    · obtain ⟨(f70 : a.eval (.tmp 70) = .pointer (some ⟨g8, 1, none⟩)), ⟨og8, bg8⟩, -⟩ := hf
      exact sg_plain rfl (or_load1 to3 f70 (Blk.at_ bg8 1 rfl))
    refine steps_cons (fun own a wx hf hs hE hO => ?_) ?_
    · obtain ⟨s9, -⟩ := hs
      exact sg_plain rfl (or_field fo29_1 (s9.trans ea115_9) (by rfl))
    refine steps_cons (fun own a wx hf hs hE hO => ?_) ?_
    · obtain ⟨(f72 : a.eval (.tmp 72) = .pointer (some ⟨g5, 1, none⟩)), -⟩ := hf
      exact sg_plain rfl (or_load1 to3 f72 (Blk.at_ (hE.blk bg5_w99 qg5) 1 rfl))
    refine steps_cons (fun own a wx hf hs hE hO => ?_) ?_
    · obtain ⟨(f71 : a.eval (.tmp 71) = .int .i64 ay), (f73 : a.eval (.tmp 73) = .int .i64 gy), -⟩ := hf
      exact sg_plain rfl (or_add f71 f73 (w64 (by omega)))
    refine steps_cons (fun own a wx hf hs hE hO => ?_) ?_
    · obtain ⟨(f66 : a.eval (.tmp 66) = .int .i64 (ax + gx)), (f74 : a.eval (.tmp 74) = .int .i64 (ay + gy)), -⟩ := hf
      exact sg_plain rfl (or_k [(66, .int .i64 (ax + gx)), (74, .int .i64 (ay + gy))] rfl rfl ⟨f66, f74, trivial⟩ (by kernel_rfl))
    refine steps_cons (fun own a wx hf hs hE hO => ?_) ?_
    · obtain ⟨(f57 : a.eval (.tmp 57) = .slice (some ⟨g8, 0, none⟩) 5 5), (f58 : a.eval (.tmp 58) = .int .i64 0), -⟩ := hf
      exact sg_plain rfl (or_index (j := 0) tl41 f57 f58 rfl (by decide) rfl (by rfl))
    refine steps_cons (fun own a wx hf hs hE hO => ?_) ?_
    · obtain ⟨(f76 : a.eval (.tmp 76) = .pointer (some ⟨g8, 0, none⟩)), (f75 : a.eval (.tmp 75) = .agg #[.int .i64 (ax + gx), .int .i64 (ay + gy)]), ⟨og8, bg8⟩, -⟩ := hf
      exact sg_plain rfl (or_store (l := #[.int .i64 (ax + gx), .int .i64 (ay + gy)]) ts29 rfl f76 f75 bg8 (by simp) (by kernel_rfl) (by rw [og8]; decide) (by kernel_rfl) (fun own' a' w' ho ha hb => ⟨ho, hb⟩))
    exact steps_nil
  intro owna119 a119 w120 hda119 hza119 hsa119 hfa119 hEa119 hOa119 hpa119
  have ea119_10 : a119.eval (.tmp 10) = .bool false := (hsa119 10 rfl).trans ea115_10
  have ea119_5 : a119.eval (.tmp 5) = .pointer (some ⟨g1, 0, none⟩) := (hsa119 5 rfl).trans ea115_5
  have ea119_6 : a119.eval (.tmp 6) = .pointer (some ⟨g2, 0, none⟩) := (hsa119 6 rfl).trans ea115_6
  have ea119_7 : a119.eval (.tmp 7) = .pointer (some ⟨g3, 0, none⟩) := (hsa119 7 rfl).trans ea115_7
  have ea119_8 : a119.eval (.tmp 8) = .pointer (some ⟨g4, 0, none⟩) := (hsa119 8 rfl).trans ea115_8
  have ea119_9 : a119.eval (.tmp 9) = .pointer (some ⟨g5, 0, none⟩) := (hsa119 9 rfl).trans ea115_9
  have ea119_11 : a119.eval (.tmp 11) = .slice (some ⟨g8, 0, none⟩) 5 5 := (hsa119 11 rfl).trans ea115_11
  have ea119_13 : a119.eval (.tmp 13) = .int .i64 0 := (hsa119 13 rfl).trans ea115_13
  have ea119_54 : a119.eval (.tmp 54) = .bool true := (hsa119 54 rfl).trans ea115_54
  obtain ⟨⟨og8_a119, (bg8_w120 : Blk w120 g8 29 #[.int .i64 (ax + gx), .int .i64 (ay + gy), .int .i64 bx, .int .i64 bY, .int .i64 cx, .int .i64 cy, .int .i64 px, .int .i64 py, .int .i64 gx, .int .i64 gy])⟩, -⟩ := hfa119 [20] rfl
  have hNa119 : Ext (fun b => b = g8) w99 w120 := hEa119.mono_ (fun b h => by
    by_cases h0 : b = g8
    · exact h0
    exact absurd (by show (if b = g8 then 21 else 22) = 22; exact ((if_neg h0).trans rfl)) h)
  have bg1_w120 := hNa119.blk bg1_w99 (fun h => (fun h => by omega) h)
  have bg2_w120 := hNa119.blk bg2_w99 (fun h => (fun h => by omega) h)
  have bg3_w120 := hNa119.blk bg3_w99 (fun h => (fun h => by omega) h)
  have bg4_w120 := hNa119.blk bg4_w99 (fun h => (fun h => by omega) h)
  have bg5_w120 := hNa119.blk bg5_w99 (fun h => (fun h => by omega) h)
  have hXw120_w := hXw99_w.trans_ hNa119 (fun b hb h1 h => (fun h3 => by omega) h)
  have hBw120 : Below w.heap.size w w120 := hXw120_w.below (Nat.le_refl _) (fun _ _ h => h)
  clear hEa119 hOa119 hpa119 hfa119 hsa119
  refine hn118 _ _ ?_
  refine hn117 _ _ ?_
  refine rg_plain (n := 163) (pu := true) (kl := []) (rs := []) (oth := 3) (own0 := (fun _ => 3))
      (bs := [0, 1, 3])
      (ds := [⟨[], [13], Fct.val 0 55 (.int .i64 0)⟩,
      ⟨[0], [], Fct.val 1 56 (.int .i64 1)⟩,
      ⟨[1], [], Fct.val 2 13 (.int .i64 1)⟩]) (by kernel_rfl) hza119 hda119 (fun _ h => nomatch h) ?_ ?_
  · refine steps_cons (fun own a wx hf hs hE hO => ?_) ?_
    · obtain ⟨s13, -⟩ := hs
      exact sg_plain rfl (or_move (s13.trans ea119_13))
    refine steps_cons (fun own a wx hf hs hE hO => ?_) ?_
    · obtain ⟨(f55 : a.eval (.tmp 55) = .int .i64 0), -⟩ := hf
      exact sg_plain rfl (or_add f55 rfl (by decide))
    refine steps_cons (fun own a wx hf hs hE hO => ?_) ?_
    · obtain ⟨(f56 : a.eval (.tmp 56) = .int .i64 1), -⟩ := hf
      exact sg_plain rfl (or_assign f56)
    exact steps_nil
  intro owna121 a121 w122 hda121 hza121 hsa121 hfa121 hEa121 hOa121 hpa121
  have ea121_10 : a121.eval (.tmp 10) = .bool false := (hsa121 10 rfl).trans ea119_10
  have ea121_5 : a121.eval (.tmp 5) = .pointer (some ⟨g1, 0, none⟩) := (hsa121 5 rfl).trans ea119_5
  have ea121_6 : a121.eval (.tmp 6) = .pointer (some ⟨g2, 0, none⟩) := (hsa121 6 rfl).trans ea119_6
  have ea121_7 : a121.eval (.tmp 7) = .pointer (some ⟨g3, 0, none⟩) := (hsa121 7 rfl).trans ea119_7
  have ea121_8 : a121.eval (.tmp 8) = .pointer (some ⟨g4, 0, none⟩) := (hsa121 8 rfl).trans ea119_8
  have ea121_9 : a121.eval (.tmp 9) = .pointer (some ⟨g5, 0, none⟩) := (hsa121 9 rfl).trans ea119_9
  have ea121_11 : a121.eval (.tmp 11) = .slice (some ⟨g8, 0, none⟩) 5 5 := (hsa121 11 rfl).trans ea119_11
  have ea121_54 : a121.eval (.tmp 54) = .bool true := (hsa121 54 rfl).trans ea119_54
  obtain ⟨(ea121_13 : a121.eval (.tmp 13) = .int .i64 1), -⟩ := hfa121 [2] rfl
  have hwa121 : w120 = w122 := (hpa121 rfl).symm
  clear hEa121 hOa121 hpa121 hfa121 hsa121
  subst hwa121
  refine hn113 _ _ ?_
  refine fl_round (fun Q123 hn123 hp123 => ?_)
  refine fl_seq (fun Q124 hn124 hp124 => ?_)
  refine rg_plain_seq (n := 163) (pu := true) (kl := []) (rs := []) (oth := 2) (own0 := (fun _ => 2))
      (bs := [0, 1])
      (ds := [⟨[], [13], Fct.val 0 53 (.int .i64 1)⟩,
      ⟨[0], [], Fct.val 1 54 (.bool true)⟩]) (by kernel_rfl) hza121 hda121 (fun _ h => nomatch h) ?_ ?_
  · refine steps_cons (fun own a wx hf hs hE hO => ?_) ?_
    · obtain ⟨s13, -⟩ := hs
      exact sg_plain rfl (or_move (s13.trans ea121_13))
    refine steps_cons (fun own a wx hf hs hE hO => ?_) ?_
    · obtain ⟨(f53 : a.eval (.tmp 53) = .int .i64 1), -⟩ := hf
      exact sg_plain rfl (or_lss f53 rfl (by decide))
    exact steps_nil
  intro owna125 a125 w126 hda125 hza125 hsa125 hfa125 hEa125 hOa125 hpa125
  have ea125_10 : a125.eval (.tmp 10) = .bool false := (hsa125 10 rfl).trans ea121_10
  have ea125_5 : a125.eval (.tmp 5) = .pointer (some ⟨g1, 0, none⟩) := (hsa125 5 rfl).trans ea121_5
  have ea125_6 : a125.eval (.tmp 6) = .pointer (some ⟨g2, 0, none⟩) := (hsa125 6 rfl).trans ea121_6
  have ea125_7 : a125.eval (.tmp 7) = .pointer (some ⟨g3, 0, none⟩) := (hsa125 7 rfl).trans ea121_7
  have ea125_8 : a125.eval (.tmp 8) = .pointer (some ⟨g4, 0, none⟩) := (hsa125 8 rfl).trans ea121_8
  have ea125_9 : a125.eval (.tmp 9) = .pointer (some ⟨g5, 0, none⟩) := (hsa125 9 rfl).trans ea121_9
  have ea125_11 : a125.eval (.tmp 11) = .slice (some ⟨g8, 0, none⟩) 5 5 := (hsa125 11 rfl).trans ea121_11
  have ea125_13 : a125.eval (.tmp 13) = .int .i64 1 := (hsa125 13 rfl).trans ea121_13
  obtain ⟨(ea125_54 : a125.eval (.tmp 54) = .bool true), -⟩ := hfa125 [1] rfl
  have hwa125 : w120 = w126 := (hpa125 rfl).symm
  clear hEa125 hOa125 hpa125 hfa125 hsa125
  subst hwa125
  refine wp_cond_true ea125_54 ?_
  refine fl_skip ?_
  refine hn124 _ _ ?_
  refine fl_seq (fun Q127 hn127 hp127 => ?_)
  refine fl_block (fun Q128 hn128 hx128 hp128 => ?_)
  have qog8 : ((fun b => if b = g8 then 21 else 22) : Own) g8 = 21 := by show (if g8 = g8 then 21 else 22) = 21; exact (if_pos rfl)
  have qg5 : ¬ (((fun b => if b = g8 then 21 else 22) : Own) g5 ≠ 22) := fun h => h (by show (if g5 = g8 then 21 else 22) = 22; exact ((if_neg (fun h => by omega)).trans rfl))
  have qB : ∀ b, b < w.heap.size → ¬ (((fun b => if b = g8 then 21 else 22) : Own) b ≠ 22) := fun b hb h => h (by show (if b = g8 then 21 else 22) = 22; exact ((if_neg (by omega)).trans rfl))
  refine rg_draw g_mixed (n := 163) (pu := false) (kl := [(20, 21)]) (rs := [Fct.at_ 21 g8 29 #[.int .i64 (ax + gx), .int .i64 (ay + gy), .int .i64 bx, .int .i64 bY, .int .i64 cx, .int .i64 cy, .int .i64 px, .int .i64 py, .int .i64 gx, .int .i64 gy]]) (oth := 22) (own0 := (fun b => if b = g8 then 21 else 22))
      (bs := [0, 0, 0, 0, 12, 28, 60, 0, 128, 508, 0, 0, 3072, 7168, 15360, 0, 32768, 130048, 262140, 524287, 1048575])
      (ds := [⟨[], [11], Fct.val 0 57 (.slice (some ⟨g8, 0, none⟩) 5 5)⟩,
      ⟨[], [13], Fct.val 1 58 (.int .i64 1)⟩,
      ⟨[], [11], Fct.val 2 59 (.slice (some ⟨g8, 0, none⟩) 5 5)⟩,
      ⟨[], [13], Fct.val 3 60 (.int .i64 1)⟩,
      ⟨[2, 3], [], Fct.val 4 61 (.pointer (some ⟨g8, 2, none⟩))⟩,
      ⟨[4], [], Fct.val 5 62 (.pointer (some ⟨g8, 2, none⟩))⟩,
      ⟨[5, 21], [], Fct.val 6 63 (.int .i64 bx)⟩,
      ⟨[], [9], Fct.val 7 64 (.pointer (some ⟨g5, 0, none⟩))⟩,
      ⟨[7], [], Fct.val 8 65 (.int .i64 gx)⟩,
      ⟨[6, 8], [], Fct.val 9 66 (.int .i64 (bx + gx))⟩,
      ⟨[], [11], Fct.val 10 67 (.slice (some ⟨g8, 0, none⟩) 5 5)⟩,
      ⟨[], [13], Fct.val 11 68 (.int .i64 1)⟩,
      ⟨[10, 11], [], Fct.val 12 69 (.pointer (some ⟨g8, 2, none⟩))⟩,
      ⟨[12], [], Fct.val 13 70 (.pointer (some ⟨g8, 3, none⟩))⟩,
      ⟨[13, 21], [], Fct.val 14 71 (.int .i64 bY)⟩,
      ⟨[], [9], Fct.val 15 72 (.pointer (some ⟨g5, 1, none⟩))⟩,
      ⟨[15], [], Fct.val 16 73 (.int .i64 gy)⟩,
      ⟨[14, 16], [], Fct.val 17 74 (.int .i64 (bY + gy))⟩,
      ⟨[9, 17], [], Fct.val 18 75 (.agg #[.int .i64 (bx + gx), .int .i64 (bY + gy)])⟩,
      ⟨[0, 1], [], Fct.val 19 76 (.pointer (some ⟨g8, 2, none⟩))⟩,
      ⟨[19, 18, 21], [], Fct.at_ 20 g8 29 #[.int .i64 (ax + gx), .int .i64 (ay + gy), .int .i64 (bx + gx), .int .i64 (bY + gy), .int .i64 cx, .int .i64 cy, .int .i64 px, .int .i64 py, .int .i64 gx, .int .i64 gy]⟩]) (by kernel_rfl) hza125 hda125 (by simp only [List.forall_mem_cons]; exact ⟨⟨qog8, bg8_w120⟩, fun _ h => nomatch h⟩) ?_ ?_
  · refine steps_cons (fun own a wx hf hs hE hO => ?_) ?_
    · obtain ⟨s11, -⟩ := hs
      exact sg_plain rfl (or_move (s11.trans ea125_11))
    refine steps_cons (fun own a wx hf hs hE hO => ?_) ?_
    · obtain ⟨s13, -⟩ := hs
      exact sg_plain rfl (or_move (s13.trans ea125_13))
    refine steps_cons (fun own a wx hf hs hE hO => ?_) ?_
    · obtain ⟨s11, -⟩ := hs
      exact sg_plain rfl (or_move (s11.trans ea125_11))
    refine steps_cons (fun own a wx hf hs hE hO => ?_) ?_
    · obtain ⟨s13, -⟩ := hs
      exact sg_plain rfl (or_move (s13.trans ea125_13))
    refine steps_cons (fun own a wx hf hs hE hO => ?_) ?_
    · obtain ⟨(f59 : a.eval (.tmp 59) = .slice (some ⟨g8, 0, none⟩) 5 5), (f60 : a.eval (.tmp 60) = .int .i64 1), -⟩ := hf
      exact sg_plain rfl (or_index (j := 1) tl41 f59 f60 rfl (by decide) rfl (by rfl))
    refine steps_cons (fun own a wx hf hs hE hO => ?_) ?_
    · obtain ⟨(f61 : a.eval (.tmp 61) = .pointer (some ⟨g8, 2, none⟩)), -⟩ := hf
      exact sg_plain rfl (or_field fo29_0 f61 (by rfl))
    refine steps_cons (fun own a wx hf hs hE hO => ?_) ?_
    · obtain ⟨(f62 : a.eval (.tmp 62) = .pointer (some ⟨g8, 2, none⟩)), ⟨og8, bg8⟩, -⟩ := hf
      exact sg_plain rfl (or_load1 to3 f62 (Blk.at_ bg8 2 rfl))
    refine steps_cons (fun own a wx hf hs hE hO => ?_) ?_
    · obtain ⟨s9, -⟩ := hs
      exact sg_plain rfl (or_field fo29_0 (s9.trans ea125_9) (by rfl))
    refine steps_cons (fun own a wx hf hs hE hO => ?_) ?_
    · obtain ⟨(f64 : a.eval (.tmp 64) = .pointer (some ⟨g5, 0, none⟩)), -⟩ := hf
      exact sg_plain rfl (or_load1 to3 f64 (Blk.at_ (hE.blk bg5_w120 qg5) 0 rfl))
    refine steps_cons (fun own a wx hf hs hE hO => ?_) ?_
    · obtain ⟨(f63 : a.eval (.tmp 63) = .int .i64 bx), (f65 : a.eval (.tmp 65) = .int .i64 gx), -⟩ := hf
      exact sg_plain rfl (or_add f63 f65 (w64 (by omega)))
    refine steps_cons (fun own a wx hf hs hE hO => ?_) ?_
    · obtain ⟨s11, -⟩ := hs
      exact sg_plain rfl (or_move (s11.trans ea125_11))
    refine steps_cons (fun own a wx hf hs hE hO => ?_) ?_
    · obtain ⟨s13, -⟩ := hs
      exact sg_plain rfl (or_move (s13.trans ea125_13))
    refine steps_cons (fun own a wx hf hs hE hO => ?_) ?_
    · obtain ⟨(f67 : a.eval (.tmp 67) = .slice (some ⟨g8, 0, none⟩) 5 5), (f68 : a.eval (.tmp 68) = .int .i64 1), -⟩ := hf
      exact sg_plain rfl (or_index (j := 1) tl41 f67 f68 rfl (by decide) rfl (by rfl))
    refine steps_cons (fun own a wx hf hs hE hO => ?_) ?_
    · obtain ⟨(f69 : a.eval (.tmp 69) = .pointer (some ⟨g8, 2, none⟩)), -⟩ := hf
      exact sg_plain rfl (or_field fo29_1 f69 (by rfl))
    refine steps_cons (fun own a wx hf hs hE hO => ?_) ?_
    · obtain ⟨(f70 : a.eval (.tmp 70) = .pointer (some ⟨g8, 3, none⟩)), ⟨og8, bg8⟩, -⟩ := hf
      exact sg_plain rfl (or_load1 to3 f70 (Blk.at_ bg8 3 rfl))
    refine steps_cons (fun own a wx hf hs hE hO => ?_) ?_
    · obtain ⟨s9, -⟩ := hs
      exact sg_plain rfl (or_field fo29_1 (s9.trans ea125_9) (by rfl))
    refine steps_cons (fun own a wx hf hs hE hO => ?_) ?_
    · obtain ⟨(f72 : a.eval (.tmp 72) = .pointer (some ⟨g5, 1, none⟩)), -⟩ := hf
      exact sg_plain rfl (or_load1 to3 f72 (Blk.at_ (hE.blk bg5_w120 qg5) 1 rfl))
    refine steps_cons (fun own a wx hf hs hE hO => ?_) ?_
    · obtain ⟨(f71 : a.eval (.tmp 71) = .int .i64 bY), (f73 : a.eval (.tmp 73) = .int .i64 gy), -⟩ := hf
      exact sg_plain rfl (or_add f71 f73 (w64 (by omega)))
    refine steps_cons (fun own a wx hf hs hE hO => ?_) ?_
    · obtain ⟨(f66 : a.eval (.tmp 66) = .int .i64 (bx + gx)), (f74 : a.eval (.tmp 74) = .int .i64 (bY + gy)), -⟩ := hf
      exact sg_plain rfl (or_k [(66, .int .i64 (bx + gx)), (74, .int .i64 (bY + gy))] rfl rfl ⟨f66, f74, trivial⟩ (by kernel_rfl))
    refine steps_cons (fun own a wx hf hs hE hO => ?_) ?_
    · obtain ⟨(f57 : a.eval (.tmp 57) = .slice (some ⟨g8, 0, none⟩) 5 5), (f58 : a.eval (.tmp 58) = .int .i64 1), -⟩ := hf
      exact sg_plain rfl (or_index (j := 1) tl41 f57 f58 rfl (by decide) rfl (by rfl))
    refine steps_cons (fun own a wx hf hs hE hO => ?_) ?_
    · obtain ⟨(f76 : a.eval (.tmp 76) = .pointer (some ⟨g8, 2, none⟩)), (f75 : a.eval (.tmp 75) = .agg #[.int .i64 (bx + gx), .int .i64 (bY + gy)]), ⟨og8, bg8⟩, -⟩ := hf
      exact sg_plain rfl (or_store (l := #[.int .i64 (bx + gx), .int .i64 (bY + gy)]) ts29 rfl f76 f75 bg8 (by simp) (by kernel_rfl) (by rw [og8]; decide) (by kernel_rfl) (fun own' a' w' ho ha hb => ⟨ho, hb⟩))
    exact steps_nil
  intro owna129 a129 w130 hda129 hza129 hsa129 hfa129 hEa129 hOa129 hpa129
  have ea129_10 : a129.eval (.tmp 10) = .bool false := (hsa129 10 rfl).trans ea125_10
  have ea129_5 : a129.eval (.tmp 5) = .pointer (some ⟨g1, 0, none⟩) := (hsa129 5 rfl).trans ea125_5
  have ea129_6 : a129.eval (.tmp 6) = .pointer (some ⟨g2, 0, none⟩) := (hsa129 6 rfl).trans ea125_6
  have ea129_7 : a129.eval (.tmp 7) = .pointer (some ⟨g3, 0, none⟩) := (hsa129 7 rfl).trans ea125_7
  have ea129_8 : a129.eval (.tmp 8) = .pointer (some ⟨g4, 0, none⟩) := (hsa129 8 rfl).trans ea125_8
  have ea129_9 : a129.eval (.tmp 9) = .pointer (some ⟨g5, 0, none⟩) := (hsa129 9 rfl).trans ea125_9
  have ea129_11 : a129.eval (.tmp 11) = .slice (some ⟨g8, 0, none⟩) 5 5 := (hsa129 11 rfl).trans ea125_11
  have ea129_13 : a129.eval (.tmp 13) = .int .i64 1 := (hsa129 13 rfl).trans ea125_13
  have ea129_54 : a129.eval (.tmp 54) = .bool true := (hsa129 54 rfl).trans ea125_54
  obtain ⟨⟨og8_a129, (bg8_w130 : Blk w130 g8 29 #[.int .i64 (ax + gx), .int .i64 (ay + gy), .int .i64 (bx + gx), .int .i64 (bY + gy), .int .i64 cx, .int .i64 cy, .int .i64 px, .int .i64 py, .int .i64 gx, .int .i64 gy])⟩, -⟩ := hfa129 [20] rfl
  have hNa129 : Ext (fun b => b = g8) w120 w130 := hEa129.mono_ (fun b h => by
    by_cases h0 : b = g8
    · exact h0
    exact absurd (by show (if b = g8 then 21 else 22) = 22; exact ((if_neg h0).trans rfl)) h)
  have bg1_w130 := hNa129.blk bg1_w120 (fun h => (fun h => by omega) h)
  have bg2_w130 := hNa129.blk bg2_w120 (fun h => (fun h => by omega) h)
  have bg3_w130 := hNa129.blk bg3_w120 (fun h => (fun h => by omega) h)
  have bg4_w130 := hNa129.blk bg4_w120 (fun h => (fun h => by omega) h)
  have bg5_w130 := hNa129.blk bg5_w120 (fun h => (fun h => by omega) h)
  have hXw130_w := hXw120_w.trans_ hNa129 (fun b hb h1 h => (fun h3 => by omega) h)
  have hBw130 : Below w.heap.size w w130 := hXw130_w.below (Nat.le_refl _) (fun _ _ h => h)
  clear hEa129 hOa129 hpa129 hfa129 hsa129
  refine hn128 _ _ ?_
  refine hn127 _ _ ?_
  refine rg_plain (n := 163) (pu := true) (kl := []) (rs := []) (oth := 3) (own0 := (fun _ => 3))
      (bs := [0, 1, 3])
      (ds := [⟨[], [13], Fct.val 0 55 (.int .i64 1)⟩,
      ⟨[0], [], Fct.val 1 56 (.int .i64 2)⟩,
      ⟨[1], [], Fct.val 2 13 (.int .i64 2)⟩]) (by kernel_rfl) hza129 hda129 (fun _ h => nomatch h) ?_ ?_
  · refine steps_cons (fun own a wx hf hs hE hO => ?_) ?_
    · obtain ⟨s13, -⟩ := hs
      exact sg_plain rfl (or_move (s13.trans ea129_13))
    refine steps_cons (fun own a wx hf hs hE hO => ?_) ?_
    · obtain ⟨(f55 : a.eval (.tmp 55) = .int .i64 1), -⟩ := hf
      exact sg_plain rfl (or_add f55 rfl (by decide))
    refine steps_cons (fun own a wx hf hs hE hO => ?_) ?_
    · obtain ⟨(f56 : a.eval (.tmp 56) = .int .i64 2), -⟩ := hf
      exact sg_plain rfl (or_assign f56)
    exact steps_nil
  intro owna131 a131 w132 hda131 hza131 hsa131 hfa131 hEa131 hOa131 hpa131
  have ea131_10 : a131.eval (.tmp 10) = .bool false := (hsa131 10 rfl).trans ea129_10
  have ea131_5 : a131.eval (.tmp 5) = .pointer (some ⟨g1, 0, none⟩) := (hsa131 5 rfl).trans ea129_5
  have ea131_6 : a131.eval (.tmp 6) = .pointer (some ⟨g2, 0, none⟩) := (hsa131 6 rfl).trans ea129_6
  have ea131_7 : a131.eval (.tmp 7) = .pointer (some ⟨g3, 0, none⟩) := (hsa131 7 rfl).trans ea129_7
  have ea131_8 : a131.eval (.tmp 8) = .pointer (some ⟨g4, 0, none⟩) := (hsa131 8 rfl).trans ea129_8
  have ea131_9 : a131.eval (.tmp 9) = .pointer (some ⟨g5, 0, none⟩) := (hsa131 9 rfl).trans ea129_9
  have ea131_11 : a131.eval (.tmp 11) = .slice (some ⟨g8, 0, none⟩) 5 5 := (hsa131 11 rfl).trans ea129_11
  have ea131_54 : a131.eval (.tmp 54) = .bool true := (hsa131 54 rfl).trans ea129_54
  obtain ⟨(ea131_13 : a131.eval (.tmp 13) = .int .i64 2), -⟩ := hfa131 [2] rfl
  have hwa131 : w130 = w132 := (hpa131 rfl).symm
  clear hEa131 hOa131 hpa131 hfa131 hsa131
  subst hwa131
  refine hn123 _ _ ?_
  refine fl_round (fun Q133 hn133 hp133 => ?_)
  refine fl_seq (fun Q134 hn134 hp134 => ?_)
  refine rg_plain_seq (n := 163) (pu := true) (kl := []) (rs := []) (oth := 2) (own0 := (fun _ => 2))
      (bs := [0, 1])
      (ds := [⟨[], [13], Fct.val 0 53 (.int .i64 2)⟩,
      ⟨[0], [], Fct.val 1 54 (.bool true)⟩]) (by kernel_rfl) hza131 hda131 (fun _ h => nomatch h) ?_ ?_
  · refine steps_cons (fun own a wx hf hs hE hO => ?_) ?_
    · obtain ⟨s13, -⟩ := hs
      exact sg_plain rfl (or_move (s13.trans ea131_13))
    refine steps_cons (fun own a wx hf hs hE hO => ?_) ?_
    · obtain ⟨(f53 : a.eval (.tmp 53) = .int .i64 2), -⟩ := hf
      exact sg_plain rfl (or_lss f53 rfl (by decide))
    exact steps_nil
  intro owna135 a135 w136 hda135 hza135 hsa135 hfa135 hEa135 hOa135 hpa135
  have ea135_10 : a135.eval (.tmp 10) = .bool false := (hsa135 10 rfl).trans ea131_10
  have ea135_5 : a135.eval (.tmp 5) = .pointer (some ⟨g1, 0, none⟩) := (hsa135 5 rfl).trans ea131_5
  have ea135_6 : a135.eval (.tmp 6) = .pointer (some ⟨g2, 0, none⟩) := (hsa135 6 rfl).trans ea131_6
  have ea135_7 : a135.eval (.tmp 7) = .pointer (some ⟨g3, 0, none⟩) := (hsa135 7 rfl).trans ea131_7
  have ea135_8 : a135.eval (.tmp 8) = .pointer (some ⟨g4, 0, none⟩) := (hsa135 8 rfl).trans ea131_8
  have ea135_9 : a135.eval (.tmp 9) = .pointer (some ⟨g5, 0, none⟩) := (hsa135 9 rfl).trans ea131_9
  have ea135_11 : a135.eval (.tmp 11) = .slice (some ⟨g8, 0, none⟩) 5 5 := (hsa135 11 rfl).trans ea131_11
  have ea135_13 : a135.eval (.tmp 13) = .int .i64 2 := (hsa135 13 rfl).trans ea131_13
  obtain ⟨(ea135_54 : a135.eval (.tmp 54) = .bool true), -⟩ := hfa135 [1] rfl
  have hwa135 : w130 = w136 := (hpa135 rfl).symm
  clear hEa135 hOa135 hpa135 hfa135 hsa135
  subst hwa135
  refine wp_cond_true ea135_54 ?_
  refine fl_skip ?_
  refine hn134 _ _ ?_
  refine fl_seq (fun Q137 hn137 hp137 => ?_)
  refine fl_block (fun Q138 hn138 hx138 hp138 => ?_)
  have qog8 : ((fun b => if b = g8 then 21 else 22) : Own) g8 = 21 := by show (if g8 = g8 then 21 else 22) = 21; exact (if_pos rfl)
  have qg5 : ¬ (((fun b => if b = g8 then 21 else 22) : Own) g5 ≠ 22) := fun h => h (by show (if g5 = g8 then 21 else 22) = 22; exact ((if_neg (fun h => by omega)).trans rfl))
  have qB : ∀ b, b < w.heap.size → ¬ (((fun b => if b = g8 then 21 else 22) : Own) b ≠ 22) := fun b hb h => h (by show (if b = g8 then 21 else 22) = 22; exact ((if_neg (by omega)).trans rfl))
  refine rg_draw g_mixed (n := 163) (pu := false) (kl := [(20, 21)]) (rs := [Fct.at_ 21 g8 29 #[.int .i64 (ax + gx), .int .i64 (ay + gy), .int .i64 (bx + gx), .int .i64 (bY + gy), .int .i64 cx, .int .i64 cy, .int .i64 px, .int .i64 py, .int .i64 gx, .int .i64 gy]]) (oth := 22) (own0 := (fun b => if b = g8 then 21 else 22))
      (bs := [0, 0, 0, 0, 12, 28, 60, 0, 128, 508, 0, 0, 3072, 7168, 15360, 0, 32768, 130048, 262140, 524287, 1048575])
      (ds := [⟨[], [11], Fct.val 0 57 (.slice (some ⟨g8, 0, none⟩) 5 5)⟩,
      ⟨[], [13], Fct.val 1 58 (.int .i64 2)⟩,
      ⟨[], [11], Fct.val 2 59 (.slice (some ⟨g8, 0, none⟩) 5 5)⟩,
      ⟨[], [13], Fct.val 3 60 (.int .i64 2)⟩,
      ⟨[2, 3], [], Fct.val 4 61 (.pointer (some ⟨g8, 4, none⟩))⟩,
      ⟨[4], [], Fct.val 5 62 (.pointer (some ⟨g8, 4, none⟩))⟩,
      ⟨[5, 21], [], Fct.val 6 63 (.int .i64 cx)⟩,
      ⟨[], [9], Fct.val 7 64 (.pointer (some ⟨g5, 0, none⟩))⟩,
      ⟨[7], [], Fct.val 8 65 (.int .i64 gx)⟩,
      ⟨[6, 8], [], Fct.val 9 66 (.int .i64 (cx + gx))⟩,
      ⟨[], [11], Fct.val 10 67 (.slice (some ⟨g8, 0, none⟩) 5 5)⟩,
      ⟨[], [13], Fct.val 11 68 (.int .i64 2)⟩,
      ⟨[10, 11], [], Fct.val 12 69 (.pointer (some ⟨g8, 4, none⟩))⟩,
      ⟨[12], [], Fct.val 13 70 (.pointer (some ⟨g8, 5, none⟩))⟩,
      ⟨[13, 21], [], Fct.val 14 71 (.int .i64 cy)⟩,
      ⟨[], [9], Fct.val 15 72 (.pointer (some ⟨g5, 1, none⟩))⟩,
      ⟨[15], [], Fct.val 16 73 (.int .i64 gy)⟩,
      ⟨[14, 16], [], Fct.val 17 74 (.int .i64 (cy + gy))⟩,
      ⟨[9, 17], [], Fct.val 18 75 (.agg #[.int .i64 (cx + gx), .int .i64 (cy + gy)])⟩,
      ⟨[0, 1], [], Fct.val 19 76 (.pointer (some ⟨g8, 4, none⟩))⟩,
      ⟨[19, 18, 21], [], Fct.at_ 20 g8 29 #[.int .i64 (ax + gx), .int .i64 (ay + gy), .int .i64 (bx + gx), .int .i64 (bY + gy), .int .i64 (cx + gx), .int .i64 (cy + gy), .int .i64 px, .int .i64 py, .int .i64 gx, .int .i64 gy]⟩]) (by kernel_rfl) hza135 hda135 (by simp only [List.forall_mem_cons]; exact ⟨⟨qog8, bg8_w130⟩, fun _ h => nomatch h⟩) ?_ ?_
  · refine steps_cons (fun own a wx hf hs hE hO => ?_) ?_
    · obtain ⟨s11, -⟩ := hs
      exact sg_plain rfl (or_move (s11.trans ea135_11))
    refine steps_cons (fun own a wx hf hs hE hO => ?_) ?_
    · obtain ⟨s13, -⟩ := hs
      exact sg_plain rfl (or_move (s13.trans ea135_13))
    refine steps_cons (fun own a wx hf hs hE hO => ?_) ?_
    · obtain ⟨s11, -⟩ := hs
      exact sg_plain rfl (or_move (s11.trans ea135_11))
    refine steps_cons (fun own a wx hf hs hE hO => ?_) ?_
    · obtain ⟨s13, -⟩ := hs
      exact sg_plain rfl (or_move (s13.trans ea135_13))
    refine steps_cons (fun own a wx hf hs hE hO => ?_) ?_
    · obtain ⟨(f59 : a.eval (.tmp 59) = .slice (some ⟨g8, 0, none⟩) 5 5), (f60 : a.eval (.tmp 60) = .int .i64 2), -⟩ := hf
      exact sg_plain rfl (or_index (j := 2) tl41 f59 f60 rfl (by decide) rfl (by rfl))
    refine steps_cons (fun own a wx hf hs hE hO => ?_) ?_
    · obtain ⟨(f61 : a.eval (.tmp 61) = .pointer (some ⟨g8, 4, none⟩)), -⟩ := hf
      exact sg_plain rfl (or_field fo29_0 f61 (by rfl))
    refine steps_cons (fun own a wx hf hs hE hO => ?_) ?_
    · obtain ⟨(f62 : a.eval (.tmp 62) = .pointer (some ⟨g8, 4, none⟩)), ⟨og8, bg8⟩, -⟩ := hf
      exact sg_plain rfl (or_load1 to3 f62 (Blk.at_ bg8 4 rfl))
    refine steps_cons (fun own a wx hf hs hE hO => ?_) ?_
    · obtain ⟨s9, -⟩ := hs
      exact sg_plain rfl (or_field fo29_0 (s9.trans ea135_9) (by rfl))
    refine steps_cons (fun own a wx hf hs hE hO => ?_) ?_
    · obtain ⟨(f64 : a.eval (.tmp 64) = .pointer (some ⟨g5, 0, none⟩)), -⟩ := hf
      exact sg_plain rfl (or_load1 to3 f64 (Blk.at_ (hE.blk bg5_w130 qg5) 0 rfl))
    refine steps_cons (fun own a wx hf hs hE hO => ?_) ?_
    · obtain ⟨(f63 : a.eval (.tmp 63) = .int .i64 cx), (f65 : a.eval (.tmp 65) = .int .i64 gx), -⟩ := hf
      exact sg_plain rfl (or_add f63 f65 (w64 (by omega)))
    refine steps_cons (fun own a wx hf hs hE hO => ?_) ?_
    · obtain ⟨s11, -⟩ := hs
      exact sg_plain rfl (or_move (s11.trans ea135_11))
    refine steps_cons (fun own a wx hf hs hE hO => ?_) ?_
    · obtain ⟨s13, -⟩ := hs
      exact sg_plain rfl (or_move (s13.trans ea135_13))
    refine steps_cons (fun own a wx hf hs hE hO => ?_) ?_
    · obtain ⟨(f67 : a.eval (.tmp 67) = .slice (some ⟨g8, 0, none⟩) 5 5), (f68 : a.eval (.tmp 68) = .int .i64 2), -⟩ := hf
      exact sg_plain rfl (or_index (j := 2) tl41 f67 f68 rfl (by decide) rfl (by rfl))
    refine steps_cons (fun own a wx hf hs hE hO => ?_) ?_
    · obtain ⟨(f69 : a.eval (.tmp 69) = .pointer (some ⟨g8, 4, none⟩)), -⟩ := hf
      exact sg_plain rfl (or_field fo29_1 f69 (by rfl))
    refine steps_cons (fun own a wx hf hs hE hO => ?_) ?_
    · obtain ⟨(f70 : a.eval (.tmp 70) = .pointer (some ⟨g8, 5, none⟩)), ⟨og8, bg8⟩, -⟩ := hf
      exact sg_plain rfl (or_load1 to3 f70 (Blk.at_ bg8 5 rfl))
    refine steps_cons (fun own a wx hf hs hE hO => ?_) ?_
    · obtain ⟨s9, -⟩ := hs
      exact sg_plain rfl (or_field fo29_1 (s9.trans ea135_9) (by rfl))
    refine steps_cons (fun own a wx hf hs hE hO => ?_) ?_
    · obtain ⟨(f72 : a.eval (.tmp 72) = .pointer (some ⟨g5, 1, none⟩)), -⟩ := hf
      exact sg_plain rfl (or_load1 to3 f72 (Blk.at_ (hE.blk bg5_w130 qg5) 1 rfl))
    refine steps_cons (fun own a wx hf hs hE hO => ?_) ?_
    · obtain ⟨(f71 : a.eval (.tmp 71) = .int .i64 cy), (f73 : a.eval (.tmp 73) = .int .i64 gy), -⟩ := hf
      exact sg_plain rfl (or_add f71 f73 (w64 (by omega)))
    refine steps_cons (fun own a wx hf hs hE hO => ?_) ?_
    · obtain ⟨(f66 : a.eval (.tmp 66) = .int .i64 (cx + gx)), (f74 : a.eval (.tmp 74) = .int .i64 (cy + gy)), -⟩ := hf
      exact sg_plain rfl (or_k [(66, .int .i64 (cx + gx)), (74, .int .i64 (cy + gy))] rfl rfl ⟨f66, f74, trivial⟩ (by kernel_rfl))
    refine steps_cons (fun own a wx hf hs hE hO => ?_) ?_
    · obtain ⟨(f57 : a.eval (.tmp 57) = .slice (some ⟨g8, 0, none⟩) 5 5), (f58 : a.eval (.tmp 58) = .int .i64 2), -⟩ := hf
      exact sg_plain rfl (or_index (j := 2) tl41 f57 f58 rfl (by decide) rfl (by rfl))
    refine steps_cons (fun own a wx hf hs hE hO => ?_) ?_
    · obtain ⟨(f76 : a.eval (.tmp 76) = .pointer (some ⟨g8, 4, none⟩)), (f75 : a.eval (.tmp 75) = .agg #[.int .i64 (cx + gx), .int .i64 (cy + gy)]), ⟨og8, bg8⟩, -⟩ := hf
      exact sg_plain rfl (or_store (l := #[.int .i64 (cx + gx), .int .i64 (cy + gy)]) ts29 rfl f76 f75 bg8 (by simp) (by kernel_rfl) (by rw [og8]; decide) (by kernel_rfl) (fun own' a' w' ho ha hb => ⟨ho, hb⟩))
    exact steps_nil
  intro owna139 a139 w140 hda139 hza139 hsa139 hfa139 hEa139 hOa139 hpa139
  have ea139_10 : a139.eval (.tmp 10) = .bool false := (hsa139 10 rfl).trans ea135_10
  have ea139_5 : a139.eval (.tmp 5) = .pointer (some ⟨g1, 0, none⟩) := (hsa139 5 rfl).trans ea135_5
  have ea139_6 : a139.eval (.tmp 6) = .pointer (some ⟨g2, 0, none⟩) := (hsa139 6 rfl).trans ea135_6
  have ea139_7 : a139.eval (.tmp 7) = .pointer (some ⟨g3, 0, none⟩) := (hsa139 7 rfl).trans ea135_7
  have ea139_8 : a139.eval (.tmp 8) = .pointer (some ⟨g4, 0, none⟩) := (hsa139 8 rfl).trans ea135_8
  have ea139_9 : a139.eval (.tmp 9) = .pointer (some ⟨g5, 0, none⟩) := (hsa139 9 rfl).trans ea135_9
  have ea139_11 : a139.eval (.tmp 11) = .slice (some ⟨g8, 0, none⟩) 5 5 := (hsa139 11 rfl).trans ea135_11
  have ea139_13 : a139.eval (.tmp 13) = .int .i64 2 := (hsa139 13 rfl).trans ea135_13
  have ea139_54 : a139.eval (.tmp 54) = .bool true := (hsa139 54 rfl).trans ea135_54
  obtain ⟨⟨og8_a139, (bg8_w140 : Blk w140 g8 29 #[.int .i64 (ax + gx), .int .i64 (ay + gy), .int .i64 (bx + gx), .int .i64 (bY + gy), .int .i64 (cx + gx), .int .i64 (cy + gy), .int .i64 px, .int .i64 py, .int .i64 gx, .int .i64 gy])⟩, -⟩ := hfa139 [20] rfl
  have hNa139 : Ext (fun b => b = g8) w130 w140 := hEa139.mono_ (fun b h => by
    by_cases h0 : b = g8
    · exact h0
    exact absurd (by show (if b = g8 then 21 else 22) = 22; exact ((if_neg h0).trans rfl)) h)
  have bg1_w140 := hNa139.blk bg1_w130 (fun h => (fun h => by omega) h)
  have bg2_w140 := hNa139.blk bg2_w130 (fun h => (fun h => by omega) h)
  have bg3_w140 := hNa139.blk bg3_w130 (fun h => (fun h => by omega) h)
  have bg4_w140 := hNa139.blk bg4_w130 (fun h => (fun h => by omega) h)
  have bg5_w140 := hNa139.blk bg5_w130 (fun h => (fun h => by omega) h)
  have hXw140_w := hXw130_w.trans_ hNa139 (fun b hb h1 h => (fun h3 => by omega) h)
  have hBw140 : Below w.heap.size w w140 := hXw140_w.below (Nat.le_refl _) (fun _ _ h => h)
  clear hEa139 hOa139 hpa139 hfa139 hsa139
  refine hn138 _ _ ?_
  refine hn137 _ _ ?_
  refine rg_plain (n := 163) (pu := true) (kl := []) (rs := []) (oth := 3) (own0 := (fun _ => 3))
      (bs := [0, 1, 3])
      (ds := [⟨[], [13], Fct.val 0 55 (.int .i64 2)⟩,
      ⟨[0], [], Fct.val 1 56 (.int .i64 3)⟩,
      ⟨[1], [], Fct.val 2 13 (.int .i64 3)⟩]) (by kernel_rfl) hza139 hda139 (fun _ h => nomatch h) ?_ ?_
  · refine steps_cons (fun own a wx hf hs hE hO => ?_) ?_
    · obtain ⟨s13, -⟩ := hs
      exact sg_plain rfl (or_move (s13.trans ea139_13))
    refine steps_cons (fun own a wx hf hs hE hO => ?_) ?_
    · obtain ⟨(f55 : a.eval (.tmp 55) = .int .i64 2), -⟩ := hf
      exact sg_plain rfl (or_add f55 rfl (by decide))
    refine steps_cons (fun own a wx hf hs hE hO => ?_) ?_
    · obtain ⟨(f56 : a.eval (.tmp 56) = .int .i64 3), -⟩ := hf
      exact sg_plain rfl (or_assign f56)
    exact steps_nil
  intro owna141 a141 w142 hda141 hza141 hsa141 hfa141 hEa141 hOa141 hpa141
  have ea141_10 : a141.eval (.tmp 10) = .bool false := (hsa141 10 rfl).trans ea139_10
  have ea141_5 : a141.eval (.tmp 5) = .pointer (some ⟨g1, 0, none⟩) := (hsa141 5 rfl).trans ea139_5
  have ea141_6 : a141.eval (.tmp 6) = .pointer (some ⟨g2, 0, none⟩) := (hsa141 6 rfl).trans ea139_6
  have ea141_7 : a141.eval (.tmp 7) = .pointer (some ⟨g3, 0, none⟩) := (hsa141 7 rfl).trans ea139_7
  have ea141_8 : a141.eval (.tmp 8) = .pointer (some ⟨g4, 0, none⟩) := (hsa141 8 rfl).trans ea139_8
  have ea141_9 : a141.eval (.tmp 9) = .pointer (some ⟨g5, 0, none⟩) := (hsa141 9 rfl).trans ea139_9
  have ea141_11 : a141.eval (.tmp 11) = .slice (some ⟨g8, 0, none⟩) 5 5 := (hsa141 11 rfl).trans ea139_11
  have ea141_54 : a141.eval (.tmp 54) = .bool true := (hsa141 54 rfl).trans ea139_54
  obtain ⟨(ea141_13 : a141.eval (.tmp 13) = .int .i64 3), -⟩ := hfa141 [2] rfl
  have hwa141 : w140 = w142 := (hpa141 rfl).symm
  clear hEa141 hOa141 hpa141 hfa141 hsa141
  subst hwa141
  refine hn133 _ _ ?_
  refine fl_round (fun Q143 hn143 hp143 => ?_)
  refine fl_seq (fun Q144 hn144 hp144 => ?_)
  refine rg_plain_seq (n := 163) (pu := true) (kl := []) (rs := []) (oth := 2) (own0 := (fun _ => 2))
      (bs := [0, 1])
      (ds := [⟨[], [13], Fct.val 0 53 (.int .i64 3)⟩,
      ⟨[0], [], Fct.val 1 54 (.bool true)⟩]) (by kernel_rfl) hza141 hda141 (fun _ h => nomatch h) ?_ ?_
  · refine steps_cons (fun own a wx hf hs hE hO => ?_) ?_
    · obtain ⟨s13, -⟩ := hs
      exact sg_plain rfl (or_move (s13.trans ea141_13))
    refine steps_cons (fun own a wx hf hs hE hO => ?_) ?_
    · obtain ⟨(f53 : a.eval (.tmp 53) = .int .i64 3), -⟩ := hf
      exact sg_plain rfl (or_lss f53 rfl (by decide))
    exact steps_nil
  intro owna145 a145 w146 hda145 hza145 hsa145 hfa145 hEa145 hOa145 hpa145
  have ea145_10 : a145.eval (.tmp 10) = .bool false := (hsa145 10 rfl).trans ea141_10
  have ea145_5 : a145.eval (.tmp 5) = .pointer (some ⟨g1, 0, none⟩) := (hsa145 5 rfl).trans ea141_5
  have ea145_6 : a145.eval (.tmp 6) = .pointer (some ⟨g2, 0, none⟩) := (hsa145 6 rfl).trans ea141_6
  have ea145_7 : a145.eval (.tmp 7) = .pointer (some ⟨g3, 0, none⟩) := (hsa145 7 rfl).trans ea141_7
  have ea145_8 : a145.eval (.tmp 8) = .pointer (some ⟨g4, 0, none⟩) := (hsa145 8 rfl).trans ea141_8
  have ea145_9 : a145.eval (.tmp 9) = .pointer (some ⟨g5, 0, none⟩) := (hsa145 9 rfl).trans ea141_9
  have ea145_11 : a145.eval (.tmp 11) = .slice (some ⟨g8, 0, none⟩) 5 5 := (hsa145 11 rfl).trans ea141_11
  have ea145_13 : a145.eval (.tmp 13) = .int .i64 3 := (hsa145 13 rfl).trans ea141_13
  obtain ⟨(ea145_54 : a145.eval (.tmp 54) = .bool true), -⟩ := hfa145 [1] rfl
  have hwa145 : w140 = w146 := (hpa145 rfl).symm
  clear hEa145 hOa145 hpa145 hfa145 hsa145
  subst hwa145
  refine wp_cond_true ea145_54 ?_
  refine fl_skip ?_
  refine hn144 _ _ ?_
  refine fl_seq (fun Q147 hn147 hp147 => ?_)
  refine fl_block (fun Q148 hn148 hx148 hp148 => ?_)
  have qog8 : ((fun b => if b = g8 then 21 else 22) : Own) g8 = 21 := by show (if g8 = g8 then 21 else 22) = 21; exact (if_pos rfl)
  have qg5 : ¬ (((fun b => if b = g8 then 21 else 22) : Own) g5 ≠ 22) := fun h => h (by show (if g5 = g8 then 21 else 22) = 22; exact ((if_neg (fun h => by omega)).trans rfl))
  have qB : ∀ b, b < w.heap.size → ¬ (((fun b => if b = g8 then 21 else 22) : Own) b ≠ 22) := fun b hb h => h (by show (if b = g8 then 21 else 22) = 22; exact ((if_neg (by omega)).trans rfl))
  refine rg_draw g_mixed (n := 163) (pu := false) (kl := [(20, 21)]) (rs := [Fct.at_ 21 g8 29 #[.int .i64 (ax + gx), .int .i64 (ay + gy), .int .i64 (bx + gx), .int .i64 (bY + gy), .int .i64 (cx + gx), .int .i64 (cy + gy), .int .i64 px, .int .i64 py, .int .i64 gx, .int .i64 gy]]) (oth := 22) (own0 := (fun b => if b = g8 then 21 else 22))
      (bs := [0, 0, 0, 0, 12, 28, 60, 0, 128, 508, 0, 0, 3072, 7168, 15360, 0, 32768, 130048, 262140, 524287, 1048575])
      (ds := [⟨[], [11], Fct.val 0 57 (.slice (some ⟨g8, 0, none⟩) 5 5)⟩,
      ⟨[], [13], Fct.val 1 58 (.int .i64 3)⟩,
      ⟨[], [11], Fct.val 2 59 (.slice (some ⟨g8, 0, none⟩) 5 5)⟩,
      ⟨[], [13], Fct.val 3 60 (.int .i64 3)⟩,
      ⟨[2, 3], [], Fct.val 4 61 (.pointer (some ⟨g8, 6, none⟩))⟩,
      ⟨[4], [], Fct.val 5 62 (.pointer (some ⟨g8, 6, none⟩))⟩,
      ⟨[5, 21], [], Fct.val 6 63 (.int .i64 px)⟩,
      ⟨[], [9], Fct.val 7 64 (.pointer (some ⟨g5, 0, none⟩))⟩,
      ⟨[7], [], Fct.val 8 65 (.int .i64 gx)⟩,
      ⟨[6, 8], [], Fct.val 9 66 (.int .i64 (px + gx))⟩,
      ⟨[], [11], Fct.val 10 67 (.slice (some ⟨g8, 0, none⟩) 5 5)⟩,
      ⟨[], [13], Fct.val 11 68 (.int .i64 3)⟩,
      ⟨[10, 11], [], Fct.val 12 69 (.pointer (some ⟨g8, 6, none⟩))⟩,
      ⟨[12], [], Fct.val 13 70 (.pointer (some ⟨g8, 7, none⟩))⟩,
      ⟨[13, 21], [], Fct.val 14 71 (.int .i64 py)⟩,
      ⟨[], [9], Fct.val 15 72 (.pointer (some ⟨g5, 1, none⟩))⟩,
      ⟨[15], [], Fct.val 16 73 (.int .i64 gy)⟩,
      ⟨[14, 16], [], Fct.val 17 74 (.int .i64 (py + gy))⟩,
      ⟨[9, 17], [], Fct.val 18 75 (.agg #[.int .i64 (px + gx), .int .i64 (py + gy)])⟩,
      ⟨[0, 1], [], Fct.val 19 76 (.pointer (some ⟨g8, 6, none⟩))⟩,
      ⟨[19, 18, 21], [], Fct.at_ 20 g8 29 #[.int .i64 (ax + gx), .int .i64 (ay + gy), .int .i64 (bx + gx), .int .i64 (bY + gy), .int .i64 (cx + gx), .int .i64 (cy + gy), .int .i64 (px + gx), .int .i64 (py + gy), .int .i64 gx, .int .i64 gy]⟩]) (by kernel_rfl) hza145 hda145 (by simp only [List.forall_mem_cons]; exact ⟨⟨qog8, bg8_w140⟩, fun _ h => nomatch h⟩) ?_ ?_
  · refine steps_cons (fun own a wx hf hs hE hO => ?_) ?_
    · obtain ⟨s11, -⟩ := hs
      exact sg_plain rfl (or_move (s11.trans ea145_11))
    refine steps_cons (fun own a wx hf hs hE hO => ?_) ?_
    · obtain ⟨s13, -⟩ := hs
      exact sg_plain rfl (or_move (s13.trans ea145_13))
    refine steps_cons (fun own a wx hf hs hE hO => ?_) ?_
    · obtain ⟨s11, -⟩ := hs
      exact sg_plain rfl (or_move (s11.trans ea145_11))
    refine steps_cons (fun own a wx hf hs hE hO => ?_) ?_
    · obtain ⟨s13, -⟩ := hs
      exact sg_plain rfl (or_move (s13.trans ea145_13))
    refine steps_cons (fun own a wx hf hs hE hO => ?_) ?_
    · obtain ⟨(f59 : a.eval (.tmp 59) = .slice (some ⟨g8, 0, none⟩) 5 5), (f60 : a.eval (.tmp 60) = .int .i64 3), -⟩ := hf
      exact sg_plain rfl (or_index (j := 3) tl41 f59 f60 rfl (by decide) rfl (by rfl))
    refine steps_cons (fun own a wx hf hs hE hO => ?_) ?_
    · obtain ⟨(f61 : a.eval (.tmp 61) = .pointer (some ⟨g8, 6, none⟩)), -⟩ := hf
      exact sg_plain rfl (or_field fo29_0 f61 (by rfl))
    refine steps_cons (fun own a wx hf hs hE hO => ?_) ?_
    · obtain ⟨(f62 : a.eval (.tmp 62) = .pointer (some ⟨g8, 6, none⟩)), ⟨og8, bg8⟩, -⟩ := hf
      exact sg_plain rfl (or_load1 to3 f62 (Blk.at_ bg8 6 rfl))
    refine steps_cons (fun own a wx hf hs hE hO => ?_) ?_
    · obtain ⟨s9, -⟩ := hs
      exact sg_plain rfl (or_field fo29_0 (s9.trans ea145_9) (by rfl))
    refine steps_cons (fun own a wx hf hs hE hO => ?_) ?_
    · obtain ⟨(f64 : a.eval (.tmp 64) = .pointer (some ⟨g5, 0, none⟩)), -⟩ := hf
      exact sg_plain rfl (or_load1 to3 f64 (Blk.at_ (hE.blk bg5_w140 qg5) 0 rfl))
    refine steps_cons (fun own a wx hf hs hE hO => ?_) ?_
    · obtain ⟨(f63 : a.eval (.tmp 63) = .int .i64 px), (f65 : a.eval (.tmp 65) = .int .i64 gx), -⟩ := hf
      exact sg_plain rfl (or_add f63 f65 (w64 (by omega)))
    refine steps_cons (fun own a wx hf hs hE hO => ?_) ?_
    · obtain ⟨s11, -⟩ := hs
      exact sg_plain rfl (or_move (s11.trans ea145_11))
    refine steps_cons (fun own a wx hf hs hE hO => ?_) ?_
    · obtain ⟨s13, -⟩ := hs
      exact sg_plain rfl (or_move (s13.trans ea145_13))
    refine steps_cons (fun own a wx hf hs hE hO => ?_) ?_
    · obtain ⟨(f67 : a.eval (.tmp 67) = .slice (some ⟨g8, 0, none⟩) 5 5), (f68 : a.eval (.tmp 68) = .int .i64 3), -⟩ := hf
      exact sg_plain rfl (or_index (j := 3) tl41 f67 f68 rfl (by decide) rfl (by rfl))
    refine steps_cons (fun own a wx hf hs hE hO => ?_) ?_
    · obtain ⟨(f69 : a.eval (.tmp 69) = .pointer (some ⟨g8, 6, none⟩)), -⟩ := hf
      exact sg_plain rfl (or_field fo29_1 f69 (by rfl))
    refine steps_cons (fun own a wx hf hs hE hO => ?_) ?_
    · obtain ⟨(f70 : a.eval (.tmp 70) = .pointer (some ⟨g8, 7, none⟩)), ⟨og8, bg8⟩, -⟩ := hf
      exact sg_plain rfl (or_load1 to3 f70 (Blk.at_ bg8 7 rfl))
    refine steps_cons (fun own a wx hf hs hE hO => ?_) ?_
    · obtain ⟨s9, -⟩ := hs
      exact sg_plain rfl (or_field fo29_1 (s9.trans ea145_9) (by rfl))
    refine steps_cons (fun own a wx hf hs hE hO => ?_) ?_
    · obtain ⟨(f72 : a.eval (.tmp 72) = .pointer (some ⟨g5, 1, none⟩)), -⟩ := hf
      exact sg_plain rfl (or_load1 to3 f72 (Blk.at_ (hE.blk bg5_w140 qg5) 1 rfl))
    refine steps_cons (fun own a wx hf hs hE hO => ?_) ?_
    · obtain ⟨(f71 : a.eval (.tmp 71) = .int .i64 py), (f73 : a.eval (.tmp 73) = .int .i64 gy), -⟩ := hf
      exact sg_plain rfl (or_add f71 f73 (w64 (by omega)))
    refine steps_cons (fun own a wx hf hs hE hO => ?_) ?_
    · obtain ⟨(f66 : a.eval (.tmp 66) = .int .i64 (px + gx)), (f74 : a.eval (.tmp 74) = .int .i64 (py + gy)), -⟩ := hf
      exact sg_plain rfl (or_k [(66, .int .i64 (px + gx)), (74, .int .i64 (py + gy))] rfl rfl ⟨f66, f74, trivial⟩ (by kernel_rfl))
    refine steps_cons (fun own a wx hf hs hE hO => ?_) ?_
    · obtain ⟨(f57 : a.eval (.tmp 57) = .slice (some ⟨g8, 0, none⟩) 5 5), (f58 : a.eval (.tmp 58) = .int .i64 3), -⟩ := hf
      exact sg_plain rfl (or_index (j := 3) tl41 f57 f58 rfl (by decide) rfl (by rfl))
    refine steps_cons (fun own a wx hf hs hE hO => ?_) ?_
    · obtain ⟨(f76 : a.eval (.tmp 76) = .pointer (some ⟨g8, 6, none⟩)), (f75 : a.eval (.tmp 75) = .agg #[.int .i64 (px + gx), .int .i64 (py + gy)]), ⟨og8, bg8⟩, -⟩ := hf
      exact sg_plain rfl (or_store (l := #[.int .i64 (px + gx), .int .i64 (py + gy)]) ts29 rfl f76 f75 bg8 (by simp) (by kernel_rfl) (by rw [og8]; decide) (by kernel_rfl) (fun own' a' w' ho ha hb => ⟨ho, hb⟩))
    exact steps_nil
  intro owna149 a149 w150 hda149 hza149 hsa149 hfa149 hEa149 hOa149 hpa149
  have ea149_10 : a149.eval (.tmp 10) = .bool false := (hsa149 10 rfl).trans ea145_10
  have ea149_5 : a149.eval (.tmp 5) = .pointer (some ⟨g1, 0, none⟩) := (hsa149 5 rfl).trans ea145_5
  have ea149_6 : a149.eval (.tmp 6) = .pointer (some ⟨g2, 0, none⟩) := (hsa149 6 rfl).trans ea145_6
  have ea149_7 : a149.eval (.tmp 7) = .pointer (some ⟨g3, 0, none⟩) := (hsa149 7 rfl).trans ea145_7
  have ea149_8 : a149.eval (.tmp 8) = .pointer (some ⟨g4, 0, none⟩) := (hsa149 8 rfl).trans ea145_8
  have ea149_9 : a149.eval (.tmp 9) = .pointer (some ⟨g5, 0, none⟩) := (hsa149 9 rfl).trans ea145_9
  have ea149_11 : a149.eval (.tmp 11) = .slice (some ⟨g8, 0, none⟩) 5 5 := (hsa149 11 rfl).trans ea145_11
  have ea149_13 : a149.eval (.tmp 13) = .int .i64 3 := (hsa149 13 rfl).trans ea145_13
  have ea149_54 : a149.eval (.tmp 54) = .bool true := (hsa149 54 rfl).trans ea145_54
  obtain ⟨⟨og8_a149, (bg8_w150 : Blk w150 g8 29 #[.int .i64 (ax + gx), .int .i64 (ay + gy), .int .i64 (bx + gx), .int .i64 (bY + gy), .int .i64 (cx + gx), .int .i64 (cy + gy), .int .i64 (px + gx), .int .i64 (py + gy), .int .i64 gx, .int .i64 gy])⟩, -⟩ := hfa149 [20] rfl
  have hNa149 : Ext (fun b => b = g8) w140 w150 := hEa149.mono_ (fun b h => by
    by_cases h0 : b = g8
    · exact h0
    exact absurd (by show (if b = g8 then 21 else 22) = 22; exact ((if_neg h0).trans rfl)) h)
  have bg1_w150 := hNa149.blk bg1_w140 (fun h => (fun h => by omega) h)
  have bg2_w150 := hNa149.blk bg2_w140 (fun h => (fun h => by omega) h)
  have bg3_w150 := hNa149.blk bg3_w140 (fun h => (fun h => by omega) h)
  have bg4_w150 := hNa149.blk bg4_w140 (fun h => (fun h => by omega) h)
  have bg5_w150 := hNa149.blk bg5_w140 (fun h => (fun h => by omega) h)
  have hXw150_w := hXw140_w.trans_ hNa149 (fun b hb h1 h => (fun h3 => by omega) h)
  have hBw150 : Below w.heap.size w w150 := hXw150_w.below (Nat.le_refl _) (fun _ _ h => h)
  clear hEa149 hOa149 hpa149 hfa149 hsa149
  refine hn148 _ _ ?_
  refine hn147 _ _ ?_
  refine rg_plain (n := 163) (pu := true) (kl := []) (rs := []) (oth := 3) (own0 := (fun _ => 3))
      (bs := [0, 1, 3])
      (ds := [⟨[], [13], Fct.val 0 55 (.int .i64 3)⟩,
      ⟨[0], [], Fct.val 1 56 (.int .i64 4)⟩,
      ⟨[1], [], Fct.val 2 13 (.int .i64 4)⟩]) (by kernel_rfl) hza149 hda149 (fun _ h => nomatch h) ?_ ?_
  · refine steps_cons (fun own a wx hf hs hE hO => ?_) ?_
    · obtain ⟨s13, -⟩ := hs
      exact sg_plain rfl (or_move (s13.trans ea149_13))
    refine steps_cons (fun own a wx hf hs hE hO => ?_) ?_
    · obtain ⟨(f55 : a.eval (.tmp 55) = .int .i64 3), -⟩ := hf
      exact sg_plain rfl (or_add f55 rfl (by decide))
    refine steps_cons (fun own a wx hf hs hE hO => ?_) ?_
    · obtain ⟨(f56 : a.eval (.tmp 56) = .int .i64 4), -⟩ := hf
      exact sg_plain rfl (or_assign f56)
    exact steps_nil
  intro owna151 a151 w152 hda151 hza151 hsa151 hfa151 hEa151 hOa151 hpa151
  have ea151_10 : a151.eval (.tmp 10) = .bool false := (hsa151 10 rfl).trans ea149_10
  have ea151_5 : a151.eval (.tmp 5) = .pointer (some ⟨g1, 0, none⟩) := (hsa151 5 rfl).trans ea149_5
  have ea151_6 : a151.eval (.tmp 6) = .pointer (some ⟨g2, 0, none⟩) := (hsa151 6 rfl).trans ea149_6
  have ea151_7 : a151.eval (.tmp 7) = .pointer (some ⟨g3, 0, none⟩) := (hsa151 7 rfl).trans ea149_7
  have ea151_8 : a151.eval (.tmp 8) = .pointer (some ⟨g4, 0, none⟩) := (hsa151 8 rfl).trans ea149_8
  have ea151_9 : a151.eval (.tmp 9) = .pointer (some ⟨g5, 0, none⟩) := (hsa151 9 rfl).trans ea149_9
  have ea151_11 : a151.eval (.tmp 11) = .slice (some ⟨g8, 0, none⟩) 5 5 := (hsa151 11 rfl).trans ea149_11
  have ea151_54 : a151.eval (.tmp 54) = .bool true := (hsa151 54 rfl).trans ea149_54
  obtain ⟨(ea151_13 : a151.eval (.tmp 13) = .int .i64 4), -⟩ := hfa151 [2] rfl
  have hwa151 : w150 = w152 := (hpa151 rfl).symm
  clear hEa151 hOa151 hpa151 hfa151 hsa151
  subst hwa151
  refine hn143 _ _ ?_
  refine fl_round (fun Q153 hn153 hp153 => ?_)
  refine fl_seq (fun Q154 hn154 hp154 => ?_)
  refine rg_plain_seq (n := 163) (pu := true) (kl := []) (rs := []) (oth := 2) (own0 := (fun _ => 2))
      (bs := [0, 1])
      (ds := [⟨[], [13], Fct.val 0 53 (.int .i64 4)⟩,
      ⟨[0], [], Fct.val 1 54 (.bool false)⟩]) (by kernel_rfl) hza151 hda151 (fun _ h => nomatch h) ?_ ?_
  · refine steps_cons (fun own a wx hf hs hE hO => ?_) ?_
    · obtain ⟨s13, -⟩ := hs
      exact sg_plain rfl (or_move (s13.trans ea151_13))
    refine steps_cons (fun own a wx hf hs hE hO => ?_) ?_
    · obtain ⟨(f53 : a.eval (.tmp 53) = .int .i64 4), -⟩ := hf
      exact sg_plain rfl (or_lss f53 rfl (by decide))
    exact steps_nil
  intro owna155 a155 w156 hda155 hza155 hsa155 hfa155 hEa155 hOa155 hpa155
  have ea155_10 : a155.eval (.tmp 10) = .bool false := (hsa155 10 rfl).trans ea151_10
  have ea155_5 : a155.eval (.tmp 5) = .pointer (some ⟨g1, 0, none⟩) := (hsa155 5 rfl).trans ea151_5
  have ea155_6 : a155.eval (.tmp 6) = .pointer (some ⟨g2, 0, none⟩) := (hsa155 6 rfl).trans ea151_6
  have ea155_7 : a155.eval (.tmp 7) = .pointer (some ⟨g3, 0, none⟩) := (hsa155 7 rfl).trans ea151_7
  have ea155_8 : a155.eval (.tmp 8) = .pointer (some ⟨g4, 0, none⟩) := (hsa155 8 rfl).trans ea151_8
  have ea155_9 : a155.eval (.tmp 9) = .pointer (some ⟨g5, 0, none⟩) := (hsa155 9 rfl).trans ea151_9
  have ea155_11 : a155.eval (.tmp 11) = .slice (some ⟨g8, 0, none⟩) 5 5 := (hsa155 11 rfl).trans ea151_11
  have ea155_13 : a155.eval (.tmp 13) = .int .i64 4 := (hsa155 13 rfl).trans ea151_13
  obtain ⟨(ea155_54 : a155.eval (.tmp 54) = .bool false), -⟩ := hfa155 [1] rfl
  have hwa155 : w150 = w156 := (hpa155 rfl).symm
  clear hEa155 hOa155 hpa155 hfa155 hsa155
  subst hwa155
  refine wp_cond_false ea155_54 ?_
  refine fl_exit ?_
  refine hp154 _ _ _ rfl ?_
  refine hp153 _ _ _ rfl ?_
  refine hx112 _ _ ?_
  refine hn109 _ _ ?_
  dsimp only [List.append]
  refine rg_draw_seq g_mixed (n := 163) (pu := false) (kl := []) (rs := []) (oth := 87) (own0 := (fun _ => 87))
      (bs := [0, 1, 3, 7, 15, 3, 35, 99, 3, 259, 771, 2047, 3, 3, 3, 32767, 65535, 131071, 262143, 524287, 1048575, 2097151, 524287, 4718591, 13107199, 524287, 34078719, 101187583, 268435455, 524287, 524287, 524287, 4294967295, 8589934591, 17179869183, 34359738367, 68719476735, 137438953471, 274877906943, 68719476735, 618475290623, 1717986918399, 68719476735, 4466765987839, 13262859010047, 35184372088831, 68719476735, 68719476735, 68719476735, 562949953421311, 1125899906842623, 2251799813685247, 4503599627370495, 9007199254740991, 18014398509481983, 36028797018963967, 9007199254740991, 81064793292668927, 225179981368524799, 9007199254740991, 585467951558164479, 1738389456165011455, 9007199254740991, 4620693217682128895, 13844065254536904703, 36893488147419103231, 9007199254740991, 9007199254740991, 9007199254740991, 9007199254740991, 1180591620717411303423, 2361183241434822606847, 4722366482869645213695, 9444732965739290427391, 18889465931478580854783, 37778931862957161709567, 75557863725914323419135, 18889465931478580854783, 170005193383307227693055, 472236648286964521369599, 1208925819614629174706175, 18889465931478580854783, 18889465931478580854783, 9671406556917033397649407, 19342813113834066795298815, 38685626227668133590597631, 77371252455336267181195263])
      (ds := [⟨[], [], Fct.val 0 77 (.bool true)⟩,
      ⟨[0], [], Fct.val 1 78 (.bool true)⟩,
      ⟨[1], [11], Fct.val 2 79 (.slice (some ⟨g8, 0, none⟩) 5 5)⟩,
      ⟨[1, 2], [], Fct.val 3 80 (.pointer (some ⟨g8, 0, none⟩))⟩,
      ⟨[1, 3], [], Fct.val 4 81 (.agg #[.int .i64 (ax + gx), .int .i64 (ay + gy)])⟩,
      ⟨[1], [11], Fct.val 5 82 (.slice (some ⟨g8, 0, none⟩) 5 5)⟩,
      ⟨[1, 5], [], Fct.val 6 83 (.pointer (some ⟨g8, 2, none⟩))⟩,
      ⟨[1, 6], [], Fct.val 7 84 (.agg #[.int .i64 (bx + gx), .int .i64 (bY + gy)])⟩,
      ⟨[1], [11], Fct.val 8 85 (.slice (some ⟨g8, 0, none⟩) 5 5)⟩,
      ⟨[1, 8], [], Fct.val 9 86 (.pointer (some ⟨g8, 4, none⟩))⟩,
      ⟨[1, 9], [], Fct.val 10 87 (.agg #[.int .i64 (cx + gx), .int .i64 (cy + gy)])⟩,
      ⟨[1, 4, 7, 10], [], Fct.val 11 88 (.int .i64 (cross (ax + gx, ay + gy) (bx + gx, bY + gy) (cx + gx, cy + gy)))⟩,
      ⟨[1], [5], Fct.val 12 89 (.agg #[.int .i64 ax, .int .i64 ay])⟩,
      ⟨[1], [6], Fct.val 13 90 (.agg #[.int .i64 bx, .int .i64 bY])⟩,
      ⟨[1], [7], Fct.val 14 91 (.agg #[.int .i64 cx, .int .i64 cy])⟩,
      ⟨[1, 12, 13, 14], [], Fct.val 15 92 (.int .i64 (cross (ax, ay) (bx, bY) (cx, cy)))⟩,
      ⟨[1, 11, 15], [], Fct.val 16 93 (.bool true)⟩,
      ⟨[1, 16], [], Fct.val 17 94 (.bool true)⟩,
      ⟨[17], [], Fct.val 18 95 (.bool true)⟩,
      ⟨[18], [11], Fct.val 19 96 (.slice (some ⟨g8, 0, none⟩) 5 5)⟩,
      ⟨[18, 19], [], Fct.val 20 97 (.pointer (some ⟨g8, 0, none⟩))⟩,
      ⟨[18, 20], [], Fct.val 21 98 (.agg #[.int .i64 (ax + gx), .int .i64 (ay + gy)])⟩,
      ⟨[18], [11], Fct.val 22 99 (.slice (some ⟨g8, 0, none⟩) 5 5)⟩,
      ⟨[18, 22], [], Fct.val 23 100 (.pointer (some ⟨g8, 2, none⟩))⟩,
      ⟨[18, 23], [], Fct.val 24 101 (.agg #[.int .i64 (bx + gx), .int .i64 (bY + gy)])⟩,
      ⟨[18], [11], Fct.val 25 102 (.slice (some ⟨g8, 0, none⟩) 5 5)⟩,
      ⟨[18, 25], [], Fct.val 26 103 (.pointer (some ⟨g8, 6, none⟩))⟩,
      ⟨[18, 26], [], Fct.val 27 104 (.agg #[.int .i64 (px + gx), .int .i64 (py + gy)])⟩,
      ⟨[18, 21, 24, 27], [], Fct.val 28 105 (.int .i64 (turn (ax + gx, ay + gy) (bx + gx, bY + gy) (px + gx, py + gy)))⟩,
      ⟨[18], [5], Fct.val 29 106 (.agg #[.int .i64 ax, .int .i64 ay])⟩,
      ⟨[18], [6], Fct.val 30 107 (.agg #[.int .i64 bx, .int .i64 bY])⟩,
      ⟨[18], [8], Fct.val 31 108 (.agg #[.int .i64 px, .int .i64 py])⟩,
      ⟨[18, 29, 30, 31], [], Fct.val 32 109 (.int .i64 (turn (ax, ay) (bx, bY) (px, py)))⟩,
      ⟨[18, 28, 32], [], Fct.val 33 110 (.bool true)⟩,
      ⟨[18, 33], [], Fct.val 34 111 (.bool true)⟩,
      ⟨[34], [], Fct.val 35 112 (.bool true)⟩,
      ⟨[35], [11], Fct.val 36 113 (.slice (some ⟨g8, 0, none⟩) 5 5)⟩,
      ⟨[35, 36], [], Fct.val 37 114 (.pointer (some ⟨g8, 0, none⟩))⟩,
      ⟨[35, 37], [], Fct.val 38 115 (.agg #[.int .i64 (ax + gx), .int .i64 (ay + gy)])⟩,
      ⟨[35], [11], Fct.val 39 116 (.slice (some ⟨g8, 0, none⟩) 5 5)⟩,
      ⟨[35, 39], [], Fct.val 40 117 (.pointer (some ⟨g8, 2, none⟩))⟩,
      ⟨[35, 40], [], Fct.val 41 118 (.agg #[.int .i64 (bx + gx), .int .i64 (bY + gy)])⟩,
      ⟨[35], [11], Fct.val 42 119 (.slice (some ⟨g8, 0, none⟩) 5 5)⟩,
      ⟨[35, 42], [], Fct.val 43 120 (.pointer (some ⟨g8, 6, none⟩))⟩,
      ⟨[35, 43], [], Fct.val 44 121 (.agg #[.int .i64 (px + gx), .int .i64 (py + gy)])⟩,
      ⟨[35, 38, 41, 44], [], Fct.val 45 122 (.bool (onB (ax + gx, ay + gy) (bx + gx, bY + gy) (px + gx, py + gy)))⟩,
      ⟨[35], [5], Fct.val 46 123 (.agg #[.int .i64 ax, .int .i64 ay])⟩,
      ⟨[35], [6], Fct.val 47 124 (.agg #[.int .i64 bx, .int .i64 bY])⟩,
      ⟨[35], [8], Fct.val 48 125 (.agg #[.int .i64 px, .int .i64 py])⟩,
      ⟨[35, 46, 47, 48], [], Fct.val 49 126 (.bool (onB (ax, ay) (bx, bY) (px, py)))⟩,
      ⟨[35, 45, 49], [], Fct.val 50 127 (.bool true)⟩,
      ⟨[35, 50], [], Fct.val 51 128 (.bool true)⟩,
      ⟨[51], [], Fct.val 52 129 (.bool true)⟩,
      ⟨[52], [11], Fct.val 53 130 (.slice (some ⟨g8, 0, none⟩) 5 5)⟩,
      ⟨[52, 53], [], Fct.val 54 131 (.pointer (some ⟨g8, 0, none⟩))⟩,
      ⟨[52, 54], [], Fct.val 55 132 (.agg #[.int .i64 (ax + gx), .int .i64 (ay + gy)])⟩,
      ⟨[52], [11], Fct.val 56 133 (.slice (some ⟨g8, 0, none⟩) 5 5)⟩,
      ⟨[52, 56], [], Fct.val 57 134 (.pointer (some ⟨g8, 2, none⟩))⟩,
      ⟨[52, 57], [], Fct.val 58 135 (.agg #[.int .i64 (bx + gx), .int .i64 (bY + gy)])⟩,
      ⟨[52], [11], Fct.val 59 136 (.slice (some ⟨g8, 0, none⟩) 5 5)⟩,
      ⟨[52, 59], [], Fct.val 60 137 (.pointer (some ⟨g8, 4, none⟩))⟩,
      ⟨[52, 60], [], Fct.val 61 138 (.agg #[.int .i64 (cx + gx), .int .i64 (cy + gy)])⟩,
      ⟨[52], [11], Fct.val 62 139 (.slice (some ⟨g8, 0, none⟩) 5 5)⟩,
      ⟨[52, 62], [], Fct.val 63 140 (.pointer (some ⟨g8, 6, none⟩))⟩,
      ⟨[52, 63], [], Fct.val 64 141 (.agg #[.int .i64 (px + gx), .int .i64 (py + gy)])⟩,
      ⟨[52, 55, 58, 61, 64], [], Fct.val 65 142 (.bool (intriB (ax + gx, ay + gy) (bx + gx, bY + gy) (cx + gx, cy + gy) (px + gx, py + gy)))⟩,
      ⟨[52], [5], Fct.val 66 143 (.agg #[.int .i64 ax, .int .i64 ay])⟩,
      ⟨[52], [6], Fct.val 67 144 (.agg #[.int .i64 bx, .int .i64 bY])⟩,
      ⟨[52], [7], Fct.val 68 145 (.agg #[.int .i64 cx, .int .i64 cy])⟩,
      ⟨[52], [8], Fct.val 69 146 (.agg #[.int .i64 px, .int .i64 py])⟩,
      ⟨[52, 66, 67, 68, 69], [], Fct.val 70 147 (.bool (intriB (ax, ay) (bx, bY) (cx, cy) (px, py)))⟩,
      ⟨[52, 65, 70], [], Fct.val 71 148 (.bool true)⟩,
      ⟨[52, 71], [], Fct.val 72 149 (.bool true)⟩,
      ⟨[72], [], Fct.val 73 150 (.bool true)⟩,
      ⟨[73], [11], Fct.val 74 151 (.slice (some ⟨g8, 0, none⟩) 5 5)⟩,
      ⟨[73, 74], [], Fct.val 75 152 (.pointer (some ⟨g8, 0, none⟩))⟩,
      ⟨[73, 75], [], Fct.val 76 153 (.agg #[.int .i64 (ax + gx), .int .i64 (ay + gy)])⟩,
      ⟨[73], [11], Fct.val 77 154 (.slice (some ⟨g8, 0, none⟩) 5 5)⟩,
      ⟨[73, 77], [], Fct.val 78 155 (.pointer (some ⟨g8, 2, none⟩))⟩,
      ⟨[73, 78], [], Fct.val 79 156 (.agg #[.int .i64 (bx + gx), .int .i64 (bY + gy)])⟩,
      ⟨[73, 76, 79], [], Fct.val 80 157 (.bool (lessB (ax + gx, ay + gy) (bx + gx, bY + gy)))⟩,
      ⟨[73], [5], Fct.val 81 158 (.agg #[.int .i64 ax, .int .i64 ay])⟩,
      ⟨[73], [6], Fct.val 82 159 (.agg #[.int .i64 bx, .int .i64 bY])⟩,
      ⟨[73, 81, 82], [], Fct.val 83 160 (.bool (lessB (ax, ay) (bx, bY)))⟩,
      ⟨[73, 80, 83], [], Fct.val 84 161 (.bool true)⟩,
      ⟨[73, 84], [], Fct.val 85 162 (.bool true)⟩,
      ⟨[85], [], Fct.val 86 10 (.bool true)⟩]) (by kernel_rfl) hza155 hda155 (fun _ h => nomatch h) ?_ ?_
  · refine steps_cons (fun own a wx hf hs hE hO => ?_) ?_
    · exact sg_plain rfl (or_call cf15 (args0) (known_any _) (post_val rfl))
    refine steps_cons (fun own a wx hf hs hE hO => ?_) ?_
    · obtain ⟨(f77 : a.eval (.tmp 77) = .bool true), -⟩ := hf
      exact sg_plain rfl (or_move f77)
    refine steps_cons (fun own a wx hf hs hE hO => ?_) ?_
    · obtain ⟨(f78 : a.eval (.tmp 78) = .bool true), -⟩ := hf
      obtain ⟨s11, -⟩ := hs
      exact sg_yes rfl rfl f78 (or_move (s11.trans ea155_11))
    refine steps_cons (fun own a wx hf hs hE hO => ?_) ?_
    · obtain ⟨(f78 : a.eval (.tmp 78) = .bool true), (f79 : a.eval (.tmp 79) = .slice (some ⟨g8, 0, none⟩) 5 5), -⟩ := hf
      exact sg_yes rfl rfl f78 (or_index (j := 0) tl41 f79 rfl rfl (by decide) rfl (by rfl))
    refine steps_cons (fun own a wx hf hs hE hO => ?_) ?_
    · obtain ⟨(f78 : a.eval (.tmp 78) = .bool true), (f80 : a.eval (.tmp 80) = .pointer (some ⟨g8, 0, none⟩)), -⟩ := hf
      exact sg_yes rfl rfl f78 (or_load ta29 f80 (Blk.cellsFrom (hE.blk bg8_w150 (fun h => h rfl)) 0 rfl) rfl)
    refine steps_cons (fun own a wx hf hs hE hO => ?_) ?_
    · obtain ⟨(f78 : a.eval (.tmp 78) = .bool true), -⟩ := hf
      obtain ⟨s11, -⟩ := hs
      exact sg_yes rfl rfl f78 (or_move (s11.trans ea155_11))
    refine steps_cons (fun own a wx hf hs hE hO => ?_) ?_
    · obtain ⟨(f78 : a.eval (.tmp 78) = .bool true), (f82 : a.eval (.tmp 82) = .slice (some ⟨g8, 0, none⟩) 5 5), -⟩ := hf
      exact sg_yes rfl rfl f78 (or_index (j := 1) tl41 f82 rfl rfl (by decide) rfl (by rfl))
    refine steps_cons (fun own a wx hf hs hE hO => ?_) ?_
    · obtain ⟨(f78 : a.eval (.tmp 78) = .bool true), (f83 : a.eval (.tmp 83) = .pointer (some ⟨g8, 2, none⟩)), -⟩ := hf
      exact sg_yes rfl rfl f78 (or_load ta29 f83 (Blk.cellsFrom (hE.blk bg8_w150 (fun h => h rfl)) 2 rfl) rfl)
    refine steps_cons (fun own a wx hf hs hE hO => ?_) ?_
    · obtain ⟨(f78 : a.eval (.tmp 78) = .bool true), -⟩ := hf
      obtain ⟨s11, -⟩ := hs
      exact sg_yes rfl rfl f78 (or_move (s11.trans ea155_11))
    refine steps_cons (fun own a wx hf hs hE hO => ?_) ?_
    · obtain ⟨(f78 : a.eval (.tmp 78) = .bool true), (f85 : a.eval (.tmp 85) = .slice (some ⟨g8, 0, none⟩) 5 5), -⟩ := hf
      exact sg_yes rfl rfl f78 (or_index (j := 2) tl41 f85 rfl rfl (by decide) rfl (by rfl))
    refine steps_cons (fun own a wx hf hs hE hO => ?_) ?_
    · obtain ⟨(f78 : a.eval (.tmp 78) = .bool true), (f86 : a.eval (.tmp 86) = .pointer (some ⟨g8, 4, none⟩)), -⟩ := hf
      exact sg_yes rfl rfl f78 (or_load ta29 f86 (Blk.cellsFrom (hE.blk bg8_w150 (fun h => h rfl)) 4 rfl) rfl)
    refine steps_cons (fun own a wx hf hs hE hO => ?_) ?_
    · obtain ⟨(f78 : a.eval (.tmp 78) = .bool true), (f81 : a.eval (.tmp 81) = .agg #[.int .i64 (ax + gx), .int .i64 (ay + gy)]), (f84 : a.eval (.tmp 84) = .agg #[.int .i64 (bx + gx), .int .i64 (bY + gy)]), (f87 : a.eval (.tmp 87) = .agg #[.int .i64 (cx + gx), .int .i64 (cy + gy)]), -⟩ := hf
      exact sg_yes rfl rfl f78 (or_call cf23 (args3 f81 f84 f87) (cross_any _ _ _ _ _ _ _) (post_val rfl))
    refine steps_cons (fun own a wx hf hs hE hO => ?_) ?_
    · obtain ⟨(f78 : a.eval (.tmp 78) = .bool true), -⟩ := hf
      obtain ⟨s5, -⟩ := hs
      exact sg_yes rfl rfl f78 (or_load ta29 (s5.trans ea155_5) (Blk.cellsFrom (hE.blk bg1_w150 (fun h => h rfl)) 0 rfl) rfl)
    refine steps_cons (fun own a wx hf hs hE hO => ?_) ?_
    · obtain ⟨(f78 : a.eval (.tmp 78) = .bool true), -⟩ := hf
      obtain ⟨s6, -⟩ := hs
      exact sg_yes rfl rfl f78 (or_load ta29 (s6.trans ea155_6) (Blk.cellsFrom (hE.blk bg2_w150 (fun h => h rfl)) 0 rfl) rfl)
    refine steps_cons (fun own a wx hf hs hE hO => ?_) ?_
    · obtain ⟨(f78 : a.eval (.tmp 78) = .bool true), -⟩ := hf
      obtain ⟨s7, -⟩ := hs
      exact sg_yes rfl rfl f78 (or_load ta29 (s7.trans ea155_7) (Blk.cellsFrom (hE.blk bg3_w150 (fun h => h rfl)) 0 rfl) rfl)
    refine steps_cons (fun own a wx hf hs hE hO => ?_) ?_
    · obtain ⟨(f78 : a.eval (.tmp 78) = .bool true), (f89 : a.eval (.tmp 89) = .agg #[.int .i64 ax, .int .i64 ay]), (f90 : a.eval (.tmp 90) = .agg #[.int .i64 bx, .int .i64 bY]), (f91 : a.eval (.tmp 91) = .agg #[.int .i64 cx, .int .i64 cy]), -⟩ := hf
      exact sg_yes rfl rfl f78 (or_call cf23 (args3 f89 f90 f91) (cross_any _ _ _ _ _ _ _) (post_val rfl))
    refine steps_cons (fun own a wx hf hs hE hO => ?_) ?_
    · obtain ⟨(f78 : a.eval (.tmp 78) = .bool true), (f88 : a.eval (.tmp 88) = .int .i64 (cross (ax + gx, ay + gy) (bx + gx, bY + gy) (cx + gx, cy + gy))), (f92 : a.eval (.tmp 92) = .int .i64 (cross (ax, ay) (bx, bY) (cx, cy))), -⟩ := hf
      exact sg_yes rfl rfl f78 (or_eql f88 f92 (beq_move (show cross (ax + gx, ay + gy) (bx + gx, bY + gy) (cx + gx, cy + gy) = cross (ax, ay) (bx, bY) (cx, cy) from cross_move (v := (gx, gy)) (a := (ax, ay)) (b := (bx, bY)) (c := (cx, cy)) (small_right (p := (ax, ay)) (by dsimp only; omega)) (small_right (p := (bx, bY)) (by dsimp only; omega)) (small_right (p := (cx, cy)) (by dsimp only; omega)) (small_right (p := addP (gx, gy) (ax, ay)) (by dsimp only [addP]; omega)) (small_right (p := addP (gx, gy) (bx, bY)) (by dsimp only [addP]; omega)) (small_right (p := addP (gx, gy) (cx, cy)) (by dsimp only [addP]; omega)))))
    refine steps_cons (fun own a wx hf hs hE hO => ?_) ?_
    · obtain ⟨(f78 : a.eval (.tmp 78) = .bool true), (f93 : a.eval (.tmp 93) = .bool true), -⟩ := hf
      exact sg_plain rfl (or_pick_t f78 f93)
    refine steps_cons (fun own a wx hf hs hE hO => ?_) ?_
    · obtain ⟨(f94 : a.eval (.tmp 94) = .bool true), -⟩ := hf
      exact sg_plain rfl (or_move f94)
    refine steps_cons (fun own a wx hf hs hE hO => ?_) ?_
    · obtain ⟨(f95 : a.eval (.tmp 95) = .bool true), -⟩ := hf
      obtain ⟨s11, -⟩ := hs
      exact sg_yes rfl rfl f95 (or_move (s11.trans ea155_11))
    refine steps_cons (fun own a wx hf hs hE hO => ?_) ?_
    · obtain ⟨(f95 : a.eval (.tmp 95) = .bool true), (f96 : a.eval (.tmp 96) = .slice (some ⟨g8, 0, none⟩) 5 5), -⟩ := hf
      exact sg_yes rfl rfl f95 (or_index (j := 0) tl41 f96 rfl rfl (by decide) rfl (by rfl))
    refine steps_cons (fun own a wx hf hs hE hO => ?_) ?_
    · obtain ⟨(f95 : a.eval (.tmp 95) = .bool true), (f97 : a.eval (.tmp 97) = .pointer (some ⟨g8, 0, none⟩)), -⟩ := hf
      exact sg_yes rfl rfl f95 (or_load ta29 f97 (Blk.cellsFrom (hE.blk bg8_w150 (fun h => h rfl)) 0 rfl) rfl)
    refine steps_cons (fun own a wx hf hs hE hO => ?_) ?_
    · obtain ⟨(f95 : a.eval (.tmp 95) = .bool true), -⟩ := hf
      obtain ⟨s11, -⟩ := hs
      exact sg_yes rfl rfl f95 (or_move (s11.trans ea155_11))
    refine steps_cons (fun own a wx hf hs hE hO => ?_) ?_
    · obtain ⟨(f95 : a.eval (.tmp 95) = .bool true), (f99 : a.eval (.tmp 99) = .slice (some ⟨g8, 0, none⟩) 5 5), -⟩ := hf
      exact sg_yes rfl rfl f95 (or_index (j := 1) tl41 f99 rfl rfl (by decide) rfl (by rfl))
    refine steps_cons (fun own a wx hf hs hE hO => ?_) ?_
    · obtain ⟨(f95 : a.eval (.tmp 95) = .bool true), (f100 : a.eval (.tmp 100) = .pointer (some ⟨g8, 2, none⟩)), -⟩ := hf
      exact sg_yes rfl rfl f95 (or_load ta29 f100 (Blk.cellsFrom (hE.blk bg8_w150 (fun h => h rfl)) 2 rfl) rfl)
    refine steps_cons (fun own a wx hf hs hE hO => ?_) ?_
    · obtain ⟨(f95 : a.eval (.tmp 95) = .bool true), -⟩ := hf
      obtain ⟨s11, -⟩ := hs
      exact sg_yes rfl rfl f95 (or_move (s11.trans ea155_11))
    refine steps_cons (fun own a wx hf hs hE hO => ?_) ?_
    · obtain ⟨(f95 : a.eval (.tmp 95) = .bool true), (f102 : a.eval (.tmp 102) = .slice (some ⟨g8, 0, none⟩) 5 5), -⟩ := hf
      exact sg_yes rfl rfl f95 (or_index (j := 3) tl41 f102 rfl rfl (by decide) rfl (by rfl))
    refine steps_cons (fun own a wx hf hs hE hO => ?_) ?_
    · obtain ⟨(f95 : a.eval (.tmp 95) = .bool true), (f103 : a.eval (.tmp 103) = .pointer (some ⟨g8, 6, none⟩)), -⟩ := hf
      exact sg_yes rfl rfl f95 (or_load ta29 f103 (Blk.cellsFrom (hE.blk bg8_w150 (fun h => h rfl)) 6 rfl) rfl)
    refine steps_cons (fun own a wx hf hs hE hO => ?_) ?_
    · obtain ⟨(f95 : a.eval (.tmp 95) = .bool true), (f98 : a.eval (.tmp 98) = .agg #[.int .i64 (ax + gx), .int .i64 (ay + gy)]), (f101 : a.eval (.tmp 101) = .agg #[.int .i64 (bx + gx), .int .i64 (bY + gy)]), (f104 : a.eval (.tmp 104) = .agg #[.int .i64 (px + gx), .int .i64 (py + gy)]), -⟩ := hf
      exact sg_yes rfl rfl f95 (or_call cf24 (args3 f98 f101 f104) (turn_any _ _ _ _ _ _ _) (post_val rfl))
    refine steps_cons (fun own a wx hf hs hE hO => ?_) ?_
    · obtain ⟨(f95 : a.eval (.tmp 95) = .bool true), -⟩ := hf
      obtain ⟨s5, -⟩ := hs
      exact sg_yes rfl rfl f95 (or_load ta29 (s5.trans ea155_5) (Blk.cellsFrom (hE.blk bg1_w150 (fun h => h rfl)) 0 rfl) rfl)
    refine steps_cons (fun own a wx hf hs hE hO => ?_) ?_
    · obtain ⟨(f95 : a.eval (.tmp 95) = .bool true), -⟩ := hf
      obtain ⟨s6, -⟩ := hs
      exact sg_yes rfl rfl f95 (or_load ta29 (s6.trans ea155_6) (Blk.cellsFrom (hE.blk bg2_w150 (fun h => h rfl)) 0 rfl) rfl)
    refine steps_cons (fun own a wx hf hs hE hO => ?_) ?_
    · obtain ⟨(f95 : a.eval (.tmp 95) = .bool true), -⟩ := hf
      obtain ⟨s8, -⟩ := hs
      exact sg_yes rfl rfl f95 (or_load ta29 (s8.trans ea155_8) (Blk.cellsFrom (hE.blk bg4_w150 (fun h => h rfl)) 0 rfl) rfl)
    refine steps_cons (fun own a wx hf hs hE hO => ?_) ?_
    · obtain ⟨(f95 : a.eval (.tmp 95) = .bool true), (f106 : a.eval (.tmp 106) = .agg #[.int .i64 ax, .int .i64 ay]), (f107 : a.eval (.tmp 107) = .agg #[.int .i64 bx, .int .i64 bY]), (f108 : a.eval (.tmp 108) = .agg #[.int .i64 px, .int .i64 py]), -⟩ := hf
      exact sg_yes rfl rfl f95 (or_call cf24 (args3 f106 f107 f108) (turn_any _ _ _ _ _ _ _) (post_val rfl))
    refine steps_cons (fun own a wx hf hs hE hO => ?_) ?_
    · obtain ⟨(f95 : a.eval (.tmp 95) = .bool true), (f105 : a.eval (.tmp 105) = .int .i64 (turn (ax + gx, ay + gy) (bx + gx, bY + gy) (px + gx, py + gy))), (f109 : a.eval (.tmp 109) = .int .i64 (turn (ax, ay) (bx, bY) (px, py))), -⟩ := hf
      exact sg_yes rfl rfl f95 (or_eql f105 f109 (beq_move (show turn (ax + gx, ay + gy) (bx + gx, bY + gy) (px + gx, py + gy) = turn (ax, ay) (bx, bY) (px, py) from turn_move (v := (gx, gy)) (a := (ax, ay)) (b := (bx, bY)) (c := (px, py)) (small_right (p := (ax, ay)) (by dsimp only; omega)) (small_right (p := (bx, bY)) (by dsimp only; omega)) (small_right (p := (px, py)) (by dsimp only; omega)) (small_right (p := addP (gx, gy) (ax, ay)) (by dsimp only [addP]; omega)) (small_right (p := addP (gx, gy) (bx, bY)) (by dsimp only [addP]; omega)) (small_right (p := addP (gx, gy) (px, py)) (by dsimp only [addP]; omega)))))
    refine steps_cons (fun own a wx hf hs hE hO => ?_) ?_
    · obtain ⟨(f95 : a.eval (.tmp 95) = .bool true), (f110 : a.eval (.tmp 110) = .bool true), -⟩ := hf
      exact sg_plain rfl (or_pick_t f95 f110)
    refine steps_cons (fun own a wx hf hs hE hO => ?_) ?_
    · obtain ⟨(f111 : a.eval (.tmp 111) = .bool true), -⟩ := hf
      exact sg_plain rfl (or_move f111)
    refine steps_cons (fun own a wx hf hs hE hO => ?_) ?_
    · obtain ⟨(f112 : a.eval (.tmp 112) = .bool true), -⟩ := hf
      obtain ⟨s11, -⟩ := hs
      exact sg_yes rfl rfl f112 (or_move (s11.trans ea155_11))
    refine steps_cons (fun own a wx hf hs hE hO => ?_) ?_
    · obtain ⟨(f112 : a.eval (.tmp 112) = .bool true), (f113 : a.eval (.tmp 113) = .slice (some ⟨g8, 0, none⟩) 5 5), -⟩ := hf
      exact sg_yes rfl rfl f112 (or_index (j := 0) tl41 f113 rfl rfl (by decide) rfl (by rfl))
    refine steps_cons (fun own a wx hf hs hE hO => ?_) ?_
    · obtain ⟨(f112 : a.eval (.tmp 112) = .bool true), (f114 : a.eval (.tmp 114) = .pointer (some ⟨g8, 0, none⟩)), -⟩ := hf
      exact sg_yes rfl rfl f112 (or_load ta29 f114 (Blk.cellsFrom (hE.blk bg8_w150 (fun h => h rfl)) 0 rfl) rfl)
    refine steps_cons (fun own a wx hf hs hE hO => ?_) ?_
    · obtain ⟨(f112 : a.eval (.tmp 112) = .bool true), -⟩ := hf
      obtain ⟨s11, -⟩ := hs
      exact sg_yes rfl rfl f112 (or_move (s11.trans ea155_11))
    refine steps_cons (fun own a wx hf hs hE hO => ?_) ?_
    · obtain ⟨(f112 : a.eval (.tmp 112) = .bool true), (f116 : a.eval (.tmp 116) = .slice (some ⟨g8, 0, none⟩) 5 5), -⟩ := hf
      exact sg_yes rfl rfl f112 (or_index (j := 1) tl41 f116 rfl rfl (by decide) rfl (by rfl))
    refine steps_cons (fun own a wx hf hs hE hO => ?_) ?_
    · obtain ⟨(f112 : a.eval (.tmp 112) = .bool true), (f117 : a.eval (.tmp 117) = .pointer (some ⟨g8, 2, none⟩)), -⟩ := hf
      exact sg_yes rfl rfl f112 (or_load ta29 f117 (Blk.cellsFrom (hE.blk bg8_w150 (fun h => h rfl)) 2 rfl) rfl)
    refine steps_cons (fun own a wx hf hs hE hO => ?_) ?_
    · obtain ⟨(f112 : a.eval (.tmp 112) = .bool true), -⟩ := hf
      obtain ⟨s11, -⟩ := hs
      exact sg_yes rfl rfl f112 (or_move (s11.trans ea155_11))
    refine steps_cons (fun own a wx hf hs hE hO => ?_) ?_
    · obtain ⟨(f112 : a.eval (.tmp 112) = .bool true), (f119 : a.eval (.tmp 119) = .slice (some ⟨g8, 0, none⟩) 5 5), -⟩ := hf
      exact sg_yes rfl rfl f112 (or_index (j := 3) tl41 f119 rfl rfl (by decide) rfl (by rfl))
    refine steps_cons (fun own a wx hf hs hE hO => ?_) ?_
    · obtain ⟨(f112 : a.eval (.tmp 112) = .bool true), (f120 : a.eval (.tmp 120) = .pointer (some ⟨g8, 6, none⟩)), -⟩ := hf
      exact sg_yes rfl rfl f112 (or_load ta29 f120 (Blk.cellsFrom (hE.blk bg8_w150 (fun h => h rfl)) 6 rfl) rfl)
    refine steps_cons (fun own a wx hf hs hE hO => ?_) ?_
    · obtain ⟨(f112 : a.eval (.tmp 112) = .bool true), (f115 : a.eval (.tmp 115) = .agg #[.int .i64 (ax + gx), .int .i64 (ay + gy)]), (f118 : a.eval (.tmp 118) = .agg #[.int .i64 (bx + gx), .int .i64 (bY + gy)]), (f121 : a.eval (.tmp 121) = .agg #[.int .i64 (px + gx), .int .i64 (py + gy)]), -⟩ := hf
      exact sg_yes rfl rfl f112 (or_call cf30 (args3 f115 f118 f121) (on_any _ _ _ _ _ _ _) (post_val rfl))
    refine steps_cons (fun own a wx hf hs hE hO => ?_) ?_
    · obtain ⟨(f112 : a.eval (.tmp 112) = .bool true), -⟩ := hf
      obtain ⟨s5, -⟩ := hs
      exact sg_yes rfl rfl f112 (or_load ta29 (s5.trans ea155_5) (Blk.cellsFrom (hE.blk bg1_w150 (fun h => h rfl)) 0 rfl) rfl)
    refine steps_cons (fun own a wx hf hs hE hO => ?_) ?_
    · obtain ⟨(f112 : a.eval (.tmp 112) = .bool true), -⟩ := hf
      obtain ⟨s6, -⟩ := hs
      exact sg_yes rfl rfl f112 (or_load ta29 (s6.trans ea155_6) (Blk.cellsFrom (hE.blk bg2_w150 (fun h => h rfl)) 0 rfl) rfl)
    refine steps_cons (fun own a wx hf hs hE hO => ?_) ?_
    · obtain ⟨(f112 : a.eval (.tmp 112) = .bool true), -⟩ := hf
      obtain ⟨s8, -⟩ := hs
      exact sg_yes rfl rfl f112 (or_load ta29 (s8.trans ea155_8) (Blk.cellsFrom (hE.blk bg4_w150 (fun h => h rfl)) 0 rfl) rfl)
    refine steps_cons (fun own a wx hf hs hE hO => ?_) ?_
    · obtain ⟨(f112 : a.eval (.tmp 112) = .bool true), (f123 : a.eval (.tmp 123) = .agg #[.int .i64 ax, .int .i64 ay]), (f124 : a.eval (.tmp 124) = .agg #[.int .i64 bx, .int .i64 bY]), (f125 : a.eval (.tmp 125) = .agg #[.int .i64 px, .int .i64 py]), -⟩ := hf
      exact sg_yes rfl rfl f112 (or_call cf30 (args3 f123 f124 f125) (on_any _ _ _ _ _ _ _) (post_val rfl))
    refine steps_cons (fun own a wx hf hs hE hO => ?_) ?_
    · obtain ⟨(f112 : a.eval (.tmp 112) = .bool true), (f122 : a.eval (.tmp 122) = .bool (onB (ax + gx, ay + gy) (bx + gx, bY + gy) (px + gx, py + gy))), (f126 : a.eval (.tmp 126) = .bool (onB (ax, ay) (bx, bY) (px, py))), -⟩ := hf
      exact sg_yes rfl rfl f112 (or_eqlb tb4 f122 f126 (beq_move (show onB (ax + gx, ay + gy) (bx + gx, bY + gy) (px + gx, py + gy) = onB (ax, ay) (bx, bY) (px, py) from on_move (v := (gx, gy)) (a := (ax, ay)) (b := (bx, bY)) (p := (px, py)) (small_right (p := (ax, ay)) (by dsimp only; omega)) (small_right (p := (bx, bY)) (by dsimp only; omega)) (small_right (p := (px, py)) (by dsimp only; omega)) (small_right (p := addP (gx, gy) (ax, ay)) (by dsimp only [addP]; omega)) (small_right (p := addP (gx, gy) (bx, bY)) (by dsimp only [addP]; omega)) (small_right (p := addP (gx, gy) (px, py)) (by dsimp only [addP]; omega)))))
    refine steps_cons (fun own a wx hf hs hE hO => ?_) ?_
    · obtain ⟨(f112 : a.eval (.tmp 112) = .bool true), (f127 : a.eval (.tmp 127) = .bool true), -⟩ := hf
      exact sg_plain rfl (or_pick_t f112 f127)
    refine steps_cons (fun own a wx hf hs hE hO => ?_) ?_
    · obtain ⟨(f128 : a.eval (.tmp 128) = .bool true), -⟩ := hf
      exact sg_plain rfl (or_move f128)
    refine steps_cons (fun own a wx hf hs hE hO => ?_) ?_
    · obtain ⟨(f129 : a.eval (.tmp 129) = .bool true), -⟩ := hf
      obtain ⟨s11, -⟩ := hs
      exact sg_yes rfl rfl f129 (or_move (s11.trans ea155_11))
    refine steps_cons (fun own a wx hf hs hE hO => ?_) ?_
    · obtain ⟨(f129 : a.eval (.tmp 129) = .bool true), (f130 : a.eval (.tmp 130) = .slice (some ⟨g8, 0, none⟩) 5 5), -⟩ := hf
      exact sg_yes rfl rfl f129 (or_index (j := 0) tl41 f130 rfl rfl (by decide) rfl (by rfl))
    refine steps_cons (fun own a wx hf hs hE hO => ?_) ?_
    · obtain ⟨(f129 : a.eval (.tmp 129) = .bool true), (f131 : a.eval (.tmp 131) = .pointer (some ⟨g8, 0, none⟩)), -⟩ := hf
      exact sg_yes rfl rfl f129 (or_load ta29 f131 (Blk.cellsFrom (hE.blk bg8_w150 (fun h => h rfl)) 0 rfl) rfl)
    refine steps_cons (fun own a wx hf hs hE hO => ?_) ?_
    · obtain ⟨(f129 : a.eval (.tmp 129) = .bool true), -⟩ := hf
      obtain ⟨s11, -⟩ := hs
      exact sg_yes rfl rfl f129 (or_move (s11.trans ea155_11))
    refine steps_cons (fun own a wx hf hs hE hO => ?_) ?_
    · obtain ⟨(f129 : a.eval (.tmp 129) = .bool true), (f133 : a.eval (.tmp 133) = .slice (some ⟨g8, 0, none⟩) 5 5), -⟩ := hf
      exact sg_yes rfl rfl f129 (or_index (j := 1) tl41 f133 rfl rfl (by decide) rfl (by rfl))
    refine steps_cons (fun own a wx hf hs hE hO => ?_) ?_
    · obtain ⟨(f129 : a.eval (.tmp 129) = .bool true), (f134 : a.eval (.tmp 134) = .pointer (some ⟨g8, 2, none⟩)), -⟩ := hf
      exact sg_yes rfl rfl f129 (or_load ta29 f134 (Blk.cellsFrom (hE.blk bg8_w150 (fun h => h rfl)) 2 rfl) rfl)
    refine steps_cons (fun own a wx hf hs hE hO => ?_) ?_
    · obtain ⟨(f129 : a.eval (.tmp 129) = .bool true), -⟩ := hf
      obtain ⟨s11, -⟩ := hs
      exact sg_yes rfl rfl f129 (or_move (s11.trans ea155_11))
    refine steps_cons (fun own a wx hf hs hE hO => ?_) ?_
    · obtain ⟨(f129 : a.eval (.tmp 129) = .bool true), (f136 : a.eval (.tmp 136) = .slice (some ⟨g8, 0, none⟩) 5 5), -⟩ := hf
      exact sg_yes rfl rfl f129 (or_index (j := 2) tl41 f136 rfl rfl (by decide) rfl (by rfl))
    refine steps_cons (fun own a wx hf hs hE hO => ?_) ?_
    · obtain ⟨(f129 : a.eval (.tmp 129) = .bool true), (f137 : a.eval (.tmp 137) = .pointer (some ⟨g8, 4, none⟩)), -⟩ := hf
      exact sg_yes rfl rfl f129 (or_load ta29 f137 (Blk.cellsFrom (hE.blk bg8_w150 (fun h => h rfl)) 4 rfl) rfl)
    refine steps_cons (fun own a wx hf hs hE hO => ?_) ?_
    · obtain ⟨(f129 : a.eval (.tmp 129) = .bool true), -⟩ := hf
      obtain ⟨s11, -⟩ := hs
      exact sg_yes rfl rfl f129 (or_move (s11.trans ea155_11))
    refine steps_cons (fun own a wx hf hs hE hO => ?_) ?_
    · obtain ⟨(f129 : a.eval (.tmp 129) = .bool true), (f139 : a.eval (.tmp 139) = .slice (some ⟨g8, 0, none⟩) 5 5), -⟩ := hf
      exact sg_yes rfl rfl f129 (or_index (j := 3) tl41 f139 rfl rfl (by decide) rfl (by rfl))
    refine steps_cons (fun own a wx hf hs hE hO => ?_) ?_
    · obtain ⟨(f129 : a.eval (.tmp 129) = .bool true), (f140 : a.eval (.tmp 140) = .pointer (some ⟨g8, 6, none⟩)), -⟩ := hf
      exact sg_yes rfl rfl f129 (or_load ta29 f140 (Blk.cellsFrom (hE.blk bg8_w150 (fun h => h rfl)) 6 rfl) rfl)
    refine steps_cons (fun own a wx hf hs hE hO => ?_) ?_
    · obtain ⟨(f129 : a.eval (.tmp 129) = .bool true), (f132 : a.eval (.tmp 132) = .agg #[.int .i64 (ax + gx), .int .i64 (ay + gy)]), (f135 : a.eval (.tmp 135) = .agg #[.int .i64 (bx + gx), .int .i64 (bY + gy)]), (f138 : a.eval (.tmp 138) = .agg #[.int .i64 (cx + gx), .int .i64 (cy + gy)]), (f141 : a.eval (.tmp 141) = .agg #[.int .i64 (px + gx), .int .i64 (py + gy)]), -⟩ := hf
      exact sg_yes rfl rfl f129 (or_call cf31 (args4 f132 f135 f138 f141) (intri_any _ _ _ _ _ _ _ _ _) (post_val rfl))
    refine steps_cons (fun own a wx hf hs hE hO => ?_) ?_
    · obtain ⟨(f129 : a.eval (.tmp 129) = .bool true), -⟩ := hf
      obtain ⟨s5, -⟩ := hs
      exact sg_yes rfl rfl f129 (or_load ta29 (s5.trans ea155_5) (Blk.cellsFrom (hE.blk bg1_w150 (fun h => h rfl)) 0 rfl) rfl)
    refine steps_cons (fun own a wx hf hs hE hO => ?_) ?_
    · obtain ⟨(f129 : a.eval (.tmp 129) = .bool true), -⟩ := hf
      obtain ⟨s6, -⟩ := hs
      exact sg_yes rfl rfl f129 (or_load ta29 (s6.trans ea155_6) (Blk.cellsFrom (hE.blk bg2_w150 (fun h => h rfl)) 0 rfl) rfl)
    refine steps_cons (fun own a wx hf hs hE hO => ?_) ?_
    · obtain ⟨(f129 : a.eval (.tmp 129) = .bool true), -⟩ := hf
      obtain ⟨s7, -⟩ := hs
      exact sg_yes rfl rfl f129 (or_load ta29 (s7.trans ea155_7) (Blk.cellsFrom (hE.blk bg3_w150 (fun h => h rfl)) 0 rfl) rfl)
    refine steps_cons (fun own a wx hf hs hE hO => ?_) ?_
    · obtain ⟨(f129 : a.eval (.tmp 129) = .bool true), -⟩ := hf
      obtain ⟨s8, -⟩ := hs
      exact sg_yes rfl rfl f129 (or_load ta29 (s8.trans ea155_8) (Blk.cellsFrom (hE.blk bg4_w150 (fun h => h rfl)) 0 rfl) rfl)
    refine steps_cons (fun own a wx hf hs hE hO => ?_) ?_
    · obtain ⟨(f129 : a.eval (.tmp 129) = .bool true), (f143 : a.eval (.tmp 143) = .agg #[.int .i64 ax, .int .i64 ay]), (f144 : a.eval (.tmp 144) = .agg #[.int .i64 bx, .int .i64 bY]), (f145 : a.eval (.tmp 145) = .agg #[.int .i64 cx, .int .i64 cy]), (f146 : a.eval (.tmp 146) = .agg #[.int .i64 px, .int .i64 py]), -⟩ := hf
      exact sg_yes rfl rfl f129 (or_call cf31 (args4 f143 f144 f145 f146) (intri_any _ _ _ _ _ _ _ _ _) (post_val rfl))
    refine steps_cons (fun own a wx hf hs hE hO => ?_) ?_
    · obtain ⟨(f129 : a.eval (.tmp 129) = .bool true), (f142 : a.eval (.tmp 142) = .bool (intriB (ax + gx, ay + gy) (bx + gx, bY + gy) (cx + gx, cy + gy) (px + gx, py + gy))), (f147 : a.eval (.tmp 147) = .bool (intriB (ax, ay) (bx, bY) (cx, cy) (px, py))), -⟩ := hf
      exact sg_yes rfl rfl f129 (or_eqlb tb4 f142 f147 (beq_move (show intriB (ax + gx, ay + gy) (bx + gx, bY + gy) (cx + gx, cy + gy) (px + gx, py + gy) = intriB (ax, ay) (bx, bY) (cx, cy) (px, py) from intri_move (v := (gx, gy)) (a := (ax, ay)) (b := (bx, bY)) (c := (cx, cy)) (p := (px, py)) (small_right (p := (ax, ay)) (by dsimp only; omega)) (small_right (p := (bx, bY)) (by dsimp only; omega)) (small_right (p := (cx, cy)) (by dsimp only; omega)) (small_right (p := (px, py)) (by dsimp only; omega)) (small_right (p := addP (gx, gy) (ax, ay)) (by dsimp only [addP]; omega)) (small_right (p := addP (gx, gy) (bx, bY)) (by dsimp only [addP]; omega)) (small_right (p := addP (gx, gy) (cx, cy)) (by dsimp only [addP]; omega)) (small_right (p := addP (gx, gy) (px, py)) (by dsimp only [addP]; omega)))))
    refine steps_cons (fun own a wx hf hs hE hO => ?_) ?_
    · obtain ⟨(f129 : a.eval (.tmp 129) = .bool true), (f148 : a.eval (.tmp 148) = .bool true), -⟩ := hf
      exact sg_plain rfl (or_pick_t f129 f148)
    refine steps_cons (fun own a wx hf hs hE hO => ?_) ?_
    · obtain ⟨(f149 : a.eval (.tmp 149) = .bool true), -⟩ := hf
      exact sg_plain rfl (or_move f149)
    refine steps_cons (fun own a wx hf hs hE hO => ?_) ?_
    · obtain ⟨(f150 : a.eval (.tmp 150) = .bool true), -⟩ := hf
      obtain ⟨s11, -⟩ := hs
      exact sg_yes rfl rfl f150 (or_move (s11.trans ea155_11))
    refine steps_cons (fun own a wx hf hs hE hO => ?_) ?_
    · obtain ⟨(f150 : a.eval (.tmp 150) = .bool true), (f151 : a.eval (.tmp 151) = .slice (some ⟨g8, 0, none⟩) 5 5), -⟩ := hf
      exact sg_yes rfl rfl f150 (or_index (j := 0) tl41 f151 rfl rfl (by decide) rfl (by rfl))
    refine steps_cons (fun own a wx hf hs hE hO => ?_) ?_
    · obtain ⟨(f150 : a.eval (.tmp 150) = .bool true), (f152 : a.eval (.tmp 152) = .pointer (some ⟨g8, 0, none⟩)), -⟩ := hf
      exact sg_yes rfl rfl f150 (or_load ta29 f152 (Blk.cellsFrom (hE.blk bg8_w150 (fun h => h rfl)) 0 rfl) rfl)
    refine steps_cons (fun own a wx hf hs hE hO => ?_) ?_
    · obtain ⟨(f150 : a.eval (.tmp 150) = .bool true), -⟩ := hf
      obtain ⟨s11, -⟩ := hs
      exact sg_yes rfl rfl f150 (or_move (s11.trans ea155_11))
    refine steps_cons (fun own a wx hf hs hE hO => ?_) ?_
    · obtain ⟨(f150 : a.eval (.tmp 150) = .bool true), (f154 : a.eval (.tmp 154) = .slice (some ⟨g8, 0, none⟩) 5 5), -⟩ := hf
      exact sg_yes rfl rfl f150 (or_index (j := 1) tl41 f154 rfl rfl (by decide) rfl (by rfl))
    refine steps_cons (fun own a wx hf hs hE hO => ?_) ?_
    · obtain ⟨(f150 : a.eval (.tmp 150) = .bool true), (f155 : a.eval (.tmp 155) = .pointer (some ⟨g8, 2, none⟩)), -⟩ := hf
      exact sg_yes rfl rfl f150 (or_load ta29 f155 (Blk.cellsFrom (hE.blk bg8_w150 (fun h => h rfl)) 2 rfl) rfl)
    refine steps_cons (fun own a wx hf hs hE hO => ?_) ?_
    · obtain ⟨(f150 : a.eval (.tmp 150) = .bool true), (f153 : a.eval (.tmp 153) = .agg #[.int .i64 (ax + gx), .int .i64 (ay + gy)]), (f156 : a.eval (.tmp 156) = .agg #[.int .i64 (bx + gx), .int .i64 (bY + gy)]), -⟩ := hf
      exact sg_yes rfl rfl f150 (or_call cf21 (args2 f153 f156) (less_any _ _ _ _ _) (post_val rfl))
    refine steps_cons (fun own a wx hf hs hE hO => ?_) ?_
    · obtain ⟨(f150 : a.eval (.tmp 150) = .bool true), -⟩ := hf
      obtain ⟨s5, -⟩ := hs
      exact sg_yes rfl rfl f150 (or_load ta29 (s5.trans ea155_5) (Blk.cellsFrom (hE.blk bg1_w150 (fun h => h rfl)) 0 rfl) rfl)
    refine steps_cons (fun own a wx hf hs hE hO => ?_) ?_
    · obtain ⟨(f150 : a.eval (.tmp 150) = .bool true), -⟩ := hf
      obtain ⟨s6, -⟩ := hs
      exact sg_yes rfl rfl f150 (or_load ta29 (s6.trans ea155_6) (Blk.cellsFrom (hE.blk bg2_w150 (fun h => h rfl)) 0 rfl) rfl)
    refine steps_cons (fun own a wx hf hs hE hO => ?_) ?_
    · obtain ⟨(f150 : a.eval (.tmp 150) = .bool true), (f158 : a.eval (.tmp 158) = .agg #[.int .i64 ax, .int .i64 ay]), (f159 : a.eval (.tmp 159) = .agg #[.int .i64 bx, .int .i64 bY]), -⟩ := hf
      exact sg_yes rfl rfl f150 (or_call cf21 (args2 f158 f159) (less_any _ _ _ _ _) (post_val rfl))
    refine steps_cons (fun own a wx hf hs hE hO => ?_) ?_
    · obtain ⟨(f150 : a.eval (.tmp 150) = .bool true), (f157 : a.eval (.tmp 157) = .bool (lessB (ax + gx, ay + gy) (bx + gx, bY + gy))), (f160 : a.eval (.tmp 160) = .bool (lessB (ax, ay) (bx, bY))), -⟩ := hf
      exact sg_yes rfl rfl f150 (or_eqlb tb4 f157 f160 (beq_move (show lessB (ax + gx, ay + gy) (bx + gx, bY + gy) = lessB (ax, ay) (bx, bY) from less_move (gx, gy) (ax, ay) (bx, bY))))
    refine steps_cons (fun own a wx hf hs hE hO => ?_) ?_
    · obtain ⟨(f150 : a.eval (.tmp 150) = .bool true), (f161 : a.eval (.tmp 161) = .bool true), -⟩ := hf
      exact sg_plain rfl (or_pick_t f150 f161)
    refine steps_cons (fun own a wx hf hs hE hO => ?_) ?_
    · obtain ⟨(f162 : a.eval (.tmp 162) = .bool true), -⟩ := hf
      exact sg_plain rfl (or_assign f162)
    exact steps_nil
  intro owna157 a157 w158 hda157 hza157 hsa157 hfa157 hEa157 hOa157 hpa157
  obtain ⟨(ea157_10 : a157.eval (.tmp 10) = .bool true), -⟩ := hfa157 [86] rfl
  have hNa157 : Ext (fun _ => False) w150 w158 := hEa157.mono_ (fun _ h => h rfl)
  have hXw158_w := hXw150_w.trans_ hNa157 (fun b hb h1 h2 => h2)
  have hBw158 : Below w.heap.size w w158 := hXw158_w.below (Nat.le_refl _) (fun _ _ h => h)
  clear hEa157 hOa157 hpa157 hfa157 hsa157
  refine fl_ret ?_
  refine hret _ _ _ hda157 (results1_ rfl (RVal.tmp_ ea157_10)) ?_
  exact ⟨congrArg Ending.returned rfl, hBw158⟩
theorem exactMoves_walk (ax ay : Int) (_ : PtOk (ax, ay)) (bx bY : Int) (_ : PtOk (bx, bY)) (cx cy : Int) (_ : PtOk (cx, cy)) (px py : Int) (_ : PtOk (px, py)) (gx gy : Int) (_ : PtOk (gx, gy)) (w : World) :
    Calls Try.prog 8 #[.agg #[.int .i64 ax, .int .i64 ay], .agg #[.int .i64 bx, .int .i64 bY], .agg #[.int .i64 cx, .int .i64 cy], .agg #[.int .i64 px, .int .i64 py], .agg #[.int .i64 gx, .int .i64 gy]] w fun e w' => e = .returned (.bool true) ∧ Below w.heap.size w w' :=
  exactMoves_core ax ay bx bY cx cy px py gx gy w
end Go.Proofs.Ytefhfbefgeadaaa
