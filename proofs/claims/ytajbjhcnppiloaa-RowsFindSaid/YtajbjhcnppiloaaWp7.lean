/-
  Chapter 06. The walks.
-/
import Derived.Test.YtajbjhcnppiloaaWp3
import Derived.Test.YtajbjhcnppiloaaWp4
import Derived.Test.YtajbjhcnppiloaaWp5
import Derived.Test.YtajbjhcnppiloaaSp7
namespace Go.Proofs.Ytajbjhcnppiloaa
open Go.RowKit
set_option linter.unusedVariables false
theorem rows_Index_Box_w (w : World) (x1 : (List ((Int × Int) × (Int × Int))) × (List ((Int × Int) × (List Int))) × (List Int)) (gx1 : Nat) (tx1 : TypeId) (Ax1_0 : Option Addr) (cx1_0 : Nat) (mx1_1 : Nat) (Ax1_2 : Option Addr) (cx1_2 : Nat) (i2 : Int) (hgx1 : BlkO (fun _ => 0) 0 w gx1 tx1 #[.slice Ax1_0 x1.1.length cx1_0, .map (some mx1_1), .slice Ax1_2 x1.2.2.length cx1_2]) (hAx1_0 : RdO (fun _ => 0) [0] w R26 Ax1_0 cx1_0 x1.1) (hmx1_1 : MpN (fun _ => 0) 0 0 [0] w mx1_1 vv35 3 R3 x1.2.1) (hAx1_2 : RdO (fun _ => 0) [0] w R3 Ax1_2 cx1_2 x1.2.2) (r : ((Int × Int) × (Int × Int)) × Bool) (hs : rows_Index_Box x1 i2 = some r) :
    Calls Try.prog 19 #[.pointer (some ⟨gx1, 0, none⟩), .int .i64 i2] w fun e w' => ∃ own' : Own, e = .returned (.tuple #[.agg #[.int .i64 r.1.1.1, .int .i64 r.1.1.2, .int .i64 r.1.2.1, .int .i64 r.1.2.2], .bool r.2]) ∧ Evo [] (fun _ => 0) own' w w' := by
  refine fl_enter (n := 22) rfl rfl rfl (Nat.le_of_ble_eq_true rfl) ?_
  intro a0 Q hd0 hz0 harg hret
  have ha0 := harg 0 _ rfl
  have ha1 := harg 1 _ rfl
  clear harg
  have hE0 : Evo [] (fun _ => 0) (fun _ => 0) w w := Evo.refl _ _ _
  refine rg_plain_seq (n := 22) (rs := []) (own0 := (fun _ => 0)) (K := [])
      (bs := [0, 0])
      (ds := [⟨[], [], [], Fct.blk 26 4 (fun g => .pointer (some ⟨g, 0, none⟩)) 26 #[.int .i64 0, .int .i64 0, .int .i64 0, .int .i64 0]⟩,
      ⟨[], [], [], Fct.val 5 (.bool false)⟩]) (by kernel_rfl) hz0 hd0 (fun _ h => nomatch h) ?_ ?_
  · refine steps_cons (fun own a wx hf hsl hE => ?_) ?_
    · exact sg_plain rfl rfl (or_new [] rfl rfl trivial (by kernel_rfl))
    refine steps_cons (fun own a wx hf hsl hE => ?_) ?_
    · exact sg_plain rfl rfl (or_assign rfl)
    exact steps_nil
  intro own27 a27 w27 hd27 hz27 hk27 hf27 hE27
  have e27_0 : a27.eval (.tmp 0) = .pointer (some ⟨gx1, 0, none⟩) := (hk27 0 rfl).trans ha0
  have e27_1 : a27.eval (.tmp 1) = .int .i64 i2 := (hk27 1 rfl).trans ha1
  obtain ⟨⟨g25, (f_4 : a27.eval (.tmp 4) = .pointer (some ⟨g25, 0, none⟩)), (b_g25 : BlkO own27 26 w27 g25 26 #[.int .i64 0, .int .i64 0, .int .i64 0, .int .i64 0])⟩, -⟩ := hf27 [0] rfl
  have e27_4 := f_4
  have hX27 := Evo.step hE0 (fun _ => Nat.le_refl 0) hE27 rfl
  have b27_Ax1_0 := RdO.evo rfl hE27 hAx1_0
  have b27_mx1_1 := MpN.evo rfl hE27 hmx1_1
  have b27_Ax1_2 := RdO.evo rfl hE27 hAx1_2
  have b27_gx1 := BlkO.evo (by decide) hE27 hgx1
  have b27_g25 := b_g25
  refine fl_seq (fun Q28 hn28 hp28 => ?_)
  obtain ⟨r29, hr29, hs⟩ := obind hs
  obtain ⟨x30, hx30, hs⟩ := obind hs
  refine rg_plain_seq (n := 22) (rs := []) (own0 := own27) (K := [])
      (bs := [0, 1, 3, 7, 7, 23, 63, 127])
      (ds := [⟨[], [1], [], Fct.val 6 (.int .i64 i2)⟩,
      ⟨[0], [], [], Fct.val 7 (.bool (decide (i2 < 0)))⟩,
      ⟨[1], [], [], Fct.val 8 (.bool (decide (i2 < 0)))⟩,
      ⟨[2], [1], [], Fct.cond (!(decide (i2 < 0))) (some 9) (Fct.val 9 (.int .i64 i2))⟩,
      ⟨[2], [0], [], Fct.cond (!(decide (i2 < 0))) (some 10) (Fct.val 10 (.pointer (some ⟨gx1, 0, none⟩)))⟩,
      ⟨[2, 4], [], [], Fct.cond (!(decide (i2 < 0))) (some 11) (Fct.val 11 (.int .i64 r29))⟩,
      ⟨[2, 3, 5], [], [], Fct.cond (!(decide (i2 < 0))) (some 12) (Fct.val 12 (.bool (decide (r29 ≤ i2))))⟩,
      ⟨[2, 6], [], [], Fct.val 13 (.bool x30)⟩]) (by kernel_rfl) hz27 hd27 (fun _ h => nomatch h) ?_ ?_
  · refine steps_cons (fun own a wx hf hsl hE => ?_) ?_
    · obtain ⟨s_1, -⟩ := hsl
      exact sg_plain rfl rfl (or_move (s_1.trans e27_1))
    refine steps_cons (fun own a wx hf hsl hE => ?_) ?_
    · obtain ⟨(f_6 : a.eval (.tmp 6) = .int .i64 i2), -⟩ := hf
      exact sg_plain rfl rfl (or_lss f_6 rfl rfl)
    refine steps_cons (fun own a wx hf hsl hE => ?_) ?_
    · obtain ⟨(f_7 : a.eval (.tmp 7) = .bool (decide (i2 < 0))), -⟩ := hf
      exact sg_plain rfl rfl (or_move f_7)
    refine steps_cons (fun own a wx hf hsl hE => ?_) ?_
    · obtain ⟨(f_8 : a.eval (.tmp 8) = .bool (decide (i2 < 0))), -⟩ := hf
      obtain ⟨s_1, -⟩ := hsl
      refine sg_f rfl rfl rfl f_8 (fun hg => ?_)
      exact or_move (s_1.trans e27_1)
    refine steps_cons (fun own a wx hf hsl hE => ?_) ?_
    · obtain ⟨(f_8 : a.eval (.tmp 8) = .bool (decide (i2 < 0))), -⟩ := hf
      obtain ⟨s_0, -⟩ := hsl
      refine sg_f rfl rfl rfl f_8 (fun hg => ?_)
      exact or_move (s_0.trans e27_0)
    refine steps_cons (fun own a wx hf hsl hE => ?_) ?_
    · obtain ⟨(f_8 : a.eval (.tmp 8) = .bool (decide (i2 < 0))), c_10, -⟩ := hf
      refine sg_f rfl rfl rfl f_8 (fun hg => ?_)
      have f_10 : a.eval (.tmp 10) = .pointer (some ⟨gx1, 0, none⟩) := c_10.1 hg
      exact or_call cf15 (args1 f_10) (rows_Index_Len_w _ x1 gx1 tx1 Ax1_0 cx1_0 mx1_1 Ax1_2 cx1_2 (BlkO.zero_ (BlkO.evo (by decide) hE b27_gx1)) (RdO.zero (RdO.evo rfl hE b27_Ax1_0)) (MpN.zero_ (MpN.evo rfl hE b27_mx1_1)) (RdO.zero (RdO.evo rfl hE b27_Ax1_2)) r29 (gd_t hr29 hg)) post_val
    refine steps_cons (fun own a wx hf hsl hE => ?_) ?_
    · obtain ⟨(f_8 : a.eval (.tmp 8) = .bool (decide (i2 < 0))), c_9, c_11, -⟩ := hf
      refine sg_f rfl rfl rfl f_8 (fun hg => ?_)
      have f_9 : a.eval (.tmp 9) = .int .i64 i2 := c_9.1 hg
      have f_11 : a.eval (.tmp 11) = .int .i64 r29 := c_11.1 hg
      exact or_geq f_9 f_11 rfl
    refine steps_cons (fun own a wx hf hsl hE => ?_) ?_
    · obtain ⟨(f_8 : a.eval (.tmp 8) = .bool (decide (i2 < 0))), c_12, -⟩ := hf
      exact sg_plain rfl rfl (or_or f_8 rfl (fun hx => c_12.1 hx) (osome hx30).symm)
    exact steps_nil
  intro own31 a31 w31 hd31 hz31 hk31 hf31 hE31
  have e31_0 : a31.eval (.tmp 0) = .pointer (some ⟨gx1, 0, none⟩) := (hk31 0 rfl).trans e27_0
  have e31_1 : a31.eval (.tmp 1) = .int .i64 i2 := (hk31 1 rfl).trans e27_1
  have e31_4 : a31.eval (.tmp 4) = .pointer (some ⟨g25, 0, none⟩) := (hk31 4 rfl).trans e27_4
  obtain ⟨(f_13 : a31.eval (.tmp 13) = .bool x30), -⟩ := hf31 [7] rfl
  have e31_13 := f_13
  have hX31 := Evo.step hX27 (fun _ => Nat.le_refl 0) hE31 rfl
  have b31_Ax1_0 := RdO.evo rfl hE31 b27_Ax1_0
  have b31_mx1_1 := MpN.evo rfl hE31 b27_mx1_1
  have b31_Ax1_2 := RdO.evo rfl hE31 b27_Ax1_2
  have b31_gx1 := BlkO.evo (by decide) hE31 b27_gx1
  have b31_g25 := BlkO.evo (by decide) hE31 b27_g25
  refine fl_cond e31_13 hs (fun c32 hs => ?_) (fun c32 hs => ?_)
  · refine rg_plain_seq (n := 22) (rs := [Fct.at_ 26 g25 26 #[.int .i64 0, .int .i64 0, .int .i64 0, .int .i64 0]]) (own0 := own31) (K := [26])
        (bs := [0, 1, 3])
        (ds := [⟨[], [], [], Fct.val 14 (.agg #[.int .i64 0, .int .i64 0, .int .i64 0, .int .i64 0])⟩,
        ⟨[0, 3], [4], [26], Fct.at_ 33 g25 26 #[.int .i64 0, .int .i64 0, .int .i64 0, .int .i64 0]⟩,
        ⟨[], [], [], Fct.val 5 (.bool false)⟩]) (by kernel_rfl) hz31 hd31 (by simp only [List.forall_mem_cons]; exact ⟨b31_g25, fun _ h => nomatch h⟩) ?_ ?_
    · refine steps_cons (fun own a wx hf hsl hE => ?_) ?_
      · exact sg_plain rfl rfl (or_k [] rfl rfl trivial (by kernel_rfl))
      refine steps_cons (fun own a wx hf hsl hE => ?_) ?_
      · obtain ⟨(f_14 : a.eval (.tmp 14) = .agg #[.int .i64 0, .int .i64 0, .int .i64 0, .int .i64 0]), (b_g25 : BlkO own 26 wx g25 26 #[.int .i64 0, .int .i64 0, .int .i64 0, .int .i64 0]), -⟩ := hf
        obtain ⟨s_4, -⟩ := hsl
        exact sg_plain rfl rfl (or_store (l := #[.int .i64 0, .int .i64 0, .int .i64 0, .int .i64 0]) (lab := 26) (lab2 := 33) ts26 (s_4.trans e31_4) f_14 b_g25 (by simp) (by kernel_rfl) (mem_of rfl) (by decide) (by kernel_rfl) (fun own' a' w' ha hb => hb))
      refine steps_cons (fun own a wx hf hsl hE => ?_) ?_
      · exact sg_plain rfl rfl (or_assign rfl)
      exact steps_nil
    intro own34 a34 w34 hd34 hz34 hk34 hf34 hE34
    have e34_4 : a34.eval (.tmp 4) = .pointer (some ⟨g25, 0, none⟩) := (hk34 4 rfl).trans e31_4
    obtain ⟨(f_5 : a34.eval (.tmp 5) = .bool false), (b_g25 : BlkO own34 33 w34 g25 26 #[.int .i64 0, .int .i64 0, .int .i64 0, .int .i64 0]), -⟩ := hf34 [2, 1] rfl
    have e34_5 := f_5
    have hX34 := Evo.step hX31 (fun _ => Nat.le_refl 0) hE34 rfl
    have b34_g25 := b_g25
    refine fl_ret ?_
    refine hp28 _ _ _ rfl ?_
    obtain rfl := osome hs
    exact hret _ _ _ _ (.inl rfl) hd34 (results2_ rfl (RVal.cell_ e34_4 (run_loadVarAgg (l := [.int .i64 0, .int .i64 0, .int .i64 0, .int .i64 0]) ta26 (Blk.cellsFrom b34_g25.2 0 rfl) rfl)) (RVal.tmp_ e34_5)) ⟨own34, rfl, hX34⟩
  refine fl_skip ?_
  refine hn28 _ _ ?_
  obtain ⟨x36, hx36, hs⟩ := obind hs
  refine rg_plain_seq (n := 22) (rs := [Fct.at_ 26 g25 26 #[.int .i64 0, .int .i64 0, .int .i64 0, .int .i64 0]]) (own0 := own31) (K := [26])
      (bs := [0, 1, 3, 7, 0, 31, 63, 127, 255])
      (ds := [⟨[], [0], [], Fct.val 15 (.pointer (some ⟨gx1, 0, none⟩))⟩,
      ⟨[0], [], [], Fct.val 16 (.pointer (some ⟨gx1, 0, none⟩))⟩,
      ⟨[1], [], [], Fct.val 17 (.pointer (some ⟨gx1, 0, none⟩))⟩,
      ⟨[2], [], [], Fct.val 18 (.slice Ax1_0 x1.1.length cx1_0)⟩,
      ⟨[], [1], [], Fct.val 19 (.int .i64 i2)⟩,
      ⟨[3, 4], [], [], Fct.val 20 (.pointer (some ((adr Ax1_0).add ((i2 : Int).toNat * R26.s))))⟩,
      ⟨[5], [], [], Fct.val 21 (.agg #[.int .i64 x36.1.1, .int .i64 x36.1.2, .int .i64 x36.2.1, .int .i64 x36.2.2])⟩,
      ⟨[6, 9], [4], [26], Fct.at_ 37 g25 26 #[.int .i64 x36.1.1, .int .i64 x36.1.2, .int .i64 x36.2.1, .int .i64 x36.2.2]⟩,
      ⟨[], [], [], Fct.val 5 (.bool true)⟩]) (by kernel_rfl) hz31 hd31 (by simp only [List.forall_mem_cons]; exact ⟨b31_g25, fun _ h => nomatch h⟩) ?_ ?_
  · refine steps_cons (fun own a wx hf hsl hE => ?_) ?_
    · obtain ⟨s_0, -⟩ := hsl
      exact sg_plain rfl rfl (or_move (s_0.trans e31_0))
    refine steps_cons (fun own a wx hf hsl hE => ?_) ?_
    · obtain ⟨(f_15 : a.eval (.tmp 15) = .pointer (some ⟨gx1, 0, none⟩)), -⟩ := hf
      exact sg_plain rfl rfl (or_k [(15, .pointer (some ⟨gx1, 0, none⟩))] rfl rfl ⟨f_15, trivial⟩ (by kernel_rfl))
    refine steps_cons (fun own a wx hf hsl hE => ?_) ?_
    · obtain ⟨(f_16 : a.eval (.tmp 16) = .pointer (some ⟨gx1, 0, none⟩)), -⟩ := hf
      exact sg_plain rfl rfl (or_field fo62_0 f_16 (by rfl))
    refine steps_cons (fun own a wx hf hsl hE => ?_) ?_
    · obtain ⟨(f_17 : a.eval (.tmp 17) = .pointer (some ⟨gx1, 0, none⟩)), -⟩ := hf
      exact sg_plain rfl rfl (or_load1 to22 f_17 (Blk.at_ (BlkO.evo (by decide) hE b31_gx1).2 0 rfl))
    refine steps_cons (fun own a wx hf hsl hE => ?_) ?_
    · obtain ⟨s_1, -⟩ := hsl
      exact sg_plain rfl rfl (or_move (s_1.trans e31_1))
    refine steps_cons (fun own a wx hf hsl hE => ?_) ?_
    · obtain ⟨(f_18 : a.eval (.tmp 18) = .slice Ax1_0 x1.1.length cx1_0), (f_19 : a.eval (.tmp 19) = .int .i64 i2), -⟩ := hf
      exact sg_plain rfl rfl (or_index (R := R26) (l := x1.1) tl22 f_18 f_19 (RdO.some_ b31_Ax1_0 hx36) hx36)
    refine steps_cons (fun own a wx hf hsl hE => ?_) ?_
    · obtain ⟨(f_20 : a.eval (.tmp 20) = .pointer (some ((adr Ax1_0).add ((i2 : Int).toNat * R26.s)))), -⟩ := hf
      exact sg_plain rfl rfl (or_load (l := E26.f x36) ta26 f_20 (RdO.cells (F := E26) (RdO.evo rfl hE b31_Ax1_0) hx36) rfl)
    refine steps_cons (fun own a wx hf hsl hE => ?_) ?_
    · obtain ⟨(f_21 : a.eval (.tmp 21) = .agg #[.int .i64 x36.1.1, .int .i64 x36.1.2, .int .i64 x36.2.1, .int .i64 x36.2.2]), (b_g25 : BlkO own 26 wx g25 26 #[.int .i64 0, .int .i64 0, .int .i64 0, .int .i64 0]), -⟩ := hf
      obtain ⟨s_4, -⟩ := hsl
      exact sg_plain rfl rfl (or_store (l := #[.int .i64 x36.1.1, .int .i64 x36.1.2, .int .i64 x36.2.1, .int .i64 x36.2.2]) (lab := 26) (lab2 := 37) ts26 (s_4.trans e31_4) f_21 b_g25 (by simp) (by kernel_rfl) (mem_of rfl) (by decide) (by kernel_rfl) (fun own' a' w' ha hb => hb))
    refine steps_cons (fun own a wx hf hsl hE => ?_) ?_
    · exact sg_plain rfl rfl (or_assign rfl)
    exact steps_nil
  intro own38 a38 w38 hd38 hz38 hk38 hf38 hE38
  have e38_4 : a38.eval (.tmp 4) = .pointer (some ⟨g25, 0, none⟩) := (hk38 4 rfl).trans e31_4
  obtain ⟨(f_5 : a38.eval (.tmp 5) = .bool true), (b_g25 : BlkO own38 37 w38 g25 26 #[.int .i64 x36.1.1, .int .i64 x36.1.2, .int .i64 x36.2.1, .int .i64 x36.2.2]), -⟩ := hf38 [8, 7] rfl
  have e38_5 := f_5
  have hX38 := Evo.step hX31 (fun _ => Nat.le_refl 0) hE38 rfl
  have b38_g25 := b_g25
  refine fl_ret ?_
  obtain rfl := osome hs
  exact hret _ _ _ _ (.inl rfl) hd38 (results2_ rfl (RVal.cell_ e38_4 (run_loadVarAgg (l := [.int .i64 x36.1.1, .int .i64 x36.1.2, .int .i64 x36.2.1, .int .i64 x36.2.2]) ta26 (Blk.cellsFrom b38_g25.2 0 rfl) rfl)) (RVal.tmp_ e38_5)) ⟨own38, rfl, hX38⟩

set_option maxHeartbeats 2000000 in
theorem law06_RowsFind_w (w : World) (l1 : List ((Int × Int) × (Int × Int))) (Al1 : Option Addr) (cl1 : Nat) (b2 : (Int × Int) × (Int × Int)) (p3 : Int × Int) (part4 : Int) (n5 : Int) (hl1 : RdO (fun _ => 0) [0] w R26 Al1 cl1 l1) (r : Bool) (hs : law06_RowsFind l1 b2 p3 part4 n5 = some r) :
    Calls Try.prog 4 #[.slice Al1 l1.length cl1, .agg #[.int .i64 b2.1.1, .int .i64 b2.1.2, .int .i64 b2.2.1, .int .i64 b2.2.2], .agg #[.int .i64 p3.1, .int .i64 p3.2], .int .i64 part4, .int .i64 n5] w fun e w' => ∃ own' : Own, e = .returned (.bool r) ∧ Evo [] (fun _ => 0) own' w w' := by
  refine fl_enter (n := 176) rfl rfl rfl (Nat.le_of_ble_eq_true rfl) ?_
  intro a0 Q hd0 hz0 harg hret
  have ha0 := harg 0 _ rfl
  have ha1 := harg 1 _ rfl
  have ha2 := harg 2 _ rfl
  have ha3 := harg 3 _ rfl
  have ha4 := harg 4 _ rfl
  clear harg
  have hE0 : Evo [] (fun _ => 0) (fun _ => 0) w w := Evo.refl _ _ _
  refine rg_plain_seq (n := 176) (rs := []) (own0 := (fun _ => 0)) (K := [])
      (bs := [0, 0, 0])
      (ds := [⟨[], [1], [], Fct.blk 998 6 (fun g => .pointer (some ⟨g, 0, none⟩)) 26 #[.int .i64 b2.1.1, .int .i64 b2.1.2, .int .i64 b2.2.1, .int .i64 b2.2.2]⟩,
      ⟨[], [2], [], Fct.blk 1000 7 (fun g => .pointer (some ⟨g, 0, none⟩)) 24 #[.int .i64 p3.1, .int .i64 p3.2]⟩,
      ⟨[], [], [], Fct.val 10 (.bool false)⟩]) (by kernel_rfl) hz0 hd0 (fun _ h => nomatch h) ?_ ?_
  · refine steps_cons (fun own a wx hf hsl hE => ?_) ?_
    · obtain ⟨s_1, -⟩ := hsl
      exact sg_plain rfl rfl (or_new [(1, .agg #[.int .i64 b2.1.1, .int .i64 b2.1.2, .int .i64 b2.2.1, .int .i64 b2.2.2])] rfl rfl ⟨(s_1.trans ha1), trivial⟩ (by kernel_rfl))
    refine steps_cons (fun own a wx hf hsl hE => ?_) ?_
    · obtain ⟨s_2, -⟩ := hsl
      exact sg_plain rfl rfl (or_new [(2, .agg #[.int .i64 p3.1, .int .i64 p3.2])] rfl rfl ⟨(s_2.trans ha2), trivial⟩ (by kernel_rfl))
    refine steps_cons (fun own a wx hf hsl hE => ?_) ?_
    · exact sg_plain rfl rfl (or_assign rfl)
    exact steps_nil
  intro own1001 a1001 w1001 hd1001 hz1001 hk1001 hf1001 hE1001
  have e1001_0 : a1001.eval (.tmp 0) = .slice Al1 l1.length cl1 := (hk1001 0 rfl).trans ha0
  have e1001_3 : a1001.eval (.tmp 3) = .int .i64 part4 := (hk1001 3 rfl).trans ha3
  have e1001_4 : a1001.eval (.tmp 4) = .int .i64 n5 := (hk1001 4 rfl).trans ha4
  obtain ⟨⟨g997, (f_6 : a1001.eval (.tmp 6) = .pointer (some ⟨g997, 0, none⟩)), (b_g997 : BlkO own1001 998 w1001 g997 26 #[.int .i64 b2.1.1, .int .i64 b2.1.2, .int .i64 b2.2.1, .int .i64 b2.2.2])⟩, ⟨g999, (f_7 : a1001.eval (.tmp 7) = .pointer (some ⟨g999, 0, none⟩)), (b_g999 : BlkO own1001 1000 w1001 g999 24 #[.int .i64 p3.1, .int .i64 p3.2])⟩, -⟩ := hf1001 [0, 1] rfl
  have e1001_6 := f_6
  have e1001_7 := f_7
  have hX1001 := Evo.step hE0 (fun _ => Nat.le_refl 0) hE1001 rfl
  have b1001_Al1 := RdO.evo rfl hE1001 hl1
  have b1001_g997 := b_g997
  have b1001_g999 := b_g999
  obtain ⟨x1002, hx1002, hs⟩ := obind hs
  refine rg_plain_seq (n := 176) (rs := []) (own0 := own1001) (K := [])
      (bs := [0, 0, 2, 6, 15, 31])
      (ds := [⟨[], [0], [], Fct.val 23 (.slice Al1 l1.length cl1)⟩,
      ⟨[], [0], [], Fct.val 24 (.slice Al1 l1.length cl1)⟩,
      ⟨[1], [], [], Fct.val 25 (.int .i64 (l1.length : Int))⟩,
      ⟨[2], [], [], Fct.val 26 (.int .i64 (mn (l1.length : Int) 40))⟩,
      ⟨[0, 3], [], [], Fct.view [0] 27 R26 x1002⟩,
      ⟨[4], [], [], Fct.rel [0, 27] (fun l => ∀ (A1003 : Option Addr) (cA1003 : Nat), l.getD 1 undef = .slice A1003 x1002.length cA1003 → l.getD 0 undef = .slice A1003 x1002.length cA1003)⟩]) (by kernel_rfl) hz1001 hd1001 (fun _ h => nomatch h) ?_ ?_
  · refine steps_cons (fun own a wx hf hsl hE => ?_) ?_
    · obtain ⟨s_0, -⟩ := hsl
      exact sg_plain rfl rfl (or_move (s_0.trans e1001_0))
    refine steps_cons (fun own a wx hf hsl hE => ?_) ?_
    · obtain ⟨s_0, -⟩ := hsl
      exact sg_plain rfl rfl (or_move (s_0.trans e1001_0))
    refine steps_cons (fun own a wx hf hsl hE => ?_) ?_
    · obtain ⟨(f_24 : a.eval (.tmp 24) = .slice Al1 l1.length cl1), -⟩ := hf
      exact sg_plain rfl rfl (or_len tu22 f_24 rfl)
    refine steps_cons (fun own a wx hf hsl hE => ?_) ?_
    · obtain ⟨(f_25 : a.eval (.tmp 25) = .int .i64 (l1.length : Int)), -⟩ := hf
      exact sg_plain rfl rfl (or_min f_25 rfl)
    refine steps_cons (fun own a wx hf hsl hE => ?_) ?_
    · obtain ⟨(f_23 : a.eval (.tmp 23) = .slice Al1 l1.length cl1), (f_26 : a.eval (.tmp 26) = .int .i64 (mn (l1.length : Int) 40)), -⟩ := hf
      exact sg_plain rfl rfl (or_view (R := R26) (l := l1) (L := [0]) tu22 ts26 f_23 Bnd.none_ (Bnd.some_ f_26) Bnd.none_ (RdO.evo rfl hE b1001_Al1) hx1002 (.inl rfl) (by simp))
    refine steps_cons (fun own a wx hf hsl hE => ?_) ?_
    · obtain ⟨⟨⟨A1003, cA1003⟩, (f_27 : a.eval (.tmp 27) = .slice A1003 x1002.length cA1003), (b_A1003 : RdO own [0] wx R26 A1003 cA1003 x1002)⟩, -⟩ := hf
      exact sg_plain rfl rfl (or_mono (f := Fct.val 0 (.slice A1003 x1002.length cA1003)) (or_assign f_27) (fun own' a' w' v' hp h => fun _ _ h0' => by cases (f_27.symm.trans ((hp.2 27 (by decide)).symm.trans h0')); exact h))
    exact steps_nil
  intro own1004 a1004 w1004 hd1004 hz1004 hk1004 hf1004 hE1004
  have e1004_3 : a1004.eval (.tmp 3) = .int .i64 part4 := (hk1004 3 rfl).trans e1001_3
  have e1004_4 : a1004.eval (.tmp 4) = .int .i64 n5 := (hk1004 4 rfl).trans e1001_4
  have e1004_6 : a1004.eval (.tmp 6) = .pointer (some ⟨g997, 0, none⟩) := (hk1004 6 rfl).trans e1001_6
  have e1004_7 : a1004.eval (.tmp 7) = .pointer (some ⟨g999, 0, none⟩) := (hk1004 7 rfl).trans e1001_7
  obtain ⟨⟨⟨A1003, cA1003⟩, (f_27 : a1004.eval (.tmp 27) = .slice A1003 x1002.length cA1003), (b_A1003 : RdO own1004 [0] w1004 R26 A1003 cA1003 x1002)⟩, (q_0 : ∀ (A1003 : Option Addr) (cA1003 : Nat), a1004.eval (.tmp 27) = .slice A1003 x1002.length cA1003 → a1004.eval (.tmp 0) = .slice A1003 x1002.length cA1003), -⟩ := hf1004 [4, 5] rfl
  have f_0 := q_0 _ _ f_27
  have e1004_0 := f_0
  have hX1004 := Evo.step hX1001 (fun _ => Nat.le_refl 0) hE1004 rfl
  have b1004_g997 := BlkO.evo (by decide) hE1004 b1001_g997
  have b1004_g999 := BlkO.evo (by decide) hE1004 b1001_g999
  have b1004_A1003 := b_A1003
  obtain ⟨x1005, hx1005, hs⟩ := obind hs
  obtain ⟨x1006, hx1006, hs⟩ := obind hs
  refine rg_plain_seq (n := 176) (rs := []) (own0 := own1004) (K := [])
      (bs := [0, 1, 0, 4, 12, 28, 63, 127, 255])
      (ds := [⟨[], [3], [], Fct.val 28 (.int .i64 part4)⟩,
      ⟨[0], [], [], Fct.val 29 (.int .u64 (IntKind.u64.wrap part4))⟩,
      ⟨[], [0], [], Fct.val 30 (.slice A1003 x1002.length cA1003)⟩,
      ⟨[2], [], [], Fct.val 31 (.int .i64 (x1002.length : Int))⟩,
      ⟨[3], [], [], Fct.val 32 (.int .i64 (ad (x1002.length : Int) 1))⟩,
      ⟨[4], [], [], Fct.val 33 (.int .u64 x1005)⟩,
      ⟨[1, 5], [], [], Fct.val 34 (.int .u64 x1006)⟩,
      ⟨[6], [], [], Fct.val 35 (.int .i64 (IntKind.i64.wrap x1006))⟩,
      ⟨[7], [], [], Fct.val 11 (.int .i64 (IntKind.i64.wrap x1006))⟩]) (by kernel_rfl) hz1004 hd1004 (fun _ h => nomatch h) ?_ ?_
  · refine steps_cons (fun own a wx hf hsl hE => ?_) ?_
    · obtain ⟨s_3, -⟩ := hsl
      exact sg_plain rfl rfl (or_move (s_3.trans e1004_3))
    refine steps_cons (fun own a wx hf hsl hE => ?_) ?_
    · obtain ⟨(f_28 : a.eval (.tmp 28) = .int .i64 part4), -⟩ := hf
      exact sg_plain rfl rfl (or_conv f_28 tn3 tn40 rfl)
    refine steps_cons (fun own a wx hf hsl hE => ?_) ?_
    · obtain ⟨s_0, -⟩ := hsl
      exact sg_plain rfl rfl (or_move (s_0.trans e1004_0))
    refine steps_cons (fun own a wx hf hsl hE => ?_) ?_
    · obtain ⟨(f_30 : a.eval (.tmp 30) = .slice A1003 x1002.length cA1003), -⟩ := hf
      exact sg_plain rfl rfl (or_len tu22 f_30 rfl)
    refine steps_cons (fun own a wx hf hsl hE => ?_) ?_
    · obtain ⟨(f_31 : a.eval (.tmp 31) = .int .i64 (x1002.length : Int)), -⟩ := hf
      exact sg_plain rfl rfl (or_add f_31 rfl rfl)
    refine steps_cons (fun own a wx hf hsl hE => ?_) ?_
    · obtain ⟨(f_32 : a.eval (.tmp 32) = .int .i64 (ad (x1002.length : Int) 1)), -⟩ := hf
      exact sg_plain rfl rfl (or_conv f_32 tn3 tn40 (osome hx1005).symm)
    refine steps_cons (fun own a wx hf hsl hE => ?_) ?_
    · obtain ⟨(f_29 : a.eval (.tmp 29) = .int .u64 (IntKind.u64.wrap part4)), (f_33 : a.eval (.tmp 33) = .int .u64 x1005), -⟩ := hf
      exact sg_plain rfl rfl (or_rem f_29 f_33 hx1006)
    refine steps_cons (fun own a wx hf hsl hE => ?_) ?_
    · obtain ⟨(f_34 : a.eval (.tmp 34) = .int .u64 x1006), -⟩ := hf
      exact sg_plain rfl rfl (or_conv f_34 tn40 tn3 rfl)
    refine steps_cons (fun own a wx hf hsl hE => ?_) ?_
    · obtain ⟨(f_35 : a.eval (.tmp 35) = .int .i64 (IntKind.i64.wrap x1006)), -⟩ := hf
      exact sg_plain rfl rfl (or_assign f_35)
    exact steps_nil
  intro own1007 a1007 w1007 hd1007 hz1007 hk1007 hf1007 hE1007
  have e1007_0 : a1007.eval (.tmp 0) = .slice A1003 x1002.length cA1003 := (hk1007 0 rfl).trans e1004_0
  have e1007_4 : a1007.eval (.tmp 4) = .int .i64 n5 := (hk1007 4 rfl).trans e1004_4
  have e1007_6 : a1007.eval (.tmp 6) = .pointer (some ⟨g997, 0, none⟩) := (hk1007 6 rfl).trans e1004_6
  have e1007_7 : a1007.eval (.tmp 7) = .pointer (some ⟨g999, 0, none⟩) := (hk1007 7 rfl).trans e1004_7
  obtain ⟨(f_11 : a1007.eval (.tmp 11) = .int .i64 (IntKind.i64.wrap x1006)), -⟩ := hf1007 [8] rfl
  have e1007_11 := f_11
  have hX1007 := Evo.step hX1004 (fun _ => Nat.le_refl 0) hE1007 rfl
  have b1007_g997 := BlkO.evo (by decide) hE1007 b1004_g997
  have b1007_g999 := BlkO.evo (by decide) hE1007 b1004_g999
  have b1007_A1003 := RdO.evo rfl hE1007 b1004_A1003
  obtain ⟨x1008, hx1008, hs⟩ := obind hs
  obtain ⟨r1010, hr1010, hs⟩ := obind hs
  refine rg_plain_seq (n := 176) (rs := []) (own0 := own1007) (K := [])
      (bs := [0, 0, 3, 7, 15])
      (ds := [⟨[], [0], [], Fct.val 36 (.slice A1003 x1002.length cA1003)⟩,
      ⟨[], [11], [], Fct.val 37 (.int .i64 (IntKind.i64.wrap x1006))⟩,
      ⟨[0, 1], [], [], Fct.view [0] 38 R26 x1008⟩,
      ⟨[2], [], [], Fct.mems [1015, 1016, 1017, 1018, 1019] 39 (fun (x : (Option Addr × Nat) × (Option Addr × Nat) × (Option Addr × Nat) × (Option Addr × Nat)) => .pointer (some ⟨x.1.2, 0, none⟩)) (fun (x : (Option Addr × Nat) × (Option Addr × Nat) × (Option Addr × Nat) × (Option Addr × Nat)) own w => RwO own 1015 [] w 26 R26 x.2.1.1 x.2.1.2 r1010.1 ∧ MpN own 1016 1017 [] w x.2.2.1.2 vv35 3 R3 r1010.2.1 ∧ RwO own 1018 [] w 3 R3 x.2.2.2.1 x.2.2.2.2 r1010.2.2 ∧ BlkO own 1019 w x.1.2 62 #[.slice x.2.1.1 r1010.1.length x.2.1.2, .map (some x.2.2.1.2), .slice x.2.2.2.1 r1010.2.2.length x.2.2.2.2]) (fun hk he h => ⟨RwO.evo (hits_sub hk (by decide)) he h.1, MpN.evo (hits_sub hk (by decide)) he h.2.1, RwO.evo (hits_sub hk (by decide)) he h.2.2.1, BlkO.evo (not_hit hk (by decide)) he h.2.2.2⟩)⟩,
      ⟨[3], [], [], Fct.rel [12, 39] (fun l => ∀ (cA1011 : Nat), l.getD 1 undef = .pointer (some ⟨cA1011, 0, none⟩) → l.getD 0 undef = .pointer (some ⟨cA1011, 0, none⟩))⟩]) (by kernel_rfl) hz1007 hd1007 (fun _ h => nomatch h) ?_ ?_
  · refine steps_cons (fun own a wx hf hsl hE => ?_) ?_
    · obtain ⟨s_0, -⟩ := hsl
      exact sg_plain rfl rfl (or_move (s_0.trans e1007_0))
    refine steps_cons (fun own a wx hf hsl hE => ?_) ?_
    · obtain ⟨s_11, -⟩ := hsl
      exact sg_plain rfl rfl (or_move (s_11.trans e1007_11))
    refine steps_cons (fun own a wx hf hsl hE => ?_) ?_
    · obtain ⟨(f_36 : a.eval (.tmp 36) = .slice A1003 x1002.length cA1003), (f_37 : a.eval (.tmp 37) = .int .i64 (IntKind.i64.wrap x1006)), -⟩ := hf
      exact sg_plain rfl rfl (or_view (R := R26) (l := x1002) (L := [0]) tu22 ts26 f_36 Bnd.none_ (Bnd.some_ f_37) Bnd.none_ (RdO.evo rfl hE b1007_A1003) hx1008 (.inl rfl) (by simp))
    refine steps_cons (fun own a wx hf hsl hE => ?_) ?_
    · obtain ⟨⟨⟨A1009, cA1009⟩, (f_38 : a.eval (.tmp 38) = .slice A1009 x1008.length cA1009), (b_A1009 : RdO own [0] wx R26 A1009 cA1009 x1008)⟩, -⟩ := hf
      exact sg_plain rfl rfl (or_call cf7 (args1 f_38) (rows_New_w _ x1008 A1009 cA1009 (RdO.zero b_A1009) r1010 hr1010) (post_mems (m := (fun _ => 0)) (m' := (look0 [(1, 1019), (2, 1015), (3, 1016), (4, 1017), (5, 1018)])) (fun _ _ => .inl rfl) (fun own' w' a' x h1 h => ⟨x, h1, ⟨RwO.back_ h.1 (by decide) (.inl (Rep.fl_flat _)), MpN.back_ h.2.1 (by decide) (by decide) (.inl (Rep.fl_flat _)), RwO.back_ h.2.2.1 (by decide) (.inl (Rep.fl_flat _)), BlkO.back_ h.2.2.2 (by decide)⟩⟩)))
    refine steps_cons (fun own a wx hf hsl hE => ?_) ?_
    · obtain ⟨⟨⟨⟨A1011, cA1011⟩, ⟨A1012, cA1012⟩, ⟨A1013, cA1013⟩, ⟨A1014, cA1014⟩⟩, (f_39 : a.eval (.tmp 39) = .pointer (some ⟨cA1011, 0, none⟩)), (b_A1012 : RwO own 1015 [] wx 26 R26 A1012 cA1012 r1010.1), (b_cA1013 : MpN own 1016 1017 [] wx cA1013 vv35 3 R3 r1010.2.1), (b_A1014 : RwO own 1018 [] wx 3 R3 A1014 cA1014 r1010.2.2), (b_cA1011 : BlkO own 1019 wx cA1011 62 #[.slice A1012 r1010.1.length cA1012, .map (some cA1013), .slice A1014 r1010.2.2.length cA1014])⟩, -⟩ := hf
      exact sg_plain rfl rfl (or_mono (f := Fct.val 12 (.pointer (some ⟨cA1011, 0, none⟩))) (or_assign f_39) (fun own' a' w' v' hp h => fun _ h0' => by cases (f_39.symm.trans ((hp.2 39 (by decide)).symm.trans h0')); exact h))
    exact steps_nil
  intro own1020 a1020 w1020 hd1020 hz1020 hk1020 hf1020 hE1020
  have e1020_0 : a1020.eval (.tmp 0) = .slice A1003 x1002.length cA1003 := (hk1020 0 rfl).trans e1007_0
  have e1020_4 : a1020.eval (.tmp 4) = .int .i64 n5 := (hk1020 4 rfl).trans e1007_4
  have e1020_6 : a1020.eval (.tmp 6) = .pointer (some ⟨g997, 0, none⟩) := (hk1020 6 rfl).trans e1007_6
  have e1020_7 : a1020.eval (.tmp 7) = .pointer (some ⟨g999, 0, none⟩) := (hk1020 7 rfl).trans e1007_7
  have e1020_11 : a1020.eval (.tmp 11) = .int .i64 (IntKind.i64.wrap x1006) := (hk1020 11 rfl).trans e1007_11
  obtain ⟨⟨⟨⟨A1011, cA1011⟩, ⟨A1012, cA1012⟩, ⟨A1013, cA1013⟩, ⟨A1014, cA1014⟩⟩, (f_39 : a1020.eval (.tmp 39) = .pointer (some ⟨cA1011, 0, none⟩)), (b_A1012 : RwO own1020 1015 [] w1020 26 R26 A1012 cA1012 r1010.1), (b_cA1013 : MpN own1020 1016 1017 [] w1020 cA1013 vv35 3 R3 r1010.2.1), (b_A1014 : RwO own1020 1018 [] w1020 3 R3 A1014 cA1014 r1010.2.2), (b_cA1011 : BlkO own1020 1019 w1020 cA1011 62 #[.slice A1012 r1010.1.length cA1012, .map (some cA1013), .slice A1014 r1010.2.2.length cA1014])⟩, (q_12 : ∀ (cA1011 : Nat), a1020.eval (.tmp 39) = .pointer (some ⟨cA1011, 0, none⟩) → a1020.eval (.tmp 12) = .pointer (some ⟨cA1011, 0, none⟩)), -⟩ := hf1020 [3, 4] rfl
  have f_12 := q_12 _ f_39
  have e1020_12 := f_12
  have hX1020 := Evo.step hX1007 (fun _ => Nat.le_refl 0) hE1020 rfl
  have b1020_g997 := BlkO.evo (by decide) hE1020 b1007_g997
  have b1020_g999 := BlkO.evo (by decide) hE1020 b1007_g999
  have b1020_A1003 := RdO.evo rfl hE1020 b1007_A1003
  have b1020_A1012 := b_A1012
  have b1020_cA1013 := b_cA1013
  have b1020_A1014 := b_A1014
  have b1020_cA1011 := b_cA1011
  refine fl_seq (fun Q1021 hn1021 hp1021 => ?_)
  obtain ⟨x1030, hx1030, hs⟩ := obind hs
  obtain ⟨r1032, hr1032, hs⟩ := obind hs
  obtain ⟨r1040, hr1040, hs⟩ := obind hs
  obtain ⟨x1041, hx1041, hs⟩ := obind hs
  refine rg_plain_seq (n := 176) (rs := [Fct.at_ 1019 cA1011 62 #[.slice A1012 r1010.1.length cA1012, .map (some cA1013), .slice A1014 r1010.2.2.length cA1014], Fct.rowAt 1015 [] 26 R26 A1012 cA1012 r1010.1, Fct.mapnAt 1016 1017 [] cA1013 vv35 3 R3 r1010.2.1, Fct.rowAt 1018 [] 3 R3 A1014 cA1014 r1010.2.2]) (own0 := own1020) (K := [1019, 1015, 1016, 1017, 1018])
      (bs := [0, 0, 0, 6, 15, 0, 32, 127, 255, 511, 1023, 511, 2559, 8191, 16383])
      (ds := [⟨[], [12], [], Fct.val 40 (.pointer (some ⟨cA1011, 0, none⟩))⟩,
      ⟨[], [0], [], Fct.val 41 (.slice A1003 x1002.length cA1003)⟩,
      ⟨[], [11], [], Fct.val 42 (.int .i64 (IntKind.i64.wrap x1006))⟩,
      ⟨[1, 2], [], [], Fct.view [0] 43 R26 x1030⟩,
      ⟨[0, 3, 15, 16, 17, 18], [], [1019, 1015, 1016, 1017, 1018], Fct.mems [1035, 1036, 1037, 1038, 1039] 44 (fun (x : (Option Addr × Nat) × (Option Addr × Nat)) => .int .i64 r1032.1) (fun (x : (Option Addr × Nat) × (Option Addr × Nat)) own w => RwO own 1035 [] w 26 R26 x.1.1 x.1.2 r1032.2.1 ∧ MpN own 1036 1037 [] w cA1013 vv35 3 R3 r1032.2.2.1 ∧ RwO own 1038 [] w 3 R3 x.2.1 x.2.2 r1032.2.2.2 ∧ BlkO own 1039 w cA1011 62 #[.slice x.1.1 r1032.2.1.length x.1.2, .map (some cA1013), .slice x.2.1 r1032.2.2.2.length x.2.2]) (fun hk he h => ⟨RwO.evo (hits_sub hk (by decide)) he h.1, MpN.evo (hits_sub hk (by decide)) he h.2.1, RwO.evo (hits_sub hk (by decide)) he h.2.2.1, BlkO.evo (not_hit hk (by decide)) he h.2.2.2⟩)⟩,
      ⟨[], [0], [], Fct.val 45 (.slice A1003 x1002.length cA1003)⟩,
      ⟨[5], [], [], Fct.val 46 (.int .i64 (x1002.length : Int))⟩,
      ⟨[4, 6], [], [], Fct.val 47 (.bool (!decide (r1032.1 = (x1002.length : Int))))⟩,
      ⟨[7], [], [], Fct.val 48 (.bool (!decide (r1032.1 = (x1002.length : Int))))⟩,
      ⟨[8], [12], [], Fct.cond (!(!decide (r1032.1 = (x1002.length : Int)))) (some 49) (Fct.val 49 (.pointer (some ⟨cA1011, 0, none⟩)))⟩,
      ⟨[8, 9, 4], [], [], Fct.cond (!(!decide (r1032.1 = (x1002.length : Int)))) (some 50) (Fct.val 50 (.int .i64 r1040))⟩,
      ⟨[8], [0], [], Fct.cond (!(!decide (r1032.1 = (x1002.length : Int)))) (some 51) (Fct.val 51 (.slice A1003 x1002.length cA1003))⟩,
      ⟨[8, 11], [], [], Fct.cond (!(!decide (r1032.1 = (x1002.length : Int)))) (some 52) (Fct.val 52 (.int .i64 (x1002.length : Int)))⟩,
      ⟨[8, 10, 12], [], [], Fct.cond (!(!decide (r1032.1 = (x1002.length : Int)))) (some 53) (Fct.val 53 (.bool (!decide (r1040 = (x1002.length : Int)))))⟩,
      ⟨[8, 13], [], [], Fct.val 54 (.bool x1041)⟩]) (by kernel_rfl) hz1020 hd1020 (by simp only [List.forall_mem_cons]; exact ⟨b1020_cA1011, b1020_A1012, b1020_cA1013, b1020_A1014, fun _ h => nomatch h⟩) ?_ ?_
  · refine steps_cons (fun own a wx hf hsl hE => ?_) ?_
    · obtain ⟨s_12, -⟩ := hsl
      exact sg_plain rfl rfl (or_move (s_12.trans e1020_12))
    refine steps_cons (fun own a wx hf hsl hE => ?_) ?_
    · obtain ⟨s_0, -⟩ := hsl
      exact sg_plain rfl rfl (or_move (s_0.trans e1020_0))
    refine steps_cons (fun own a wx hf hsl hE => ?_) ?_
    · obtain ⟨s_11, -⟩ := hsl
      exact sg_plain rfl rfl (or_move (s_11.trans e1020_11))
    refine steps_cons (fun own a wx hf hsl hE => ?_) ?_
    · obtain ⟨(f_41 : a.eval (.tmp 41) = .slice A1003 x1002.length cA1003), (f_42 : a.eval (.tmp 42) = .int .i64 (IntKind.i64.wrap x1006)), -⟩ := hf
      exact sg_plain rfl rfl (or_view (R := R26) (l := x1002) (L := [0]) tu22 ts26 f_41 (Bnd.some_ f_42) Bnd.none_ Bnd.none_ (RdO.evo rfl hE b1020_A1003) hx1030 (.inl rfl) (by simp))
    refine steps_cons (fun own a wx hf hsl hE => ?_) ?_
    · obtain ⟨(f_40 : a.eval (.tmp 40) = .pointer (some ⟨cA1011, 0, none⟩)), ⟨⟨A1031, cA1031⟩, (f_43 : a.eval (.tmp 43) = .slice A1031 x1030.length cA1031), (b_A1031 : RdO own [0] wx R26 A1031 cA1031 x1030)⟩, (b_cA1011 : BlkO own 1019 wx cA1011 62 #[.slice A1012 r1010.1.length cA1012, .map (some cA1013), .slice A1014 r1010.2.2.length cA1014]), (b_A1012 : RwO own 1015 [] wx 26 R26 A1012 cA1012 r1010.1), (b_cA1013 : MpN own 1016 1017 [] wx cA1013 vv35 3 R3 r1010.2.1), (b_A1014 : RwO own 1018 [] wx 3 R3 A1014 cA1014 r1010.2.2), -⟩ := hf
      exact sg_plain rfl rfl (or_call cf8 (args2 f_40 f_43) (rows_Index_Add_w _ (forth own (look0 [(1015, 2), (1016, 3), (1017, 4), (1018, 5), (1019, 1)])) r1010 cA1011 62 A1012 cA1012 cA1013 A1014 cA1014 x1030 A1031 cA1031 (look0_le rfl) (BlkO.forth_ (m := (look0 [(1015, 2), (1016, 3), (1017, 4), (1018, 5), (1019, 1)])) b_cA1011) (RwO.forth_ (m := (look0 [(1015, 2), (1016, 3), (1017, 4), (1018, 5), (1019, 1)])) b_A1012) (MpN.forth_ (m := (look0 [(1015, 2), (1016, 3), (1017, 4), (1018, 5), (1019, 1)])) b_cA1013) (RwO.forth_ (m := (look0 [(1015, 2), (1016, 3), (1017, 4), (1018, 5), (1019, 1)])) b_A1014) (RdO.forth_ (m := (look0 [(1015, 2), (1016, 3), (1017, 4), (1018, 5), (1019, 1)])) b_A1031) r1032 hr1032) (post_mems (m := (look0 [(1015, 2), (1016, 3), (1017, 4), (1018, 5), (1019, 1)])) (m' := (look0 [(1, 1039), (2, 1035), (3, 1036), (4, 1037), (5, 1038)])) (hm_of rfl) (fun own' w' a' x h1 h => ⟨x, h1, ⟨RwO.back_ h.1 (by decide) (.inl (Rep.fl_flat _)), MpN.back_ h.2.1 (by decide) (by decide) (.inl (Rep.fl_flat _)), RwO.back_ h.2.2.1 (by decide) (.inl (Rep.fl_flat _)), BlkO.back_ h.2.2.2 (by decide)⟩⟩)))
    refine steps_cons (fun own a wx hf hsl hE => ?_) ?_
    · obtain ⟨s_0, -⟩ := hsl
      exact sg_plain rfl rfl (or_move (s_0.trans e1020_0))
    refine steps_cons (fun own a wx hf hsl hE => ?_) ?_
    · obtain ⟨(f_45 : a.eval (.tmp 45) = .slice A1003 x1002.length cA1003), -⟩ := hf
      exact sg_plain rfl rfl (or_len tu22 f_45 rfl)
    refine steps_cons (fun own a wx hf hsl hE => ?_) ?_
    · obtain ⟨⟨⟨⟨A1033, cA1033⟩, ⟨A1034, cA1034⟩⟩, (f_44 : a.eval (.tmp 44) = .int .i64 r1032.1), (b_A1033 : RwO own 1035 [] wx 26 R26 A1033 cA1033 r1032.2.1), (b_cA1013 : MpN own 1036 1037 [] wx cA1013 vv35 3 R3 r1032.2.2.1), (b_A1034 : RwO own 1038 [] wx 3 R3 A1034 cA1034 r1032.2.2.2), (b_cA1011 : BlkO own 1039 wx cA1011 62 #[.slice A1033 r1032.2.1.length cA1033, .map (some cA1013), .slice A1034 r1032.2.2.2.length cA1034])⟩, (f_46 : a.eval (.tmp 46) = .int .i64 (x1002.length : Int)), -⟩ := hf
      exact sg_plain rfl rfl (or_neq f_44 f_46 rfl)
    refine steps_cons (fun own a wx hf hsl hE => ?_) ?_
    · obtain ⟨(f_47 : a.eval (.tmp 47) = .bool (!decide (r1032.1 = (x1002.length : Int)))), -⟩ := hf
      exact sg_plain rfl rfl (or_move f_47)
    refine steps_cons (fun own a wx hf hsl hE => ?_) ?_
    · obtain ⟨(f_48 : a.eval (.tmp 48) = .bool (!decide (r1032.1 = (x1002.length : Int)))), -⟩ := hf
      obtain ⟨s_12, -⟩ := hsl
      refine sg_f rfl rfl rfl f_48 (fun hg => ?_)
      exact or_move (s_12.trans e1020_12)
    refine steps_cons (fun own a wx hf hsl hE => ?_) ?_
    · obtain ⟨(f_48 : a.eval (.tmp 48) = .bool (!decide (r1032.1 = (x1002.length : Int)))), c_49, ⟨⟨⟨A1033, cA1033⟩, ⟨A1034, cA1034⟩⟩, (f_44 : a.eval (.tmp 44) = .int .i64 r1032.1), (b_A1033 : RwO own 1035 [] wx 26 R26 A1033 cA1033 r1032.2.1), (b_cA1013 : MpN own 1036 1037 [] wx cA1013 vv35 3 R3 r1032.2.2.1), (b_A1034 : RwO own 1038 [] wx 3 R3 A1034 cA1034 r1032.2.2.2), (b_cA1011 : BlkO own 1039 wx cA1011 62 #[.slice A1033 r1032.2.1.length cA1033, .map (some cA1013), .slice A1034 r1032.2.2.2.length cA1034])⟩, -⟩ := hf
      refine sg_f rfl rfl rfl f_48 (fun hg => ?_)
      have f_49 : a.eval (.tmp 49) = .pointer (some ⟨cA1011, 0, none⟩) := c_49.1 hg
      exact or_call cf15 (args1 f_49) (rows_Index_Len_w _ r1032.2 cA1011 62 A1033 cA1033 cA1013 A1034 cA1034 (BlkO.zero_ b_cA1011) (RdO.zero (RwO.rd b_A1033)) (MpN.zero_ b_cA1013) (RdO.zero (RwO.rd b_A1034)) r1040 (gd_t hr1040 hg)) post_val
    refine steps_cons (fun own a wx hf hsl hE => ?_) ?_
    · obtain ⟨(f_48 : a.eval (.tmp 48) = .bool (!decide (r1032.1 = (x1002.length : Int)))), -⟩ := hf
      obtain ⟨s_0, -⟩ := hsl
      refine sg_f rfl rfl rfl f_48 (fun hg => ?_)
      exact or_move (s_0.trans e1020_0)
    refine steps_cons (fun own a wx hf hsl hE => ?_) ?_
    · obtain ⟨(f_48 : a.eval (.tmp 48) = .bool (!decide (r1032.1 = (x1002.length : Int)))), c_51, -⟩ := hf
      refine sg_f rfl rfl rfl f_48 (fun hg => ?_)
      have f_51 : a.eval (.tmp 51) = .slice A1003 x1002.length cA1003 := c_51.1 hg
      exact or_len tu22 f_51 rfl
    refine steps_cons (fun own a wx hf hsl hE => ?_) ?_
    · obtain ⟨(f_48 : a.eval (.tmp 48) = .bool (!decide (r1032.1 = (x1002.length : Int)))), c_50, c_52, -⟩ := hf
      refine sg_f rfl rfl rfl f_48 (fun hg => ?_)
      have f_50 : a.eval (.tmp 50) = .int .i64 r1040 := c_50.1 hg
      have f_52 : a.eval (.tmp 52) = .int .i64 (x1002.length : Int) := c_52.1 hg
      exact or_neq f_50 f_52 rfl
    refine steps_cons (fun own a wx hf hsl hE => ?_) ?_
    · obtain ⟨(f_48 : a.eval (.tmp 48) = .bool (!decide (r1032.1 = (x1002.length : Int)))), c_53, -⟩ := hf
      exact sg_plain rfl rfl (or_or f_48 rfl (fun hx => c_53.1 hx) (osome hx1041).symm)
    exact steps_nil
  intro own1042 a1042 w1042 hd1042 hz1042 hk1042 hf1042 hE1042
  have e1042_0 : a1042.eval (.tmp 0) = .slice A1003 x1002.length cA1003 := (hk1042 0 rfl).trans e1020_0
  have e1042_4 : a1042.eval (.tmp 4) = .int .i64 n5 := (hk1042 4 rfl).trans e1020_4
  have e1042_6 : a1042.eval (.tmp 6) = .pointer (some ⟨g997, 0, none⟩) := (hk1042 6 rfl).trans e1020_6
  have e1042_7 : a1042.eval (.tmp 7) = .pointer (some ⟨g999, 0, none⟩) := (hk1042 7 rfl).trans e1020_7
  have e1042_12 : a1042.eval (.tmp 12) = .pointer (some ⟨cA1011, 0, none⟩) := (hk1042 12 rfl).trans e1020_12
  obtain ⟨(f_54 : a1042.eval (.tmp 54) = .bool x1041), ⟨⟨⟨A1033, cA1033⟩, ⟨A1034, cA1034⟩⟩, (f_44 : a1042.eval (.tmp 44) = .int .i64 r1032.1), (b_A1033 : RwO own1042 1035 [] w1042 26 R26 A1033 cA1033 r1032.2.1), (b_cA1013 : MpN own1042 1036 1037 [] w1042 cA1013 vv35 3 R3 r1032.2.2.1), (b_A1034 : RwO own1042 1038 [] w1042 3 R3 A1034 cA1034 r1032.2.2.2), (b_cA1011 : BlkO own1042 1039 w1042 cA1011 62 #[.slice A1033 r1032.2.1.length cA1033, .map (some cA1013), .slice A1034 r1032.2.2.2.length cA1034])⟩, -⟩ := hf1042 [14, 4] rfl
  have e1042_54 := f_54
  have hX1042 := Evo.step hX1020 (fun _ => Nat.le_refl 0) hE1042 rfl
  have b1042_g997 := BlkO.evo (by decide) hE1042 b1020_g997
  have b1042_g999 := BlkO.evo (by decide) hE1042 b1020_g999
  have b1042_A1003 := RdO.evo rfl hE1042 b1020_A1003
  have b1042_cA1011 := b_cA1011
  have b1042_cA1013 := b_cA1013
  have b1042_A1033 := b_A1033
  have b1042_A1034 := b_A1034
  refine fl_cond e1042_54 hs (fun c1043 hs => ?_) (fun c1043 hs => ?_)
  · refine rg_plain_seq (n := 176) (rs := []) (own0 := own1042) (K := [])
        (bs := [0])
        (ds := [⟨[], [], [], Fct.val 10 (.bool false)⟩]) (by kernel_rfl) hz1042 hd1042 (fun _ h => nomatch h) ?_ ?_
    · refine steps_cons (fun own a wx hf hsl hE => ?_) ?_
      · exact sg_plain rfl rfl (or_assign rfl)
      exact steps_nil
    intro own1044 a1044 w1044 hd1044 hz1044 hk1044 hf1044 hE1044
    obtain ⟨(f_10 : a1044.eval (.tmp 10) = .bool false), -⟩ := hf1044 [0] rfl
    have e1044_10 := f_10
    have hX1044 := Evo.step hX1042 (fun _ => Nat.le_refl 0) hE1044 rfl
    refine fl_ret ?_
    refine hp1021 _ _ _ rfl ?_
    obtain rfl := osome hs
    exact hret _ _ _ _ (.inl rfl) hd1044 (results1_ rfl (RVal.tmp_ e1044_10)) ⟨own1044, rfl, hX1044⟩
  refine fl_skip ?_
  refine hn1021 _ _ ?_
  refine rg_plain_seq (n := 176) (rs := []) (own0 := own1042) (K := [])
      (bs := [0, 1])
      (ds := [⟨[], [], [], Fct.val 13 (.slice none 0 0)⟩,
      ⟨[], [], [], Fct.val 14 (.slice none 0 0)⟩]) (by kernel_rfl) hz1042 hd1042 (fun _ h => nomatch h) ?_ ?_
  · refine steps_cons (fun own a wx hf hsl hE => ?_) ?_
    · exact sg_plain rfl rfl (or_assign rfl)
    refine steps_cons (fun own a wx hf hsl hE => ?_) ?_
    · exact sg_plain rfl rfl (or_assign rfl)
    exact steps_nil
  intro own1045 a1045 w1045 hd1045 hz1045 hk1045 hf1045 hE1045
  have e1045_0 : a1045.eval (.tmp 0) = .slice A1003 x1002.length cA1003 := (hk1045 0 rfl).trans e1042_0
  have e1045_4 : a1045.eval (.tmp 4) = .int .i64 n5 := (hk1045 4 rfl).trans e1042_4
  have e1045_6 : a1045.eval (.tmp 6) = .pointer (some ⟨g997, 0, none⟩) := (hk1045 6 rfl).trans e1042_6
  have e1045_7 : a1045.eval (.tmp 7) = .pointer (some ⟨g999, 0, none⟩) := (hk1045 7 rfl).trans e1042_7
  have e1045_12 : a1045.eval (.tmp 12) = .pointer (some ⟨cA1011, 0, none⟩) := (hk1045 12 rfl).trans e1042_12
  obtain ⟨(f_13 : a1045.eval (.tmp 13) = .slice none 0 0), (f_14 : a1045.eval (.tmp 14) = .slice none 0 0), -⟩ := hf1045 [0, 1] rfl
  have e1045_13 := f_13
  have e1045_14 := f_14
  have hX1045 := Evo.step hX1042 (fun _ => Nat.le_refl 0) hE1045 rfl
  have b1045_g997 := BlkO.evo (by decide) hE1045 b1042_g997
  have b1045_g999 := BlkO.evo (by decide) hE1045 b1042_g999
  have b1045_A1003 := RdO.evo rfl hE1045 b1042_A1003
  have b1045_cA1011 := BlkO.evo (by decide) hE1045 b1042_cA1011
  have b1045_cA1013 := MpN.evo rfl hE1045 b1042_cA1013
  have b1045_A1033 := RwO.evo rfl hE1045 b1042_A1033
  have b1045_A1034 := RwO.evo rfl hE1045 b1042_A1034
  obtain ⟨r1046, hr1046, hs⟩ := obind hs
  refine rg_plain_seq (n := 176) (rs := []) (own0 := own1045) (K := [])
      (bs := [0, 1, 3])
      (ds := [⟨[], [12], [], Fct.val 55 (.pointer (some ⟨cA1011, 0, none⟩))⟩,
      ⟨[0], [], [], Fct.row 1048 [] 56 35 R35 r1046⟩,
      ⟨[1], [], [], Fct.rel [15, 56] (fun l => ∀ (A1047 : Option Addr) (cA1047 : Nat), l.getD 1 undef = .slice A1047 r1046.length cA1047 → l.getD 0 undef = .slice A1047 r1046.length cA1047)⟩]) (by kernel_rfl) hz1045 hd1045 (fun _ h => nomatch h) ?_ ?_
  · refine steps_cons (fun own a wx hf hsl hE => ?_) ?_
    · obtain ⟨s_12, -⟩ := hsl
      exact sg_plain rfl rfl (or_move (s_12.trans e1045_12))
    refine steps_cons (fun own a wx hf hsl hE => ?_) ?_
    · obtain ⟨(f_55 : a.eval (.tmp 55) = .pointer (some ⟨cA1011, 0, none⟩)), -⟩ := hf
      exact sg_plain rfl rfl (or_call cf9 (args1 f_55) (rows_Index_Pairs_w _ r1032.2 cA1011 62 A1033 cA1033 cA1013 A1034 cA1034 (BlkO.zero_ (BlkO.evo (by decide) hE b1045_cA1011)) (RdO.zero (RwO.rd (RwO.evo rfl hE b1045_A1033))) (MpN.zero_ (MpN.evo rfl hE b1045_cA1013)) (RdO.zero (RwO.rd (RwO.evo rfl hE b1045_A1034))) r1046 hr1046) (post_row (m' := (look0 [(1, 1048)])) (.inl (Rep.fl_flat _)) rfl rfl (fun _ => rfl)))
    refine steps_cons (fun own a wx hf hsl hE => ?_) ?_
    · obtain ⟨⟨⟨A1047, cA1047⟩, (f_56 : a.eval (.tmp 56) = .slice A1047 r1046.length cA1047), (b_A1047 : RwO own 1048 [] wx 35 R35 A1047 cA1047 r1046)⟩, -⟩ := hf
      exact sg_plain rfl rfl (or_mono (f := Fct.val 15 (.slice A1047 r1046.length cA1047)) (or_assign f_56) (fun own' a' w' v' hp h => fun _ _ h0' => by cases (f_56.symm.trans ((hp.2 56 (by decide)).symm.trans h0')); exact h))
    exact steps_nil
  intro own1049 a1049 w1049 hd1049 hz1049 hk1049 hf1049 hE1049
  have e1049_0 : a1049.eval (.tmp 0) = .slice A1003 x1002.length cA1003 := (hk1049 0 rfl).trans e1045_0
  have e1049_4 : a1049.eval (.tmp 4) = .int .i64 n5 := (hk1049 4 rfl).trans e1045_4
  have e1049_6 : a1049.eval (.tmp 6) = .pointer (some ⟨g997, 0, none⟩) := (hk1049 6 rfl).trans e1045_6
  have e1049_7 : a1049.eval (.tmp 7) = .pointer (some ⟨g999, 0, none⟩) := (hk1049 7 rfl).trans e1045_7
  have e1049_12 : a1049.eval (.tmp 12) = .pointer (some ⟨cA1011, 0, none⟩) := (hk1049 12 rfl).trans e1045_12
  have e1049_13 : a1049.eval (.tmp 13) = .slice none 0 0 := (hk1049 13 rfl).trans e1045_13
  have e1049_14 : a1049.eval (.tmp 14) = .slice none 0 0 := (hk1049 14 rfl).trans e1045_14
  obtain ⟨⟨⟨A1047, cA1047⟩, (f_56 : a1049.eval (.tmp 56) = .slice A1047 r1046.length cA1047), (b_A1047 : RwO own1049 1048 [] w1049 35 R35 A1047 cA1047 r1046)⟩, (q_15 : ∀ (A1047 : Option Addr) (cA1047 : Nat), a1049.eval (.tmp 56) = .slice A1047 r1046.length cA1047 → a1049.eval (.tmp 15) = .slice A1047 r1046.length cA1047), -⟩ := hf1049 [1, 2] rfl
  have f_15 := q_15 _ _ f_56
  have e1049_15 := f_15
  have hX1049 := Evo.step hX1045 (fun _ => Nat.le_refl 0) hE1049 rfl
  have b1049_g997 := BlkO.evo (by decide) hE1049 b1045_g997
  have b1049_g999 := BlkO.evo (by decide) hE1049 b1045_g999
  have b1049_A1003 := RdO.evo rfl hE1049 b1045_A1003
  have b1049_cA1011 := BlkO.evo (by decide) hE1049 b1045_cA1011
  have b1049_cA1013 := MpN.evo rfl hE1049 b1045_cA1013
  have b1049_A1033 := RwO.evo rfl hE1049 b1045_A1033
  have b1049_A1034 := RwO.evo rfl hE1049 b1045_A1034
  have b1049_A1047 := b_A1047
  refine rg_plain_seq (n := 176) (rs := []) (own0 := own1049) (K := [])
      (bs := [0])
      (ds := [⟨[], [], [], Fct.val 16 (.int .i64 0)⟩]) (by kernel_rfl) hz1049 hd1049 (fun _ h => nomatch h) ?_ ?_
  · refine steps_cons (fun own a wx hf hsl hE => ?_) ?_
    · exact sg_plain rfl rfl (or_assign rfl)
    exact steps_nil
  intro own1050 a1050 w1050 hd1050 hz1050 hk1050 hf1050 hE1050
  have e1050_0 : a1050.eval (.tmp 0) = .slice A1003 x1002.length cA1003 := (hk1050 0 rfl).trans e1049_0
  have e1050_4 : a1050.eval (.tmp 4) = .int .i64 n5 := (hk1050 4 rfl).trans e1049_4
  have e1050_6 : a1050.eval (.tmp 6) = .pointer (some ⟨g997, 0, none⟩) := (hk1050 6 rfl).trans e1049_6
  have e1050_7 : a1050.eval (.tmp 7) = .pointer (some ⟨g999, 0, none⟩) := (hk1050 7 rfl).trans e1049_7
  have e1050_12 : a1050.eval (.tmp 12) = .pointer (some ⟨cA1011, 0, none⟩) := (hk1050 12 rfl).trans e1049_12
  have e1050_13 : a1050.eval (.tmp 13) = .slice none 0 0 := (hk1050 13 rfl).trans e1049_13
  have e1050_14 : a1050.eval (.tmp 14) = .slice none 0 0 := (hk1050 14 rfl).trans e1049_14
  have e1050_15 : a1050.eval (.tmp 15) = .slice A1047 r1046.length cA1047 := (hk1050 15 rfl).trans e1049_15
  obtain ⟨(f_16 : a1050.eval (.tmp 16) = .int .i64 0), -⟩ := hf1050 [0] rfl
  have e1050_16 := f_16
  have hX1050 := Evo.step hX1049 (fun _ => Nat.le_refl 0) hE1050 rfl
  have b1050_g997 := BlkO.evo (by decide) hE1050 b1049_g997
  have b1050_g999 := BlkO.evo (by decide) hE1050 b1049_g999
  have b1050_A1003 := RdO.evo rfl hE1050 b1049_A1003
  have b1050_cA1011 := BlkO.evo (by decide) hE1050 b1049_cA1011
  have b1050_cA1013 := MpN.evo rfl hE1050 b1049_cA1013
  have b1050_A1033 := RwO.evo rfl hE1050 b1049_A1033
  have b1050_A1034 := RwO.evo rfl hE1050 b1049_A1034
  have b1050_A1047 := RwO.evo rfl hE1050 b1049_A1047
  refine fl_seq (fun Q1051 hn1051 hp1051 => ?_)
  refine rg_plain_seq (n := 176) (rs := []) (own0 := own1050) (K := [])
      (bs := [0])
      (ds := [⟨[], [], [], Fct.val 17 (.int .i64 0)⟩]) (by kernel_rfl) hz1050 hd1050 (fun _ h => nomatch h) ?_ ?_
  · refine steps_cons (fun own a wx hf hsl hE => ?_) ?_
    · exact sg_plain rfl rfl (or_assign rfl)
    exact steps_nil
  intro own1052 a1052 w1052 hd1052 hz1052 hk1052 hf1052 hE1052
  have e1052_0 : a1052.eval (.tmp 0) = .slice A1003 x1002.length cA1003 := (hk1052 0 rfl).trans e1050_0
  have e1052_4 : a1052.eval (.tmp 4) = .int .i64 n5 := (hk1052 4 rfl).trans e1050_4
  have e1052_6 : a1052.eval (.tmp 6) = .pointer (some ⟨g997, 0, none⟩) := (hk1052 6 rfl).trans e1050_6
  have e1052_7 : a1052.eval (.tmp 7) = .pointer (some ⟨g999, 0, none⟩) := (hk1052 7 rfl).trans e1050_7
  have e1052_12 : a1052.eval (.tmp 12) = .pointer (some ⟨cA1011, 0, none⟩) := (hk1052 12 rfl).trans e1050_12
  have e1052_13 : a1052.eval (.tmp 13) = .slice none 0 0 := (hk1052 13 rfl).trans e1050_13
  have e1052_14 : a1052.eval (.tmp 14) = .slice none 0 0 := (hk1052 14 rfl).trans e1050_14
  have e1052_15 : a1052.eval (.tmp 15) = .slice A1047 r1046.length cA1047 := (hk1052 15 rfl).trans e1050_15
  have e1052_16 : a1052.eval (.tmp 16) = .int .i64 0 := (hk1052 16 rfl).trans e1050_16
  obtain ⟨(f_17 : a1052.eval (.tmp 17) = .int .i64 0), -⟩ := hf1052 [0] rfl
  have e1052_17 := f_17
  have hX1052 := Evo.step hX1050 (fun _ => Nat.le_refl 0) hE1052 rfl
  have b1052_g997 := BlkO.evo (by decide) hE1052 b1050_g997
  have b1052_g999 := BlkO.evo (by decide) hE1052 b1050_g999
  have b1052_A1003 := RdO.evo rfl hE1052 b1050_A1003
  have b1052_cA1011 := BlkO.evo (by decide) hE1052 b1050_cA1011
  have b1052_cA1013 := MpN.evo rfl hE1052 b1050_cA1013
  have b1052_A1033 := RwO.evo rfl hE1052 b1050_A1033
  have b1052_A1034 := RwO.evo rfl hE1052 b1050_A1034
  have b1052_A1047 := RwO.evo rfl hE1052 b1050_A1047
  refine fl_block (fun Q1053 hn1053 hx1053 hp1053 => ?_)
  refine fl_loop (body := (fun s => law06_RowsFind_b1 b2 p3 n5 x1002 r1032 r1046 s.1 s.2.1 s.2.2.1 s.2.2.2)) (z := r) (show loopO _ _ = _ from hs) (fun (s : (List Int) × (List Int) × Int × Int) a wx => match s with | (found1346, x1350, done1352, i1353) => ∃ (ox : Own) (A1344 : Option Addr) (c1345 : Nat) (A1348 : Option Addr) (c1349 : Nat), a.defers = [] ∧ a.tmps.size = 176 ∧ a.eval (.tmp 0) = .slice A1003 x1002.length cA1003 ∧ a.eval (.tmp 4) = .int .i64 n5 ∧ a.eval (.tmp 6) = .pointer (some ⟨g997, 0, none⟩) ∧ a.eval (.tmp 7) = .pointer (some ⟨g999, 0, none⟩) ∧ a.eval (.tmp 12) = .pointer (some ⟨cA1011, 0, none⟩) ∧ a.eval (.tmp 13) = .slice A1344 found1346.length c1345 ∧ a.eval (.tmp 14) = .slice A1348 x1350.length c1349 ∧ a.eval (.tmp 15) = .slice A1047 r1046.length cA1047 ∧ a.eval (.tmp 16) = .int .i64 done1352 ∧ a.eval (.tmp 17) = .int .i64 i1353 ∧ Evo [] (fun _ => 0) ox w wx ∧ RdO ox [0] wx R26 A1003 cA1003 x1002 ∧ BlkO ox 998 wx g997 26 #[.int .i64 b2.1.1, .int .i64 b2.1.2, .int .i64 b2.2.1, .int .i64 b2.2.2] ∧ BlkO ox 1000 wx g999 24 #[.int .i64 p3.1, .int .i64 p3.2] ∧ BlkO ox 1039 wx cA1011 62 #[.slice A1033 r1032.2.1.length cA1033, .map (some cA1013), .slice A1034 r1032.2.2.2.length cA1034] ∧ RwO ox 1035 [] wx 26 R26 A1033 cA1033 r1032.2.1 ∧ MpN ox 1036 1037 [] wx cA1013 vv35 3 R3 r1032.2.2.1 ∧ RwO ox 1038 [] wx 3 R3 A1034 cA1034 r1032.2.2.2 ∧ RwO ox 1347 [] wx 3 R3 A1344 c1345 found1346 ∧ RwO ox 1351 [] wx 3 R3 A1348 c1349 x1350 ∧ RwO ox 1048 [] wx 35 R35 A1047 cA1047 r1046) ?_ ?_
  · exact ⟨own1052, none, 0, none, 0, hd1052, hz1052, e1052_0, e1052_4, e1052_6, e1052_7, e1052_12, e1052_13, e1052_14, e1052_15, e1052_16, e1052_17, hX1052, b1052_A1003, b1052_g997, b1052_g999, b1052_cA1011, b1052_A1033, b1052_cA1013, b1052_A1034, RwO.nil_, RwO.nil_, b1052_A1047⟩
  · rintro ⟨found1346, x1350, done1352, i1353⟩ zz1648 a1648 w1648 ⟨own1648, A1344, c1345, A1348, c1349, hd1649, hz1649, e1649_0, e1649_4, e1649_6, e1649_7, e1649_12, e1649_13, e1649_14, e1649_15, e1649_16, e1649_17, hE1649, b1649_A1003, b1649_g997, b1649_g999, b1649_cA1011, b1649_A1033, b1649_cA1013, b1649_A1034, b1649_A1344, b1649_A1348, b1649_A1047⟩ hs Q1648 hn1648 hp1648 hz1648
    have hs : law06_RowsFind_b1 b2 p3 n5 x1002 r1032 r1046 found1346 x1350 done1352 i1353 = some zz1648 := hs
    refine fl_seq (fun Q1650 hn1650 hp1650 => ?_)
    refine rg_plain_seq (n := 176) (rs := []) (own0 := own1648) (K := [])
        (bs := [0, 0, 2, 7])
        (ds := [⟨[], [17], [], Fct.val 57 (.int .i64 i1353)⟩,
        ⟨[], [0], [], Fct.val 58 (.slice A1003 x1002.length cA1003)⟩,
        ⟨[1], [], [], Fct.val 59 (.int .i64 (x1002.length : Int))⟩,
        ⟨[0, 2], [], [], Fct.val 60 (.bool (decide (i1353 < (x1002.length : Int))))⟩]) (by kernel_rfl) hz1649 hd1649 (fun _ h => nomatch h) ?_ ?_
    · refine steps_cons (fun own a wx hf hsl hE => ?_) ?_
      · obtain ⟨s_17, -⟩ := hsl
        exact sg_plain rfl rfl (or_move (s_17.trans e1649_17))
      refine steps_cons (fun own a wx hf hsl hE => ?_) ?_
      · obtain ⟨s_0, -⟩ := hsl
        exact sg_plain rfl rfl (or_move (s_0.trans e1649_0))
      refine steps_cons (fun own a wx hf hsl hE => ?_) ?_
      · obtain ⟨(f_58 : a.eval (.tmp 58) = .slice A1003 x1002.length cA1003), -⟩ := hf
        exact sg_plain rfl rfl (or_len tu22 f_58 rfl)
      refine steps_cons (fun own a wx hf hsl hE => ?_) ?_
      · obtain ⟨(f_57 : a.eval (.tmp 57) = .int .i64 i1353), (f_59 : a.eval (.tmp 59) = .int .i64 (x1002.length : Int)), -⟩ := hf
        exact sg_plain rfl rfl (or_lss f_57 f_59 rfl)
      exact steps_nil
    intro own1651 a1651 w1651 hd1651 hz1651 hk1651 hf1651 hE1651
    have e1651_0 : a1651.eval (.tmp 0) = .slice A1003 x1002.length cA1003 := (hk1651 0 rfl).trans e1649_0
    have e1651_4 : a1651.eval (.tmp 4) = .int .i64 n5 := (hk1651 4 rfl).trans e1649_4
    have e1651_6 : a1651.eval (.tmp 6) = .pointer (some ⟨g997, 0, none⟩) := (hk1651 6 rfl).trans e1649_6
    have e1651_7 : a1651.eval (.tmp 7) = .pointer (some ⟨g999, 0, none⟩) := (hk1651 7 rfl).trans e1649_7
    have e1651_12 : a1651.eval (.tmp 12) = .pointer (some ⟨cA1011, 0, none⟩) := (hk1651 12 rfl).trans e1649_12
    have e1651_13 : a1651.eval (.tmp 13) = .slice A1344 found1346.length c1345 := (hk1651 13 rfl).trans e1649_13
    have e1651_14 : a1651.eval (.tmp 14) = .slice A1348 x1350.length c1349 := (hk1651 14 rfl).trans e1649_14
    have e1651_15 : a1651.eval (.tmp 15) = .slice A1047 r1046.length cA1047 := (hk1651 15 rfl).trans e1649_15
    have e1651_16 : a1651.eval (.tmp 16) = .int .i64 done1352 := (hk1651 16 rfl).trans e1649_16
    have e1651_17 : a1651.eval (.tmp 17) = .int .i64 i1353 := (hk1651 17 rfl).trans e1649_17
    obtain ⟨(f_60 : a1651.eval (.tmp 60) = .bool (decide (i1353 < (x1002.length : Int)))), -⟩ := hf1651 [3] rfl
    have e1651_60 := f_60
    have hX1651 := Evo.step hE1649 (fun _ => Nat.le_refl 0) hE1651 rfl
    have b1651_A1003 := RdO.evo rfl hE1651 b1649_A1003
    have b1651_g997 := BlkO.evo (by decide) hE1651 b1649_g997
    have b1651_g999 := BlkO.evo (by decide) hE1651 b1649_g999
    have b1651_cA1011 := BlkO.evo (by decide) hE1651 b1649_cA1011
    have b1651_A1033 := RwO.evo rfl hE1651 b1649_A1033
    have b1651_cA1013 := MpN.evo rfl hE1651 b1649_cA1013
    have b1651_A1034 := RwO.evo rfl hE1651 b1649_A1034
    have b1651_A1344 := RwO.evo rfl hE1651 b1649_A1344
    have b1651_A1348 := RwO.evo rfl hE1651 b1649_A1348
    have b1651_A1047 := RwO.evo rfl hE1651 b1649_A1047
    refine fl_cond e1651_60 hs (fun c1652 hs => ?_) (fun c1652 hs => ?_)
    · refine fl_skip ?_
      refine hn1650 _ _ ?_
      refine fl_seq (fun Q1653 hn1653 hp1653 => ?_)
      refine fl_block (fun Q1654 hn1654 hx1654 hp1654 => ?_)
      refine fl_seq (fun Q1655 hn1655 hp1655 => ?_)
      have K1674 : ∀ (a1674 : Act) (w1674 : World) (own1674 : Own) (found1672 : List Int) (A1670 : Option Addr) (c1671 : Nat), a1674.defers = [] → a1674.tmps.size = 176 → a1674.eval (.tmp 0) = .slice A1003 x1002.length cA1003 → a1674.eval (.tmp 4) = .int .i64 n5 → a1674.eval (.tmp 6) = .pointer (some ⟨g997, 0, none⟩) → a1674.eval (.tmp 7) = .pointer (some ⟨g999, 0, none⟩) → a1674.eval (.tmp 12) = .pointer (some ⟨cA1011, 0, none⟩) → a1674.eval (.tmp 13) = .slice A1670 found1672.length c1671 → a1674.eval (.tmp 14) = .slice A1348 x1350.length c1349 → a1674.eval (.tmp 15) = .slice A1047 r1046.length cA1047 → a1674.eval (.tmp 16) = .int .i64 done1352 → a1674.eval (.tmp 17) = .int .i64 i1353 → Evo [] (fun _ => 0) own1674 w w1674 → RdO own1674 [0] w1674 R26 A1003 cA1003 x1002 → BlkO own1674 998 w1674 g997 26 #[.int .i64 b2.1.1, .int .i64 b2.1.2, .int .i64 b2.2.1, .int .i64 b2.2.2] → BlkO own1674 1000 w1674 g999 24 #[.int .i64 p3.1, .int .i64 p3.2] → BlkO own1674 1039 w1674 cA1011 62 #[.slice A1033 r1032.2.1.length cA1033, .map (some cA1013), .slice A1034 r1032.2.2.2.length cA1034] → RwO own1674 1035 [] w1674 26 R26 A1033 cA1033 r1032.2.1 → MpN own1674 1036 1037 [] w1674 cA1013 vv35 3 R3 r1032.2.2.1 → RwO own1674 1038 [] w1674 3 R3 A1034 cA1034 r1032.2.2.2 → RwO own1674 1673 [] w1674 3 R3 A1670 c1671 found1672 → RwO own1674 1351 [] w1674 3 R3 A1348 c1349 x1350 → RwO own1674 1048 [] w1674 35 R35 A1047 cA1047 r1046 → law06_RowsFind_k2 p3 x1002 r1046 x1350 done1352 i1353 found1672 = some zz1648 → Q1655 .normal a1674 w1674 := by
        intro a1674 w1674 own1674 found1672 A1670 c1671 hd1675 hz1675 e1675_0 e1675_4 e1675_6 e1675_7 e1675_12 e1675_13 e1675_14 e1675_15 e1675_16 e1675_17 hE1675 b1675_A1003 b1675_g997 b1675_g999 b1675_cA1011 b1675_A1033 b1675_cA1013 b1675_A1034 b1675_A1670 b1675_A1348 b1675_A1047 hs
        refine hn1655 _ _ ?_
        refine fl_seq (fun Q1676 hn1676 hp1676 => ?_)
        have K1696 : ∀ (a1696 : Act) (w1696 : World) (own1696 : Own) (x1694 : List Int) (A1692 : Option Addr) (c1693 : Nat), a1696.defers = [] → a1696.tmps.size = 176 → a1696.eval (.tmp 0) = .slice A1003 x1002.length cA1003 → a1696.eval (.tmp 4) = .int .i64 n5 → a1696.eval (.tmp 6) = .pointer (some ⟨g997, 0, none⟩) → a1696.eval (.tmp 7) = .pointer (some ⟨g999, 0, none⟩) → a1696.eval (.tmp 12) = .pointer (some ⟨cA1011, 0, none⟩) → a1696.eval (.tmp 13) = .slice A1670 found1672.length c1671 → a1696.eval (.tmp 14) = .slice A1692 x1694.length c1693 → a1696.eval (.tmp 15) = .slice A1047 r1046.length cA1047 → a1696.eval (.tmp 16) = .int .i64 done1352 → a1696.eval (.tmp 17) = .int .i64 i1353 → Evo [] (fun _ => 0) own1696 w w1696 → RdO own1696 [0] w1696 R26 A1003 cA1003 x1002 → BlkO own1696 998 w1696 g997 26 #[.int .i64 b2.1.1, .int .i64 b2.1.2, .int .i64 b2.2.1, .int .i64 b2.2.2] → BlkO own1696 1000 w1696 g999 24 #[.int .i64 p3.1, .int .i64 p3.2] → BlkO own1696 1039 w1696 cA1011 62 #[.slice A1033 r1032.2.1.length cA1033, .map (some cA1013), .slice A1034 r1032.2.2.2.length cA1034] → RwO own1696 1035 [] w1696 26 R26 A1033 cA1033 r1032.2.1 → MpN own1696 1036 1037 [] w1696 cA1013 vv35 3 R3 r1032.2.2.1 → RwO own1696 1038 [] w1696 3 R3 A1034 cA1034 r1032.2.2.2 → RwO own1696 1673 [] w1696 3 R3 A1670 c1671 found1672 → RwO own1696 1695 [] w1696 3 R3 A1692 c1693 x1694 → RwO own1696 1048 [] w1696 35 R35 A1047 cA1047 r1046 → law06_RowsFind_k3 x1002 r1046 done1352 i1353 found1672 x1694 = some zz1648 → Q1676 .normal a1696 w1696 := by
          intro a1696 w1696 own1696 x1694 A1692 c1693 hd1697 hz1697 e1697_0 e1697_4 e1697_6 e1697_7 e1697_12 e1697_13 e1697_14 e1697_15 e1697_16 e1697_17 hE1697 b1697_A1003 b1697_g997 b1697_g999 b1697_cA1011 b1697_A1033 b1697_cA1013 b1697_A1034 b1697_A1670 b1697_A1692 b1697_A1047 hs
          refine hn1676 _ _ ?_
          refine rg_plain_seq (n := 176) (rs := []) (own0 := own1696) (K := [])
              (bs := [0, 1, 3])
              (ds := [⟨[], [17], [], Fct.val 90 (.int .i64 i1353)⟩,
              ⟨[0], [], [], Fct.val 91 (.int .i64 (ad i1353 1))⟩,
              ⟨[1], [], [], Fct.val 18 (.int .i64 (ad i1353 1))⟩]) (by kernel_rfl) hz1697 hd1697 (fun _ h => nomatch h) ?_ ?_
          · refine steps_cons (fun own a wx hf hsl hE => ?_) ?_
            · obtain ⟨s_17, -⟩ := hsl
              exact sg_plain rfl rfl (or_move (s_17.trans e1697_17))
            refine steps_cons (fun own a wx hf hsl hE => ?_) ?_
            · obtain ⟨(f_90 : a.eval (.tmp 90) = .int .i64 i1353), -⟩ := hf
              exact sg_plain rfl rfl (or_add f_90 rfl rfl)
            refine steps_cons (fun own a wx hf hsl hE => ?_) ?_
            · obtain ⟨(f_91 : a.eval (.tmp 91) = .int .i64 (ad i1353 1)), -⟩ := hf
              exact sg_plain rfl rfl (or_assign f_91)
            exact steps_nil
          intro own1698 a1698 w1698 hd1698 hz1698 hk1698 hf1698 hE1698
          have e1698_0 : a1698.eval (.tmp 0) = .slice A1003 x1002.length cA1003 := (hk1698 0 rfl).trans e1697_0
          have e1698_4 : a1698.eval (.tmp 4) = .int .i64 n5 := (hk1698 4 rfl).trans e1697_4
          have e1698_6 : a1698.eval (.tmp 6) = .pointer (some ⟨g997, 0, none⟩) := (hk1698 6 rfl).trans e1697_6
          have e1698_7 : a1698.eval (.tmp 7) = .pointer (some ⟨g999, 0, none⟩) := (hk1698 7 rfl).trans e1697_7
          have e1698_12 : a1698.eval (.tmp 12) = .pointer (some ⟨cA1011, 0, none⟩) := (hk1698 12 rfl).trans e1697_12
          have e1698_13 : a1698.eval (.tmp 13) = .slice A1670 found1672.length c1671 := (hk1698 13 rfl).trans e1697_13
          have e1698_14 : a1698.eval (.tmp 14) = .slice A1692 x1694.length c1693 := (hk1698 14 rfl).trans e1697_14
          have e1698_15 : a1698.eval (.tmp 15) = .slice A1047 r1046.length cA1047 := (hk1698 15 rfl).trans e1697_15
          have e1698_16 : a1698.eval (.tmp 16) = .int .i64 done1352 := (hk1698 16 rfl).trans e1697_16
          have e1698_17 : a1698.eval (.tmp 17) = .int .i64 i1353 := (hk1698 17 rfl).trans e1697_17
          obtain ⟨(f_18 : a1698.eval (.tmp 18) = .int .i64 (ad i1353 1)), -⟩ := hf1698 [2] rfl
          have e1698_18 := f_18
          have hX1698 := Evo.step hE1697 (fun _ => Nat.le_refl 0) hE1698 rfl
          have b1698_A1003 := RdO.evo rfl hE1698 b1697_A1003
          have b1698_g997 := BlkO.evo (by decide) hE1698 b1697_g997
          have b1698_g999 := BlkO.evo (by decide) hE1698 b1697_g999
          have b1698_cA1011 := BlkO.evo (by decide) hE1698 b1697_cA1011
          have b1698_A1033 := RwO.evo rfl hE1698 b1697_A1033
          have b1698_cA1013 := MpN.evo rfl hE1698 b1697_cA1013
          have b1698_A1034 := RwO.evo rfl hE1698 b1697_A1034
          have b1698_A1670 := RwO.evo rfl hE1698 b1697_A1670
          have b1698_A1692 := RwO.evo rfl hE1698 b1697_A1692
          have b1698_A1047 := RwO.evo rfl hE1698 b1697_A1047
          refine fl_block (fun Q1699 hn1699 hx1699 hp1699 => ?_)
          refine fl_loop (body := (fun s => law06_RowsFind_b4 x1002 r1046 i1353 found1672 x1694 s.1 s.2)) (z := zz1648) (show loopO _ _ = _ from hs) (fun (s : Int × Int) a wx => match s with | (done1770, j1771) => ∃ (ox : Own), a.defers = [] ∧ a.tmps.size = 176 ∧ a.eval (.tmp 0) = .slice A1003 x1002.length cA1003 ∧ a.eval (.tmp 4) = .int .i64 n5 ∧ a.eval (.tmp 6) = .pointer (some ⟨g997, 0, none⟩) ∧ a.eval (.tmp 7) = .pointer (some ⟨g999, 0, none⟩) ∧ a.eval (.tmp 12) = .pointer (some ⟨cA1011, 0, none⟩) ∧ a.eval (.tmp 13) = .slice A1670 found1672.length c1671 ∧ a.eval (.tmp 14) = .slice A1692 x1694.length c1693 ∧ a.eval (.tmp 15) = .slice A1047 r1046.length cA1047 ∧ a.eval (.tmp 16) = .int .i64 done1770 ∧ a.eval (.tmp 17) = .int .i64 i1353 ∧ a.eval (.tmp 18) = .int .i64 j1771 ∧ Evo [] (fun _ => 0) ox w wx ∧ RdO ox [0] wx R26 A1003 cA1003 x1002 ∧ BlkO ox 998 wx g997 26 #[.int .i64 b2.1.1, .int .i64 b2.1.2, .int .i64 b2.2.1, .int .i64 b2.2.2] ∧ BlkO ox 1000 wx g999 24 #[.int .i64 p3.1, .int .i64 p3.2] ∧ BlkO ox 1039 wx cA1011 62 #[.slice A1033 r1032.2.1.length cA1033, .map (some cA1013), .slice A1034 r1032.2.2.2.length cA1034] ∧ RwO ox 1035 [] wx 26 R26 A1033 cA1033 r1032.2.1 ∧ MpN ox 1036 1037 [] wx cA1013 vv35 3 R3 r1032.2.2.1 ∧ RwO ox 1038 [] wx 3 R3 A1034 cA1034 r1032.2.2.2 ∧ RwO ox 1673 [] wx 3 R3 A1670 c1671 found1672 ∧ RwO ox 1695 [] wx 3 R3 A1692 c1693 x1694 ∧ RwO ox 1048 [] wx 35 R35 A1047 cA1047 r1046) ?_ ?_
          · exact ⟨own1698, hd1698, hz1698, e1698_0, e1698_4, e1698_6, e1698_7, e1698_12, e1698_13, e1698_14, e1698_15, e1698_16, e1698_17, e1698_18, hX1698, b1698_A1003, b1698_g997, b1698_g999, b1698_cA1011, b1698_A1033, b1698_cA1013, b1698_A1034, b1698_A1670, b1698_A1692, b1698_A1047⟩
          · rintro ⟨done1770, j1771⟩ zz1842 a1842 w1842 ⟨own1842, hd1843, hz1843, e1843_0, e1843_4, e1843_6, e1843_7, e1843_12, e1843_13, e1843_14, e1843_15, e1843_16, e1843_17, e1843_18, hE1843, b1843_A1003, b1843_g997, b1843_g999, b1843_cA1011, b1843_A1033, b1843_cA1013, b1843_A1034, b1843_A1670, b1843_A1692, b1843_A1047⟩ hs Q1842 hn1842 hp1842 hz1842
            have hs : law06_RowsFind_b4 x1002 r1046 i1353 found1672 x1694 done1770 j1771 = some zz1842 := hs
            refine fl_seq (fun Q1844 hn1844 hp1844 => ?_)
            refine rg_plain_seq (n := 176) (rs := []) (own0 := own1842) (K := [])
                (bs := [0, 0, 2, 7])
                (ds := [⟨[], [18], [], Fct.val 92 (.int .i64 j1771)⟩,
                ⟨[], [0], [], Fct.val 93 (.slice A1003 x1002.length cA1003)⟩,
                ⟨[1], [], [], Fct.val 94 (.int .i64 (x1002.length : Int))⟩,
                ⟨[0, 2], [], [], Fct.val 95 (.bool (decide (j1771 < (x1002.length : Int))))⟩]) (by kernel_rfl) hz1843 hd1843 (fun _ h => nomatch h) ?_ ?_
            · refine steps_cons (fun own a wx hf hsl hE => ?_) ?_
              · obtain ⟨s_18, -⟩ := hsl
                exact sg_plain rfl rfl (or_move (s_18.trans e1843_18))
              refine steps_cons (fun own a wx hf hsl hE => ?_) ?_
              · obtain ⟨s_0, -⟩ := hsl
                exact sg_plain rfl rfl (or_move (s_0.trans e1843_0))
              refine steps_cons (fun own a wx hf hsl hE => ?_) ?_
              · obtain ⟨(f_93 : a.eval (.tmp 93) = .slice A1003 x1002.length cA1003), -⟩ := hf
                exact sg_plain rfl rfl (or_len tu22 f_93 rfl)
              refine steps_cons (fun own a wx hf hsl hE => ?_) ?_
              · obtain ⟨(f_92 : a.eval (.tmp 92) = .int .i64 j1771), (f_94 : a.eval (.tmp 94) = .int .i64 (x1002.length : Int)), -⟩ := hf
                exact sg_plain rfl rfl (or_lss f_92 f_94 rfl)
              exact steps_nil
            intro own1845 a1845 w1845 hd1845 hz1845 hk1845 hf1845 hE1845
            have e1845_0 : a1845.eval (.tmp 0) = .slice A1003 x1002.length cA1003 := (hk1845 0 rfl).trans e1843_0
            have e1845_4 : a1845.eval (.tmp 4) = .int .i64 n5 := (hk1845 4 rfl).trans e1843_4
            have e1845_6 : a1845.eval (.tmp 6) = .pointer (some ⟨g997, 0, none⟩) := (hk1845 6 rfl).trans e1843_6
            have e1845_7 : a1845.eval (.tmp 7) = .pointer (some ⟨g999, 0, none⟩) := (hk1845 7 rfl).trans e1843_7
            have e1845_12 : a1845.eval (.tmp 12) = .pointer (some ⟨cA1011, 0, none⟩) := (hk1845 12 rfl).trans e1843_12
            have e1845_13 : a1845.eval (.tmp 13) = .slice A1670 found1672.length c1671 := (hk1845 13 rfl).trans e1843_13
            have e1845_14 : a1845.eval (.tmp 14) = .slice A1692 x1694.length c1693 := (hk1845 14 rfl).trans e1843_14
            have e1845_15 : a1845.eval (.tmp 15) = .slice A1047 r1046.length cA1047 := (hk1845 15 rfl).trans e1843_15
            have e1845_16 : a1845.eval (.tmp 16) = .int .i64 done1770 := (hk1845 16 rfl).trans e1843_16
            have e1845_17 : a1845.eval (.tmp 17) = .int .i64 i1353 := (hk1845 17 rfl).trans e1843_17
            have e1845_18 : a1845.eval (.tmp 18) = .int .i64 j1771 := (hk1845 18 rfl).trans e1843_18
            obtain ⟨(f_95 : a1845.eval (.tmp 95) = .bool (decide (j1771 < (x1002.length : Int)))), -⟩ := hf1845 [3] rfl
            have e1845_95 := f_95
            have hX1845 := Evo.step hE1843 (fun _ => Nat.le_refl 0) hE1845 rfl
            have b1845_A1003 := RdO.evo rfl hE1845 b1843_A1003
            have b1845_g997 := BlkO.evo (by decide) hE1845 b1843_g997
            have b1845_g999 := BlkO.evo (by decide) hE1845 b1843_g999
            have b1845_cA1011 := BlkO.evo (by decide) hE1845 b1843_cA1011
            have b1845_A1033 := RwO.evo rfl hE1845 b1843_A1033
            have b1845_cA1013 := MpN.evo rfl hE1845 b1843_cA1013
            have b1845_A1034 := RwO.evo rfl hE1845 b1843_A1034
            have b1845_A1670 := RwO.evo rfl hE1845 b1843_A1670
            have b1845_A1692 := RwO.evo rfl hE1845 b1843_A1692
            have b1845_A1047 := RwO.evo rfl hE1845 b1843_A1047
            refine fl_cond e1845_95 hs (fun c1846 hs => ?_) (fun c1846 hs => ?_)
            · refine fl_skip ?_
              refine hn1844 _ _ ?_
              refine fl_seq (fun Q1847 hn1847 hp1847 => ?_)
              refine fl_block (fun Q1880 hn1880 hx1880 hp1880 => ?_)
              have K1896 : ∀ (a1896 : Act) (w1896 : World) (own1896 : Own) (done1895 : Int), a1896.defers = [] → a1896.tmps.size = 176 → a1896.eval (.tmp 0) = .slice A1003 x1002.length cA1003 → a1896.eval (.tmp 4) = .int .i64 n5 → a1896.eval (.tmp 6) = .pointer (some ⟨g997, 0, none⟩) → a1896.eval (.tmp 7) = .pointer (some ⟨g999, 0, none⟩) → a1896.eval (.tmp 12) = .pointer (some ⟨cA1011, 0, none⟩) → a1896.eval (.tmp 13) = .slice A1670 found1672.length c1671 → a1896.eval (.tmp 14) = .slice A1692 x1694.length c1693 → a1896.eval (.tmp 15) = .slice A1047 r1046.length cA1047 → a1896.eval (.tmp 16) = .int .i64 done1895 → a1896.eval (.tmp 17) = .int .i64 i1353 → a1896.eval (.tmp 18) = .int .i64 j1771 → Evo [] (fun _ => 0) own1896 w w1896 → RdO own1896 [0] w1896 R26 A1003 cA1003 x1002 → BlkO own1896 998 w1896 g997 26 #[.int .i64 b2.1.1, .int .i64 b2.1.2, .int .i64 b2.2.1, .int .i64 b2.2.2] → BlkO own1896 1000 w1896 g999 24 #[.int .i64 p3.1, .int .i64 p3.2] → BlkO own1896 1039 w1896 cA1011 62 #[.slice A1033 r1032.2.1.length cA1033, .map (some cA1013), .slice A1034 r1032.2.2.2.length cA1034] → RwO own1896 1035 [] w1896 26 R26 A1033 cA1033 r1032.2.1 → MpN own1896 1036 1037 [] w1896 cA1013 vv35 3 R3 r1032.2.2.1 → RwO own1896 1038 [] w1896 3 R3 A1034 cA1034 r1032.2.2.2 → RwO own1896 1673 [] w1896 3 R3 A1670 c1671 found1672 → RwO own1896 1695 [] w1896 3 R3 A1692 c1693 x1694 → RwO own1896 1048 [] w1896 35 R35 A1047 cA1047 r1046 → law06_RowsFind_k5 j1771 done1895 = some zz1842 → (Q1880 .normal a1896 w1896 ∧ Q1880 (.exit 3) a1896 w1896) := by
                intro a1896 w1896 own1896 done1895 hd1897 hz1897 e1897_0 e1897_4 e1897_6 e1897_7 e1897_12 e1897_13 e1897_14 e1897_15 e1897_16 e1897_17 e1897_18 hE1897 b1897_A1003 b1897_g997 b1897_g999 b1897_cA1011 b1897_A1033 b1897_cA1013 b1897_A1034 b1897_A1670 b1897_A1692 b1897_A1047 hs
                refine and_both (hn1880 _ _) (hx1880 _ _) ?_
                refine hn1847 _ _ ?_
                refine rg_plain (n := 176) (rs := []) (own0 := own1896) (K := [])
                    (bs := [0, 1, 3])
                    (ds := [⟨[], [18], [], Fct.val 96 (.int .i64 j1771)⟩,
                    ⟨[0], [], [], Fct.val 97 (.int .i64 (ad j1771 1))⟩,
                    ⟨[1], [], [], Fct.val 18 (.int .i64 (ad j1771 1))⟩]) (by kernel_rfl) hz1897 hd1897 (fun _ h => nomatch h) ?_ ?_
                · refine steps_cons (fun own a wx hf hsl hE => ?_) ?_
                  · obtain ⟨s_18, -⟩ := hsl
                    exact sg_plain rfl rfl (or_move (s_18.trans e1897_18))
                  refine steps_cons (fun own a wx hf hsl hE => ?_) ?_
                  · obtain ⟨(f_96 : a.eval (.tmp 96) = .int .i64 j1771), -⟩ := hf
                    exact sg_plain rfl rfl (or_add f_96 rfl rfl)
                  refine steps_cons (fun own a wx hf hsl hE => ?_) ?_
                  · obtain ⟨(f_97 : a.eval (.tmp 97) = .int .i64 (ad j1771 1)), -⟩ := hf
                    exact sg_plain rfl rfl (or_assign f_97)
                  exact steps_nil
                intro own1898 a1898 w1898 hd1898 hz1898 hk1898 hf1898 hE1898
                have e1898_0 : a1898.eval (.tmp 0) = .slice A1003 x1002.length cA1003 := (hk1898 0 rfl).trans e1897_0
                have e1898_4 : a1898.eval (.tmp 4) = .int .i64 n5 := (hk1898 4 rfl).trans e1897_4
                have e1898_6 : a1898.eval (.tmp 6) = .pointer (some ⟨g997, 0, none⟩) := (hk1898 6 rfl).trans e1897_6
                have e1898_7 : a1898.eval (.tmp 7) = .pointer (some ⟨g999, 0, none⟩) := (hk1898 7 rfl).trans e1897_7
                have e1898_12 : a1898.eval (.tmp 12) = .pointer (some ⟨cA1011, 0, none⟩) := (hk1898 12 rfl).trans e1897_12
                have e1898_13 : a1898.eval (.tmp 13) = .slice A1670 found1672.length c1671 := (hk1898 13 rfl).trans e1897_13
                have e1898_14 : a1898.eval (.tmp 14) = .slice A1692 x1694.length c1693 := (hk1898 14 rfl).trans e1897_14
                have e1898_15 : a1898.eval (.tmp 15) = .slice A1047 r1046.length cA1047 := (hk1898 15 rfl).trans e1897_15
                have e1898_16 : a1898.eval (.tmp 16) = .int .i64 done1895 := (hk1898 16 rfl).trans e1897_16
                have e1898_17 : a1898.eval (.tmp 17) = .int .i64 i1353 := (hk1898 17 rfl).trans e1897_17
                obtain ⟨(f_18 : a1898.eval (.tmp 18) = .int .i64 (ad j1771 1)), -⟩ := hf1898 [2] rfl
                have e1898_18 := f_18
                have hX1898 := Evo.step hE1897 (fun _ => Nat.le_refl 0) hE1898 rfl
                have b1898_A1003 := RdO.evo rfl hE1898 b1897_A1003
                have b1898_g997 := BlkO.evo (by decide) hE1898 b1897_g997
                have b1898_g999 := BlkO.evo (by decide) hE1898 b1897_g999
                have b1898_cA1011 := BlkO.evo (by decide) hE1898 b1897_cA1011
                have b1898_A1033 := RwO.evo rfl hE1898 b1897_A1033
                have b1898_cA1013 := MpN.evo rfl hE1898 b1897_cA1013
                have b1898_A1034 := RwO.evo rfl hE1898 b1897_A1034
                have b1898_A1670 := RwO.evo rfl hE1898 b1897_A1670
                have b1898_A1692 := RwO.evo rfl hE1898 b1897_A1692
                have b1898_A1047 := RwO.evo rfl hE1898 b1897_A1047
                exact hn1842 _ _ _ hs ⟨own1898, hd1898, hz1898, e1898_0, e1898_4, e1898_6, e1898_7, e1898_12, e1898_13, e1898_14, e1898_15, e1898_16, e1898_17, e1898_18, hX1898, b1898_A1003, b1898_g997, b1898_g999, b1898_cA1011, b1898_A1033, b1898_cA1013, b1898_A1034, b1898_A1670, b1898_A1692, b1898_A1047⟩
              obtain ⟨x1899, hx1899, hs⟩ := obind hs
              obtain ⟨r1900, hr1900, hs⟩ := obind hs
              obtain ⟨x1901, hx1901, hs⟩ := obind hs
              obtain ⟨r1902, hr1902, hs⟩ := obind hs
              obtain ⟨r1903, hr1903, hs⟩ := obind hs
              refine rg_draw_seq g_mixed (n := 176) (rs := []) (own0 := own1845) (K := [])
                  (bs := [0, 0, 3, 7, 15, 0, 0, 96, 224, 511, 1023])
                  (ds := [⟨[], [0], [], Fct.val 98 (.slice A1003 x1002.length cA1003)⟩,
                  ⟨[], [17], [], Fct.val 99 (.int .i64 i1353)⟩,
                  ⟨[0, 1], [], [], Fct.val 100 (.pointer (some ((adr A1003).add ((i1353 : Int).toNat * R26.s))))⟩,
                  ⟨[2], [], [], Fct.val 101 (.agg #[.int .i64 x1899.1.1, .int .i64 x1899.1.2, .int .i64 x1899.2.1, .int .i64 x1899.2.2])⟩,
                  ⟨[3], [], [], Fct.val 102 (.agg #[.int .i64 r1900.1.1, .int .i64 r1900.1.2, .int .i64 r1900.2.1, .int .i64 r1900.2.2])⟩,
                  ⟨[], [0], [], Fct.val 103 (.slice A1003 x1002.length cA1003)⟩,
                  ⟨[], [18], [], Fct.val 104 (.int .i64 j1771)⟩,
                  ⟨[5, 6], [], [], Fct.val 105 (.pointer (some ((adr A1003).add ((j1771 : Int).toNat * R26.s))))⟩,
                  ⟨[7], [], [], Fct.val 106 (.agg #[.int .i64 x1901.1.1, .int .i64 x1901.1.2, .int .i64 x1901.2.1, .int .i64 x1901.2.2])⟩,
                  ⟨[8], [], [], Fct.val 107 (.agg #[.int .i64 r1902.1.1, .int .i64 r1902.1.2, .int .i64 r1902.2.1, .int .i64 r1902.2.2])⟩,
                  ⟨[4, 9], [], [], Fct.val 108 (.bool r1903)⟩]) (by kernel_rfl) hz1845 hd1845 (fun _ h => nomatch h) ?_ ?_
              · refine steps_cons (fun own a wx hf hsl hE => ?_) ?_
                · obtain ⟨s_0, -⟩ := hsl
                  exact sg_plain rfl rfl (or_move (s_0.trans e1845_0))
                refine steps_cons (fun own a wx hf hsl hE => ?_) ?_
                · obtain ⟨s_17, -⟩ := hsl
                  exact sg_plain rfl rfl (or_move (s_17.trans e1845_17))
                refine steps_cons (fun own a wx hf hsl hE => ?_) ?_
                · obtain ⟨(f_98 : a.eval (.tmp 98) = .slice A1003 x1002.length cA1003), (f_99 : a.eval (.tmp 99) = .int .i64 i1353), -⟩ := hf
                  exact sg_plain rfl rfl (or_index (R := R26) (l := x1002) tl22 f_98 f_99 (RdO.some_ b1845_A1003 hx1899) hx1899)
                refine steps_cons (fun own a wx hf hsl hE => ?_) ?_
                · obtain ⟨(f_100 : a.eval (.tmp 100) = .pointer (some ((adr A1003).add ((i1353 : Int).toNat * R26.s)))), -⟩ := hf
                  exact sg_plain rfl rfl (or_load (l := E26.f x1899) ta26 f_100 (RdO.cells (F := E26) (RdO.evo rfl hE b1845_A1003) hx1899) rfl)
                refine steps_cons (fun own a wx hf hsl hE => ?_) ?_
                · obtain ⟨(f_101 : a.eval (.tmp 101) = .agg #[.int .i64 x1899.1.1, .int .i64 x1899.1.2, .int .i64 x1899.2.1, .int .i64 x1899.2.2]), -⟩ := hf
                  exact sg_plain rfl rfl (or_call cf17 (args1 f_101) (law06_of_w _ x1899  r1900 hr1900) post_val)
                refine steps_cons (fun own a wx hf hsl hE => ?_) ?_
                · obtain ⟨s_0, -⟩ := hsl
                  exact sg_plain rfl rfl (or_move (s_0.trans e1845_0))
                refine steps_cons (fun own a wx hf hsl hE => ?_) ?_
                · obtain ⟨s_18, -⟩ := hsl
                  exact sg_plain rfl rfl (or_move (s_18.trans e1845_18))
                refine steps_cons (fun own a wx hf hsl hE => ?_) ?_
                · obtain ⟨(f_103 : a.eval (.tmp 103) = .slice A1003 x1002.length cA1003), (f_104 : a.eval (.tmp 104) = .int .i64 j1771), -⟩ := hf
                  exact sg_plain rfl rfl (or_index (R := R26) (l := x1002) tl22 f_103 f_104 (RdO.some_ b1845_A1003 hx1901) hx1901)
                refine steps_cons (fun own a wx hf hsl hE => ?_) ?_
                · obtain ⟨(f_105 : a.eval (.tmp 105) = .pointer (some ((adr A1003).add ((j1771 : Int).toNat * R26.s)))), -⟩ := hf
                  exact sg_plain rfl rfl (or_load (l := E26.f x1901) ta26 f_105 (RdO.cells (F := E26) (RdO.evo rfl hE b1845_A1003) hx1901) rfl)
                refine steps_cons (fun own a wx hf hsl hE => ?_) ?_
                · obtain ⟨(f_106 : a.eval (.tmp 106) = .agg #[.int .i64 x1901.1.1, .int .i64 x1901.1.2, .int .i64 x1901.2.1, .int .i64 x1901.2.2]), -⟩ := hf
                  exact sg_plain rfl rfl (or_call cf17 (args1 f_106) (law06_of_w _ x1901  r1902 hr1902) post_val)
                refine steps_cons (fun own a wx hf hsl hE => ?_) ?_
                · obtain ⟨(f_102 : a.eval (.tmp 102) = .agg #[.int .i64 r1900.1.1, .int .i64 r1900.1.2, .int .i64 r1900.2.1, .int .i64 r1900.2.2]), (f_107 : a.eval (.tmp 107) = .agg #[.int .i64 r1902.1.1, .int .i64 r1902.1.2, .int .i64 r1902.2.1, .int .i64 r1902.2.2]), -⟩ := hf
                  exact sg_plain rfl rfl (or_call cf16 (args2 f_102 f_107) (ref06_Meet_w _ r1900 r1902  r1903 hr1903) post_val)
                exact steps_nil
              intro own1904 a1904 w1904 hd1904 hz1904 hk1904 hf1904 hE1904
              have e1904_0 : a1904.eval (.tmp 0) = .slice A1003 x1002.length cA1003 := (hk1904 0 rfl).trans e1845_0
              have e1904_4 : a1904.eval (.tmp 4) = .int .i64 n5 := (hk1904 4 rfl).trans e1845_4
              have e1904_6 : a1904.eval (.tmp 6) = .pointer (some ⟨g997, 0, none⟩) := (hk1904 6 rfl).trans e1845_6
              have e1904_7 : a1904.eval (.tmp 7) = .pointer (some ⟨g999, 0, none⟩) := (hk1904 7 rfl).trans e1845_7
              have e1904_12 : a1904.eval (.tmp 12) = .pointer (some ⟨cA1011, 0, none⟩) := (hk1904 12 rfl).trans e1845_12
              have e1904_13 : a1904.eval (.tmp 13) = .slice A1670 found1672.length c1671 := (hk1904 13 rfl).trans e1845_13
              have e1904_14 : a1904.eval (.tmp 14) = .slice A1692 x1694.length c1693 := (hk1904 14 rfl).trans e1845_14
              have e1904_15 : a1904.eval (.tmp 15) = .slice A1047 r1046.length cA1047 := (hk1904 15 rfl).trans e1845_15
              have e1904_16 : a1904.eval (.tmp 16) = .int .i64 done1770 := (hk1904 16 rfl).trans e1845_16
              have e1904_17 : a1904.eval (.tmp 17) = .int .i64 i1353 := (hk1904 17 rfl).trans e1845_17
              have e1904_18 : a1904.eval (.tmp 18) = .int .i64 j1771 := (hk1904 18 rfl).trans e1845_18
              obtain ⟨(f_108 : a1904.eval (.tmp 108) = .bool r1903), -⟩ := hf1904 [10] rfl
              have e1904_108 := f_108
              have hX1904 := Evo.step hX1845 (fun _ => Nat.le_refl 0) hE1904 rfl
              have b1904_A1003 := RdO.evo rfl hE1904 b1845_A1003
              have b1904_g997 := BlkO.evo (by decide) hE1904 b1845_g997
              have b1904_g999 := BlkO.evo (by decide) hE1904 b1845_g999
              have b1904_cA1011 := BlkO.evo (by decide) hE1904 b1845_cA1011
              have b1904_A1033 := RwO.evo rfl hE1904 b1845_A1033
              have b1904_cA1013 := MpN.evo rfl hE1904 b1845_cA1013
              have b1904_A1034 := RwO.evo rfl hE1904 b1845_A1034
              have b1904_A1670 := RwO.evo rfl hE1904 b1845_A1670
              have b1904_A1692 := RwO.evo rfl hE1904 b1845_A1692
              have b1904_A1047 := RwO.evo rfl hE1904 b1845_A1047
              refine fl_cond e1904_108 hs (fun c1905 hs => ?_) (fun c1905 hs => ?_)
              · refine fl_seq (fun Q1906 hn1906 hp1906 => ?_)
                obtain ⟨x1907, hx1907, hs⟩ := obind hs
                obtain ⟨x1908, hx1908, hs⟩ := obind hs
                refine rg_plain_seq (n := 176) (rs := []) (own0 := own1904) (K := [])
                    (bs := [0, 0, 2, 7, 15, 31, 31, 127, 255, 31, 31, 1567, 4095, 8191])
                    (ds := [⟨[], [16], [], Fct.val 109 (.int .i64 done1770)⟩,
                    ⟨[], [15], [], Fct.val 110 (.slice A1047 r1046.length cA1047)⟩,
                    ⟨[1], [], [], Fct.val 111 (.int .i64 (r1046.length : Int))⟩,
                    ⟨[0, 2], [], [], Fct.val 112 (.bool (decide ((r1046.length : Int) ≤ done1770)))⟩,
                    ⟨[3], [], [], Fct.val 113 (.bool (decide ((r1046.length : Int) ≤ done1770)))⟩,
                    ⟨[4], [15], [], Fct.cond (!(decide ((r1046.length : Int) ≤ done1770))) (some 114) (Fct.val 114 (.slice A1047 r1046.length cA1047))⟩,
                    ⟨[4], [16], [], Fct.cond (!(decide ((r1046.length : Int) ≤ done1770))) (some 115) (Fct.val 115 (.int .i64 done1770))⟩,
                    ⟨[4, 5, 6], [], [], Fct.cond (!(decide ((r1046.length : Int) ≤ done1770))) (some 116) (Fct.val 116 (.pointer (some ((adr A1047).add ((done1770 : Int).toNat * R35.s)))))⟩,
                    ⟨[4, 7], [], [], Fct.cond (!(decide ((r1046.length : Int) ≤ done1770))) (some 117) (Fct.val 117 (.agg #[.int .i64 x1907.1, .int .i64 x1907.2]))⟩,
                    ⟨[4], [17], [], Fct.cond (!(decide ((r1046.length : Int) ≤ done1770))) (some 118) (Fct.val 118 (.int .i64 i1353))⟩,
                    ⟨[4], [18], [], Fct.cond (!(decide ((r1046.length : Int) ≤ done1770))) (some 119) (Fct.val 119 (.int .i64 j1771))⟩,
                    ⟨[4, 9, 10], [], [], Fct.cond (!(decide ((r1046.length : Int) ≤ done1770))) (some 120) (Fct.val 120 (.agg #[.int .i64 i1353, .int .i64 j1771]))⟩,
                    ⟨[4, 8, 11], [], [], Fct.cond (!(decide ((r1046.length : Int) ≤ done1770))) (some 121) (Fct.val 121 (.bool (!decide (x1907 = (i1353, j1771)))))⟩,
                    ⟨[4, 12], [], [], Fct.val 122 (.bool x1908)⟩]) (by kernel_rfl) hz1904 hd1904 (fun _ h => nomatch h) ?_ ?_
                · refine steps_cons (fun own a wx hf hsl hE => ?_) ?_
                  · obtain ⟨s_16, -⟩ := hsl
                    exact sg_plain rfl rfl (or_move (s_16.trans e1904_16))
                  refine steps_cons (fun own a wx hf hsl hE => ?_) ?_
                  · obtain ⟨s_15, -⟩ := hsl
                    exact sg_plain rfl rfl (or_move (s_15.trans e1904_15))
                  refine steps_cons (fun own a wx hf hsl hE => ?_) ?_
                  · obtain ⟨(f_110 : a.eval (.tmp 110) = .slice A1047 r1046.length cA1047), -⟩ := hf
                    exact sg_plain rfl rfl (or_len tu30 f_110 rfl)
                  refine steps_cons (fun own a wx hf hsl hE => ?_) ?_
                  · obtain ⟨(f_109 : a.eval (.tmp 109) = .int .i64 done1770), (f_111 : a.eval (.tmp 111) = .int .i64 (r1046.length : Int)), -⟩ := hf
                    exact sg_plain rfl rfl (or_geq f_109 f_111 rfl)
                  refine steps_cons (fun own a wx hf hsl hE => ?_) ?_
                  · obtain ⟨(f_112 : a.eval (.tmp 112) = .bool (decide ((r1046.length : Int) ≤ done1770))), -⟩ := hf
                    exact sg_plain rfl rfl (or_move f_112)
                  refine steps_cons (fun own a wx hf hsl hE => ?_) ?_
                  · obtain ⟨(f_113 : a.eval (.tmp 113) = .bool (decide ((r1046.length : Int) ≤ done1770))), -⟩ := hf
                    obtain ⟨s_15, -⟩ := hsl
                    refine sg_f rfl rfl rfl f_113 (fun hg => ?_)
                    exact or_move (s_15.trans e1904_15)
                  refine steps_cons (fun own a wx hf hsl hE => ?_) ?_
                  · obtain ⟨(f_113 : a.eval (.tmp 113) = .bool (decide ((r1046.length : Int) ≤ done1770))), -⟩ := hf
                    obtain ⟨s_16, -⟩ := hsl
                    refine sg_f rfl rfl rfl f_113 (fun hg => ?_)
                    exact or_move (s_16.trans e1904_16)
                  refine steps_cons (fun own a wx hf hsl hE => ?_) ?_
                  · obtain ⟨(f_113 : a.eval (.tmp 113) = .bool (decide ((r1046.length : Int) ≤ done1770))), c_114, c_115, -⟩ := hf
                    refine sg_f rfl rfl rfl f_113 (fun hg => ?_)
                    have f_114 : a.eval (.tmp 114) = .slice A1047 r1046.length cA1047 := c_114.1 hg
                    have f_115 : a.eval (.tmp 115) = .int .i64 done1770 := c_115.1 hg
                    exact or_index (R := R35) (l := r1046) tl30 f_114 f_115 (RdO.some_ (RwO.rd b1904_A1047) (gd_t hx1907 hg)) (gd_t hx1907 hg)
                  refine steps_cons (fun own a wx hf hsl hE => ?_) ?_
                  · obtain ⟨(f_113 : a.eval (.tmp 113) = .bool (decide ((r1046.length : Int) ≤ done1770))), c_116, -⟩ := hf
                    refine sg_f rfl rfl rfl f_113 (fun hg => ?_)
                    have f_116 : a.eval (.tmp 116) = .pointer (some ((adr A1047).add ((done1770 : Int).toNat * R35.s))) := c_116.1 hg
                    exact or_load (l := E35.f x1907) ta35 f_116 (RdO.cells (F := E35) (RwO.rd (RwO.evo rfl hE b1904_A1047)) (gd_t hx1907 hg)) rfl
                  refine steps_cons (fun own a wx hf hsl hE => ?_) ?_
                  · obtain ⟨(f_113 : a.eval (.tmp 113) = .bool (decide ((r1046.length : Int) ≤ done1770))), -⟩ := hf
                    obtain ⟨s_17, -⟩ := hsl
                    refine sg_f rfl rfl rfl f_113 (fun hg => ?_)
                    exact or_move (s_17.trans e1904_17)
                  refine steps_cons (fun own a wx hf hsl hE => ?_) ?_
                  · obtain ⟨(f_113 : a.eval (.tmp 113) = .bool (decide ((r1046.length : Int) ≤ done1770))), -⟩ := hf
                    obtain ⟨s_18, -⟩ := hsl
                    refine sg_f rfl rfl rfl f_113 (fun hg => ?_)
                    exact or_move (s_18.trans e1904_18)
                  refine steps_cons (fun own a wx hf hsl hE => ?_) ?_
                  · obtain ⟨(f_113 : a.eval (.tmp 113) = .bool (decide ((r1046.length : Int) ≤ done1770))), c_118, c_119, -⟩ := hf
                    refine sg_f rfl rfl rfl f_113 (fun hg => ?_)
                    have f_118 : a.eval (.tmp 118) = .int .i64 i1353 := c_118.1 hg
                    have f_119 : a.eval (.tmp 119) = .int .i64 j1771 := c_119.1 hg
                    exact or_k [(118, .int .i64 i1353), (119, .int .i64 j1771)] rfl rfl ⟨f_118, f_119, trivial⟩ (by kernel_rfl)
                  refine steps_cons (fun own a wx hf hsl hE => ?_) ?_
                  · obtain ⟨(f_113 : a.eval (.tmp 113) = .bool (decide ((r1046.length : Int) ≤ done1770))), c_117, c_120, -⟩ := hf
                    refine sg_f rfl rfl rfl f_113 (fun hg => ?_)
                    have f_117 : a.eval (.tmp 117) = .agg #[.int .i64 x1907.1, .int .i64 x1907.2] := c_117.1 hg
                    have f_120 : a.eval (.tmp 120) = .agg #[.int .i64 i1353, .int .i64 j1771] := c_120.1 hg
                    exact or_neqA sg35 f_117 f_120 (sn35 x1907.1 x1907.2 i1353 j1771 _) rfl
                  refine steps_cons (fun own a wx hf hsl hE => ?_) ?_
                  · obtain ⟨(f_113 : a.eval (.tmp 113) = .bool (decide ((r1046.length : Int) ≤ done1770))), c_121, -⟩ := hf
                    exact sg_plain rfl rfl (or_or f_113 rfl (fun hx => c_121.1 hx) (osome hx1908).symm)
                  exact steps_nil
                intro own1909 a1909 w1909 hd1909 hz1909 hk1909 hf1909 hE1909
                have e1909_0 : a1909.eval (.tmp 0) = .slice A1003 x1002.length cA1003 := (hk1909 0 rfl).trans e1904_0
                have e1909_4 : a1909.eval (.tmp 4) = .int .i64 n5 := (hk1909 4 rfl).trans e1904_4
                have e1909_6 : a1909.eval (.tmp 6) = .pointer (some ⟨g997, 0, none⟩) := (hk1909 6 rfl).trans e1904_6
                have e1909_7 : a1909.eval (.tmp 7) = .pointer (some ⟨g999, 0, none⟩) := (hk1909 7 rfl).trans e1904_7
                have e1909_12 : a1909.eval (.tmp 12) = .pointer (some ⟨cA1011, 0, none⟩) := (hk1909 12 rfl).trans e1904_12
                have e1909_13 : a1909.eval (.tmp 13) = .slice A1670 found1672.length c1671 := (hk1909 13 rfl).trans e1904_13
                have e1909_14 : a1909.eval (.tmp 14) = .slice A1692 x1694.length c1693 := (hk1909 14 rfl).trans e1904_14
                have e1909_15 : a1909.eval (.tmp 15) = .slice A1047 r1046.length cA1047 := (hk1909 15 rfl).trans e1904_15
                have e1909_16 : a1909.eval (.tmp 16) = .int .i64 done1770 := (hk1909 16 rfl).trans e1904_16
                have e1909_17 : a1909.eval (.tmp 17) = .int .i64 i1353 := (hk1909 17 rfl).trans e1904_17
                have e1909_18 : a1909.eval (.tmp 18) = .int .i64 j1771 := (hk1909 18 rfl).trans e1904_18
                obtain ⟨(f_122 : a1909.eval (.tmp 122) = .bool x1908), -⟩ := hf1909 [13] rfl
                have e1909_122 := f_122
                have hX1909 := Evo.step hX1904 (fun _ => Nat.le_refl 0) hE1909 rfl
                have b1909_A1003 := RdO.evo rfl hE1909 b1904_A1003
                have b1909_g997 := BlkO.evo (by decide) hE1909 b1904_g997
                have b1909_g999 := BlkO.evo (by decide) hE1909 b1904_g999
                have b1909_cA1011 := BlkO.evo (by decide) hE1909 b1904_cA1011
                have b1909_A1033 := RwO.evo rfl hE1909 b1904_A1033
                have b1909_cA1013 := MpN.evo rfl hE1909 b1904_cA1013
                have b1909_A1034 := RwO.evo rfl hE1909 b1904_A1034
                have b1909_A1670 := RwO.evo rfl hE1909 b1904_A1670
                have b1909_A1692 := RwO.evo rfl hE1909 b1904_A1692
                have b1909_A1047 := RwO.evo rfl hE1909 b1904_A1047
                refine fl_cond e1909_122 hs (fun c1910 hs => ?_) (fun c1910 hs => ?_)
                · refine rg_plain_seq (n := 176) (rs := []) (own0 := own1909) (K := [])
                      (bs := [0])
                      (ds := [⟨[], [], [], Fct.val 10 (.bool false)⟩]) (by kernel_rfl) hz1909 hd1909 (fun _ h => nomatch h) ?_ ?_
                  · refine steps_cons (fun own a wx hf hsl hE => ?_) ?_
                    · exact sg_plain rfl rfl (or_assign rfl)
                    exact steps_nil
                  intro own1911 a1911 w1911 hd1911 hz1911 hk1911 hf1911 hE1911
                  obtain ⟨(f_10 : a1911.eval (.tmp 10) = .bool false), -⟩ := hf1911 [0] rfl
                  have e1911_10 := f_10
                  have hX1911 := Evo.step hX1909 (fun _ => Nat.le_refl 0) hE1911 rfl
                  refine fl_ret ?_
                  refine hp1906 _ _ _ rfl ?_
                  refine hp1880 _ _ _ rfl ?_
                  refine hp1847 _ _ _ rfl ?_
                  replace hs := hz1842 _ hs
                  refine hp1842 _ _ _ rfl ?_
                  refine hp1699 _ _ _ rfl ?_
                  refine hp1654 _ _ _ rfl ?_
                  refine hp1653 _ _ _ rfl ?_
                  replace hs := hz1648 _ hs
                  refine hp1648 _ _ _ rfl ?_
                  refine hp1053 _ _ _ rfl ?_
                  refine hp1051 _ _ _ rfl ?_
                  obtain rfl := osome hs
                  exact hret _ _ _ _ (.inl rfl) hd1911 (results1_ rfl (RVal.tmp_ e1911_10)) ⟨own1911, rfl, hX1911⟩
                refine fl_skip ?_
                refine hn1906 _ _ ?_
                refine rg_plain (n := 176) (rs := []) (own0 := own1909) (K := [])
                    (bs := [0, 1, 3])
                    (ds := [⟨[], [16], [], Fct.val 123 (.int .i64 done1770)⟩,
                    ⟨[0], [], [], Fct.val 124 (.int .i64 (ad done1770 1))⟩,
                    ⟨[1], [], [], Fct.val 16 (.int .i64 (ad done1770 1))⟩]) (by kernel_rfl) hz1909 hd1909 (fun _ h => nomatch h) ?_ ?_
                · refine steps_cons (fun own a wx hf hsl hE => ?_) ?_
                  · obtain ⟨s_16, -⟩ := hsl
                    exact sg_plain rfl rfl (or_move (s_16.trans e1909_16))
                  refine steps_cons (fun own a wx hf hsl hE => ?_) ?_
                  · obtain ⟨(f_123 : a.eval (.tmp 123) = .int .i64 done1770), -⟩ := hf
                    exact sg_plain rfl rfl (or_add f_123 rfl rfl)
                  refine steps_cons (fun own a wx hf hsl hE => ?_) ?_
                  · obtain ⟨(f_124 : a.eval (.tmp 124) = .int .i64 (ad done1770 1)), -⟩ := hf
                    exact sg_plain rfl rfl (or_assign f_124)
                  exact steps_nil
                intro own1912 a1912 w1912 hd1912 hz1912 hk1912 hf1912 hE1912
                have e1912_0 : a1912.eval (.tmp 0) = .slice A1003 x1002.length cA1003 := (hk1912 0 rfl).trans e1909_0
                have e1912_4 : a1912.eval (.tmp 4) = .int .i64 n5 := (hk1912 4 rfl).trans e1909_4
                have e1912_6 : a1912.eval (.tmp 6) = .pointer (some ⟨g997, 0, none⟩) := (hk1912 6 rfl).trans e1909_6
                have e1912_7 : a1912.eval (.tmp 7) = .pointer (some ⟨g999, 0, none⟩) := (hk1912 7 rfl).trans e1909_7
                have e1912_12 : a1912.eval (.tmp 12) = .pointer (some ⟨cA1011, 0, none⟩) := (hk1912 12 rfl).trans e1909_12
                have e1912_13 : a1912.eval (.tmp 13) = .slice A1670 found1672.length c1671 := (hk1912 13 rfl).trans e1909_13
                have e1912_14 : a1912.eval (.tmp 14) = .slice A1692 x1694.length c1693 := (hk1912 14 rfl).trans e1909_14
                have e1912_15 : a1912.eval (.tmp 15) = .slice A1047 r1046.length cA1047 := (hk1912 15 rfl).trans e1909_15
                have e1912_17 : a1912.eval (.tmp 17) = .int .i64 i1353 := (hk1912 17 rfl).trans e1909_17
                have e1912_18 : a1912.eval (.tmp 18) = .int .i64 j1771 := (hk1912 18 rfl).trans e1909_18
                obtain ⟨(f_16 : a1912.eval (.tmp 16) = .int .i64 (ad done1770 1)), -⟩ := hf1912 [2] rfl
                have e1912_16 := f_16
                have hX1912 := Evo.step hX1909 (fun _ => Nat.le_refl 0) hE1912 rfl
                have b1912_A1003 := RdO.evo rfl hE1912 b1909_A1003
                have b1912_g997 := BlkO.evo (by decide) hE1912 b1909_g997
                have b1912_g999 := BlkO.evo (by decide) hE1912 b1909_g999
                have b1912_cA1011 := BlkO.evo (by decide) hE1912 b1909_cA1011
                have b1912_A1033 := RwO.evo rfl hE1912 b1909_A1033
                have b1912_cA1013 := MpN.evo rfl hE1912 b1909_cA1013
                have b1912_A1034 := RwO.evo rfl hE1912 b1909_A1034
                have b1912_A1670 := RwO.evo rfl hE1912 b1909_A1670
                have b1912_A1692 := RwO.evo rfl hE1912 b1909_A1692
                have b1912_A1047 := RwO.evo rfl hE1912 b1909_A1047
                exact (K1896 _ _ own1912 _ hd1912 hz1912 e1912_0 e1912_4 e1912_6 e1912_7 e1912_12 e1912_13 e1912_14 e1912_15 e1912_16 e1912_17 e1912_18 hX1912 b1912_A1003 b1912_g997 b1912_g999 b1912_cA1011 b1912_A1033 b1912_cA1013 b1912_A1034 b1912_A1670 b1912_A1692 b1912_A1047 hs).1
              refine fl_skip ?_
              exact (K1896 _ _ own1904 _ hd1904 hz1904 e1904_0 e1904_4 e1904_6 e1904_7 e1904_12 e1904_13 e1904_14 e1904_15 e1904_16 e1904_17 e1904_18 hX1904 b1904_A1003 b1904_g997 b1904_g999 b1904_cA1011 b1904_A1033 b1904_cA1013 b1904_A1034 b1904_A1670 b1904_A1692 b1904_A1047 hs).1
            refine fl_exit ?_
            refine hp1844 _ _ _ rfl ?_
            replace hs := hz1842 _ hs
            refine hp1842 _ _ _ rfl ?_
            refine hx1699 _ _ ?_
            refine hn1654 _ _ ?_
            refine hn1653 _ _ ?_
            refine rg_plain (n := 176) (rs := []) (own0 := own1845) (K := [])
                (bs := [0, 1, 3])
                (ds := [⟨[], [17], [], Fct.val 61 (.int .i64 i1353)⟩,
                ⟨[0], [], [], Fct.val 62 (.int .i64 (ad i1353 1))⟩,
                ⟨[1], [], [], Fct.val 17 (.int .i64 (ad i1353 1))⟩]) (by kernel_rfl) hz1845 hd1845 (fun _ h => nomatch h) ?_ ?_
            · refine steps_cons (fun own a wx hf hsl hE => ?_) ?_
              · obtain ⟨s_17, -⟩ := hsl
                exact sg_plain rfl rfl (or_move (s_17.trans e1845_17))
              refine steps_cons (fun own a wx hf hsl hE => ?_) ?_
              · obtain ⟨(f_61 : a.eval (.tmp 61) = .int .i64 i1353), -⟩ := hf
                exact sg_plain rfl rfl (or_add f_61 rfl rfl)
              refine steps_cons (fun own a wx hf hsl hE => ?_) ?_
              · obtain ⟨(f_62 : a.eval (.tmp 62) = .int .i64 (ad i1353 1)), -⟩ := hf
                exact sg_plain rfl rfl (or_assign f_62)
              exact steps_nil
            intro own1913 a1913 w1913 hd1913 hz1913 hk1913 hf1913 hE1913
            have e1913_0 : a1913.eval (.tmp 0) = .slice A1003 x1002.length cA1003 := (hk1913 0 rfl).trans e1845_0
            have e1913_4 : a1913.eval (.tmp 4) = .int .i64 n5 := (hk1913 4 rfl).trans e1845_4
            have e1913_6 : a1913.eval (.tmp 6) = .pointer (some ⟨g997, 0, none⟩) := (hk1913 6 rfl).trans e1845_6
            have e1913_7 : a1913.eval (.tmp 7) = .pointer (some ⟨g999, 0, none⟩) := (hk1913 7 rfl).trans e1845_7
            have e1913_12 : a1913.eval (.tmp 12) = .pointer (some ⟨cA1011, 0, none⟩) := (hk1913 12 rfl).trans e1845_12
            have e1913_13 : a1913.eval (.tmp 13) = .slice A1670 found1672.length c1671 := (hk1913 13 rfl).trans e1845_13
            have e1913_14 : a1913.eval (.tmp 14) = .slice A1692 x1694.length c1693 := (hk1913 14 rfl).trans e1845_14
            have e1913_15 : a1913.eval (.tmp 15) = .slice A1047 r1046.length cA1047 := (hk1913 15 rfl).trans e1845_15
            have e1913_16 : a1913.eval (.tmp 16) = .int .i64 done1770 := (hk1913 16 rfl).trans e1845_16
            obtain ⟨(f_17 : a1913.eval (.tmp 17) = .int .i64 (ad i1353 1)), -⟩ := hf1913 [2] rfl
            have e1913_17 := f_17
            have hX1913 := Evo.step hX1845 (fun _ => Nat.le_refl 0) hE1913 rfl
            have b1913_A1003 := RdO.evo rfl hE1913 b1845_A1003
            have b1913_g997 := BlkO.evo (by decide) hE1913 b1845_g997
            have b1913_g999 := BlkO.evo (by decide) hE1913 b1845_g999
            have b1913_cA1011 := BlkO.evo (by decide) hE1913 b1845_cA1011
            have b1913_A1033 := RwO.evo rfl hE1913 b1845_A1033
            have b1913_cA1013 := MpN.evo rfl hE1913 b1845_cA1013
            have b1913_A1034 := RwO.evo rfl hE1913 b1845_A1034
            have b1913_A1670 := RwO.evo rfl hE1913 b1845_A1670
            have b1913_A1692 := RwO.evo rfl hE1913 b1845_A1692
            have b1913_A1047 := RwO.evo rfl hE1913 b1845_A1047
            exact hn1648 _ _ _ hs ⟨(rl [(1673, 1347), (1695, 1351)] own1913), A1670, c1671, A1692, c1693, hd1913, hz1913, e1913_0, e1913_4, e1913_6, e1913_7, e1913_12, e1913_13, e1913_14, e1913_15, e1913_16, e1913_17, (Evo.rl_ hX1913 (fun _ => Nat.le_refl 0) rfl), (RdO.rl_ (mm := [(1673, 1347), (1695, 1351)]) b1913_A1003), (BlkO.rl_ (mm := [(1673, 1347), (1695, 1351)]) b1913_g997), (BlkO.rl_ (mm := [(1673, 1347), (1695, 1351)]) b1913_g999), (BlkO.rl_ (mm := [(1673, 1347), (1695, 1351)]) b1913_cA1011), (RwO.rl_ (mm := [(1673, 1347), (1695, 1351)]) b1913_A1033), (MpN.rl_ (mm := [(1673, 1347), (1695, 1351)]) b1913_cA1013), (RwO.rl_ (mm := [(1673, 1347), (1695, 1351)]) b1913_A1034), (RwO.rl_ (mm := [(1673, 1347), (1695, 1351)]) b1913_A1670), (RwO.rl_ (mm := [(1673, 1347), (1695, 1351)]) b1913_A1692), (RwO.rl_ (mm := [(1673, 1347), (1695, 1351)]) b1913_A1047)⟩
        obtain ⟨x1914, hx1914, hs⟩ := obind hs
        obtain ⟨r1915, hr1915, hs⟩ := obind hs
        obtain ⟨r1916, hr1916, hs⟩ := obind hs
        obtain ⟨r1917, hr1917, hs⟩ := obind hs
        obtain ⟨r1918, hr1918, hs⟩ := obind hs
        refine rg_draw_seq g_mixed (n := 176) (rs := []) (own0 := own1674) (K := [])
            (bs := [0, 0, 3, 7, 15, 0, 63, 0, 255, 511, 1023])
            (ds := [⟨[], [0], [], Fct.val 75 (.slice A1003 x1002.length cA1003)⟩,
            ⟨[], [17], [], Fct.val 76 (.int .i64 i1353)⟩,
            ⟨[0, 1], [], [], Fct.val 77 (.pointer (some ((adr A1003).add ((i1353 : Int).toNat * R26.s))))⟩,
            ⟨[2], [], [], Fct.val 78 (.agg #[.int .i64 x1914.1.1, .int .i64 x1914.1.2, .int .i64 x1914.2.1, .int .i64 x1914.2.2])⟩,
            ⟨[3], [], [], Fct.val 79 (.agg #[.int .i64 r1915.1.1, .int .i64 r1915.1.2, .int .i64 r1915.2.1, .int .i64 r1915.2.2])⟩,
            ⟨[], [7], [], Fct.val 80 (.agg #[.int .i64 p3.1, .int .i64 p3.2])⟩,
            ⟨[5], [], [], Fct.val 81 (.agg #[.int .i64 r1916.1, .int .i64 r1916.2])⟩,
            ⟨[], [7], [], Fct.val 82 (.agg #[.int .i64 p3.1, .int .i64 p3.2])⟩,
            ⟨[7], [], [], Fct.val 83 (.agg #[.int .i64 r1917.1, .int .i64 r1917.2])⟩,
            ⟨[6, 8], [], [], Fct.val 84 (.agg #[.int .i64 r1916.1, .int .i64 r1916.2, .int .i64 r1917.1, .int .i64 r1917.2])⟩,
            ⟨[4, 9], [], [], Fct.val 85 (.bool r1918)⟩]) (by kernel_rfl) hz1675 hd1675 (fun _ h => nomatch h) ?_ ?_
        · refine steps_cons (fun own a wx hf hsl hE => ?_) ?_
          · obtain ⟨s_0, -⟩ := hsl
            exact sg_plain rfl rfl (or_move (s_0.trans e1675_0))
          refine steps_cons (fun own a wx hf hsl hE => ?_) ?_
          · obtain ⟨s_17, -⟩ := hsl
            exact sg_plain rfl rfl (or_move (s_17.trans e1675_17))
          refine steps_cons (fun own a wx hf hsl hE => ?_) ?_
          · obtain ⟨(f_75 : a.eval (.tmp 75) = .slice A1003 x1002.length cA1003), (f_76 : a.eval (.tmp 76) = .int .i64 i1353), -⟩ := hf
            exact sg_plain rfl rfl (or_index (R := R26) (l := x1002) tl22 f_75 f_76 (RdO.some_ b1675_A1003 hx1914) hx1914)
          refine steps_cons (fun own a wx hf hsl hE => ?_) ?_
          · obtain ⟨(f_77 : a.eval (.tmp 77) = .pointer (some ((adr A1003).add ((i1353 : Int).toNat * R26.s)))), -⟩ := hf
            exact sg_plain rfl rfl (or_load (l := E26.f x1914) ta26 f_77 (RdO.cells (F := E26) (RdO.evo rfl hE b1675_A1003) hx1914) rfl)
          refine steps_cons (fun own a wx hf hsl hE => ?_) ?_
          · obtain ⟨(f_78 : a.eval (.tmp 78) = .agg #[.int .i64 x1914.1.1, .int .i64 x1914.1.2, .int .i64 x1914.2.1, .int .i64 x1914.2.2]), -⟩ := hf
            exact sg_plain rfl rfl (or_call cf17 (args1 f_78) (law06_of_w _ x1914  r1915 hr1915) post_val)
          refine steps_cons (fun own a wx hf hsl hE => ?_) ?_
          · obtain ⟨s_7, -⟩ := hsl
            exact sg_plain rfl rfl (or_load (l := [.int .i64 p3.1, .int .i64 p3.2]) ta24 (s_7.trans e1675_7) (Blk.cellsFrom (BlkO.evo (by decide) hE b1675_g999).2 0 rfl) rfl)
          refine steps_cons (fun own a wx hf hsl hE => ?_) ?_
          · obtain ⟨(f_80 : a.eval (.tmp 80) = .agg #[.int .i64 p3.1, .int .i64 p3.2]), -⟩ := hf
            exact sg_plain rfl rfl (or_call cf18 (args1 f_80) (law01_Of_w _ p3  r1916 hr1916) post_val)
          refine steps_cons (fun own a wx hf hsl hE => ?_) ?_
          · obtain ⟨s_7, -⟩ := hsl
            exact sg_plain rfl rfl (or_load (l := [.int .i64 p3.1, .int .i64 p3.2]) ta24 (s_7.trans e1675_7) (Blk.cellsFrom (BlkO.evo (by decide) hE b1675_g999).2 0 rfl) rfl)
          refine steps_cons (fun own a wx hf hsl hE => ?_) ?_
          · obtain ⟨(f_82 : a.eval (.tmp 82) = .agg #[.int .i64 p3.1, .int .i64 p3.2]), -⟩ := hf
            exact sg_plain rfl rfl (or_call cf18 (args1 f_82) (law01_Of_w _ p3  r1917 hr1917) post_val)
          refine steps_cons (fun own a wx hf hsl hE => ?_) ?_
          · obtain ⟨(f_81 : a.eval (.tmp 81) = .agg #[.int .i64 r1916.1, .int .i64 r1916.2]), (f_83 : a.eval (.tmp 83) = .agg #[.int .i64 r1917.1, .int .i64 r1917.2]), -⟩ := hf
            exact sg_plain rfl rfl (or_k [(81, .agg #[.int .i64 r1916.1, .int .i64 r1916.2]), (83, .agg #[.int .i64 r1917.1, .int .i64 r1917.2])] rfl rfl ⟨f_81, f_83, trivial⟩ (by kernel_rfl))
          refine steps_cons (fun own a wx hf hsl hE => ?_) ?_
          · obtain ⟨(f_79 : a.eval (.tmp 79) = .agg #[.int .i64 r1915.1.1, .int .i64 r1915.1.2, .int .i64 r1915.2.1, .int .i64 r1915.2.2]), (f_84 : a.eval (.tmp 84) = .agg #[.int .i64 r1916.1, .int .i64 r1916.2, .int .i64 r1917.1, .int .i64 r1917.2]), -⟩ := hf
            exact sg_plain rfl rfl (or_call cf16 (args2 f_79 f_84) (ref06_Meet_w _ r1915 (r1916, r1917)  r1918 hr1918) post_val)
          exact steps_nil
        intro own1919 a1919 w1919 hd1919 hz1919 hk1919 hf1919 hE1919
        have e1919_0 : a1919.eval (.tmp 0) = .slice A1003 x1002.length cA1003 := (hk1919 0 rfl).trans e1675_0
        have e1919_4 : a1919.eval (.tmp 4) = .int .i64 n5 := (hk1919 4 rfl).trans e1675_4
        have e1919_6 : a1919.eval (.tmp 6) = .pointer (some ⟨g997, 0, none⟩) := (hk1919 6 rfl).trans e1675_6
        have e1919_7 : a1919.eval (.tmp 7) = .pointer (some ⟨g999, 0, none⟩) := (hk1919 7 rfl).trans e1675_7
        have e1919_12 : a1919.eval (.tmp 12) = .pointer (some ⟨cA1011, 0, none⟩) := (hk1919 12 rfl).trans e1675_12
        have e1919_13 : a1919.eval (.tmp 13) = .slice A1670 found1672.length c1671 := (hk1919 13 rfl).trans e1675_13
        have e1919_14 : a1919.eval (.tmp 14) = .slice A1348 x1350.length c1349 := (hk1919 14 rfl).trans e1675_14
        have e1919_15 : a1919.eval (.tmp 15) = .slice A1047 r1046.length cA1047 := (hk1919 15 rfl).trans e1675_15
        have e1919_16 : a1919.eval (.tmp 16) = .int .i64 done1352 := (hk1919 16 rfl).trans e1675_16
        have e1919_17 : a1919.eval (.tmp 17) = .int .i64 i1353 := (hk1919 17 rfl).trans e1675_17
        obtain ⟨(f_85 : a1919.eval (.tmp 85) = .bool r1918), -⟩ := hf1919 [10] rfl
        have e1919_85 := f_85
        have hX1919 := Evo.step hE1675 (fun _ => Nat.le_refl 0) hE1919 rfl
        have b1919_A1003 := RdO.evo rfl hE1919 b1675_A1003
        have b1919_g997 := BlkO.evo (by decide) hE1919 b1675_g997
        have b1919_g999 := BlkO.evo (by decide) hE1919 b1675_g999
        have b1919_cA1011 := BlkO.evo (by decide) hE1919 b1675_cA1011
        have b1919_A1033 := RwO.evo rfl hE1919 b1675_A1033
        have b1919_cA1013 := MpN.evo rfl hE1919 b1675_cA1013
        have b1919_A1034 := RwO.evo rfl hE1919 b1675_A1034
        have b1919_A1670 := RwO.evo rfl hE1919 b1675_A1670
        have b1919_A1348 := RwO.evo rfl hE1919 b1675_A1348
        have b1919_A1047 := RwO.evo rfl hE1919 b1675_A1047
        refine fl_cond e1919_85 hs (fun c1920 hs => ?_) (fun c1920 hs => ?_)
        · obtain ⟨x1925, hx1925, hs⟩ := obind hs
          refine rg_plain (n := 176) (rs := [Fct.rowAt 1351 [] 3 R3 A1348 c1349 x1350]) (own0 := own1919) (K := [1351])
              (bs := [0, 0, 2, 7, 15])
              (ds := [⟨[], [14], [], Fct.val 86 (.slice A1348 x1350.length c1349)⟩,
              ⟨[], [17], [], Fct.val 87 (.int .i64 i1353)⟩,
              ⟨[1], [], [], Fct.row 1924 [] 88 3 R3 [i1353]⟩,
              ⟨[0, 2, 5], [], [1351], Fct.row 1926 [] 89 3 R3 x1925⟩,
              ⟨[3], [], [], Fct.rel [14, 89] (fun l => ∀ (A1927 : Option Addr) (cA1927 : Nat), l.getD 1 undef = .slice A1927 x1925.length cA1927 → l.getD 0 undef = .slice A1927 x1925.length cA1927)⟩]) (by kernel_rfl) hz1919 hd1919 (by simp only [List.forall_mem_cons]; exact ⟨b1919_A1348, fun _ h => nomatch h⟩) ?_ ?_
          · refine steps_cons (fun own a wx hf hsl hE => ?_) ?_
            · obtain ⟨s_14, -⟩ := hsl
              exact sg_plain rfl rfl (or_move (s_14.trans e1919_14))
            refine steps_cons (fun own a wx hf hsl hE => ?_) ?_
            · obtain ⟨s_17, -⟩ := hsl
              exact sg_plain rfl rfl (or_move (s_17.trans e1919_17))
            refine steps_cons (fun own a wx hf hsl hE => ?_) ?_
            · obtain ⟨(f_87 : a.eval (.tmp 87) = .int .i64 i1353), -⟩ := hf
              exact sg_plain rfl rfl (or_lit (lab := 1924) (e := 3) (cs := #[.int .i64 i1353]) (F := E3) (or_new [(87, .int .i64 i1353)] rfl rfl ⟨f_87, trivial⟩ (by kernel_rfl)) rfl rfl (show 1 ≤ maxLen by decide))
            refine steps_cons (fun own a wx hf hsl hE => ?_) ?_
            · obtain ⟨(f_86 : a.eval (.tmp 86) = .slice A1348 x1350.length c1349), ⟨⟨A1923, cA1923⟩, (f_88 : a.eval (.tmp 88) = .slice A1923 [i1353].length cA1923), (b_A1923 : RwO own 1924 [] wx 3 R3 A1923 cA1923 [i1353])⟩, (b_A1348 : RwO own 1351 [] wx 3 R3 A1348 c1349 x1350), -⟩ := hf
              exact sg_plain rfl rfl (or_append (R := R3) (lab := 1351) (lab2 := 1926) (L := []) (L3 := []) tp33 f_86 b_A1348 (by decide) f_88 (RwO.rd b_A1923) hx1925 (by decide) (by decide) (mem_of rfl) (.inl (Rep.fl_flat _)))
            refine steps_cons (fun own a wx hf hsl hE => ?_) ?_
            · obtain ⟨⟨⟨A1927, cA1927⟩, (f_89 : a.eval (.tmp 89) = .slice A1927 x1925.length cA1927), (b_A1927 : RwO own 1926 [] wx 3 R3 A1927 cA1927 x1925)⟩, -⟩ := hf
              exact sg_plain rfl rfl (or_mono (f := Fct.val 14 (.slice A1927 x1925.length cA1927)) (or_assign f_89) (fun own' a' w' v' hp h => fun _ _ h0' => by cases (f_89.symm.trans ((hp.2 89 (by decide)).symm.trans h0')); exact h))
            exact steps_nil
          intro own1928 a1928 w1928 hd1928 hz1928 hk1928 hf1928 hE1928
          have e1928_0 : a1928.eval (.tmp 0) = .slice A1003 x1002.length cA1003 := (hk1928 0 rfl).trans e1919_0
          have e1928_4 : a1928.eval (.tmp 4) = .int .i64 n5 := (hk1928 4 rfl).trans e1919_4
          have e1928_6 : a1928.eval (.tmp 6) = .pointer (some ⟨g997, 0, none⟩) := (hk1928 6 rfl).trans e1919_6
          have e1928_7 : a1928.eval (.tmp 7) = .pointer (some ⟨g999, 0, none⟩) := (hk1928 7 rfl).trans e1919_7
          have e1928_12 : a1928.eval (.tmp 12) = .pointer (some ⟨cA1011, 0, none⟩) := (hk1928 12 rfl).trans e1919_12
          have e1928_13 : a1928.eval (.tmp 13) = .slice A1670 found1672.length c1671 := (hk1928 13 rfl).trans e1919_13
          have e1928_15 : a1928.eval (.tmp 15) = .slice A1047 r1046.length cA1047 := (hk1928 15 rfl).trans e1919_15
          have e1928_16 : a1928.eval (.tmp 16) = .int .i64 done1352 := (hk1928 16 rfl).trans e1919_16
          have e1928_17 : a1928.eval (.tmp 17) = .int .i64 i1353 := (hk1928 17 rfl).trans e1919_17
          obtain ⟨⟨⟨A1927, cA1927⟩, (f_89 : a1928.eval (.tmp 89) = .slice A1927 x1925.length cA1927), (b_A1927 : RwO own1928 1926 [] w1928 3 R3 A1927 cA1927 x1925)⟩, (q_14 : ∀ (A1927 : Option Addr) (cA1927 : Nat), a1928.eval (.tmp 89) = .slice A1927 x1925.length cA1927 → a1928.eval (.tmp 14) = .slice A1927 x1925.length cA1927), -⟩ := hf1928 [3, 4] rfl
          have f_14 := q_14 _ _ f_89
          have e1928_14 := f_14
          have hX1928 := Evo.step hX1919 (fun _ => Nat.le_refl 0) hE1928 rfl
          have b1928_A1003 := RdO.evo rfl hE1928 b1919_A1003
          have b1928_g997 := BlkO.evo (by decide) hE1928 b1919_g997
          have b1928_g999 := BlkO.evo (by decide) hE1928 b1919_g999
          have b1928_cA1011 := BlkO.evo (by decide) hE1928 b1919_cA1011
          have b1928_A1033 := RwO.evo rfl hE1928 b1919_A1033
          have b1928_cA1013 := MpN.evo rfl hE1928 b1919_cA1013
          have b1928_A1034 := RwO.evo rfl hE1928 b1919_A1034
          have b1928_A1670 := RwO.evo rfl hE1928 b1919_A1670
          have b1928_A1047 := RwO.evo rfl hE1928 b1919_A1047
          have b1928_A1927 := b_A1927
          exact (K1696 _ _ (rl [(1926, 1695)] own1928) _ A1927 cA1927 hd1928 hz1928 e1928_0 e1928_4 e1928_6 e1928_7 e1928_12 e1928_13 e1928_14 e1928_15 e1928_16 e1928_17 (Evo.rl_ hX1928 (fun _ => Nat.le_refl 0) rfl) (RdO.rl_ (mm := [(1926, 1695)]) b1928_A1003) (BlkO.rl_ (mm := [(1926, 1695)]) b1928_g997) (BlkO.rl_ (mm := [(1926, 1695)]) b1928_g999) (BlkO.rl_ (mm := [(1926, 1695)]) b1928_cA1011) (RwO.rl_ (mm := [(1926, 1695)]) b1928_A1033) (MpN.rl_ (mm := [(1926, 1695)]) b1928_cA1013) (RwO.rl_ (mm := [(1926, 1695)]) b1928_A1034) (RwO.rl_ (mm := [(1926, 1695)]) b1928_A1670) (RwO.rl_ (mm := [(1926, 1695)]) b1928_A1927) (RwO.rl_ (mm := [(1926, 1695)]) b1928_A1047) hs)
        refine fl_skip ?_
        exact (K1696 _ _ (rl [(1351, 1695)] own1919) _ A1348 c1349 hd1919 hz1919 e1919_0 e1919_4 e1919_6 e1919_7 e1919_12 e1919_13 e1919_14 e1919_15 e1919_16 e1919_17 (Evo.rl_ hX1919 (fun _ => Nat.le_refl 0) rfl) (RdO.rl_ (mm := [(1351, 1695)]) b1919_A1003) (BlkO.rl_ (mm := [(1351, 1695)]) b1919_g997) (BlkO.rl_ (mm := [(1351, 1695)]) b1919_g999) (BlkO.rl_ (mm := [(1351, 1695)]) b1919_cA1011) (RwO.rl_ (mm := [(1351, 1695)]) b1919_A1033) (MpN.rl_ (mm := [(1351, 1695)]) b1919_cA1013) (RwO.rl_ (mm := [(1351, 1695)]) b1919_A1034) (RwO.rl_ (mm := [(1351, 1695)]) b1919_A1670) (RwO.rl_ (mm := [(1351, 1695)]) b1919_A1348) (RwO.rl_ (mm := [(1351, 1695)]) b1919_A1047) hs)
      obtain ⟨x1929, hx1929, hs⟩ := obind hs
      obtain ⟨r1930, hr1930, hs⟩ := obind hs
      obtain ⟨r1931, hr1931, hs⟩ := obind hs
      obtain ⟨r1932, hr1932, hs⟩ := obind hs
      refine rg_draw_seq g_mixed (n := 176) (rs := []) (own0 := own1651) (K := [])
          (bs := [0, 0, 3, 7, 15, 0, 63, 127])
          (ds := [⟨[], [0], [], Fct.val 63 (.slice A1003 x1002.length cA1003)⟩,
          ⟨[], [17], [], Fct.val 64 (.int .i64 i1353)⟩,
          ⟨[0, 1], [], [], Fct.val 65 (.pointer (some ((adr A1003).add ((i1353 : Int).toNat * R26.s))))⟩,
          ⟨[2], [], [], Fct.val 66 (.agg #[.int .i64 x1929.1.1, .int .i64 x1929.1.2, .int .i64 x1929.2.1, .int .i64 x1929.2.2])⟩,
          ⟨[3], [], [], Fct.val 67 (.agg #[.int .i64 r1930.1.1, .int .i64 r1930.1.2, .int .i64 r1930.2.1, .int .i64 r1930.2.2])⟩,
          ⟨[], [6], [], Fct.val 68 (.agg #[.int .i64 b2.1.1, .int .i64 b2.1.2, .int .i64 b2.2.1, .int .i64 b2.2.2])⟩,
          ⟨[5], [], [], Fct.val 69 (.agg #[.int .i64 r1931.1.1, .int .i64 r1931.1.2, .int .i64 r1931.2.1, .int .i64 r1931.2.2])⟩,
          ⟨[4, 6], [], [], Fct.val 70 (.bool r1932)⟩]) (by kernel_rfl) hz1651 hd1651 (fun _ h => nomatch h) ?_ ?_
      · refine steps_cons (fun own a wx hf hsl hE => ?_) ?_
        · obtain ⟨s_0, -⟩ := hsl
          exact sg_plain rfl rfl (or_move (s_0.trans e1651_0))
        refine steps_cons (fun own a wx hf hsl hE => ?_) ?_
        · obtain ⟨s_17, -⟩ := hsl
          exact sg_plain rfl rfl (or_move (s_17.trans e1651_17))
        refine steps_cons (fun own a wx hf hsl hE => ?_) ?_
        · obtain ⟨(f_63 : a.eval (.tmp 63) = .slice A1003 x1002.length cA1003), (f_64 : a.eval (.tmp 64) = .int .i64 i1353), -⟩ := hf
          exact sg_plain rfl rfl (or_index (R := R26) (l := x1002) tl22 f_63 f_64 (RdO.some_ b1651_A1003 hx1929) hx1929)
        refine steps_cons (fun own a wx hf hsl hE => ?_) ?_
        · obtain ⟨(f_65 : a.eval (.tmp 65) = .pointer (some ((adr A1003).add ((i1353 : Int).toNat * R26.s)))), -⟩ := hf
          exact sg_plain rfl rfl (or_load (l := E26.f x1929) ta26 f_65 (RdO.cells (F := E26) (RdO.evo rfl hE b1651_A1003) hx1929) rfl)
        refine steps_cons (fun own a wx hf hsl hE => ?_) ?_
        · obtain ⟨(f_66 : a.eval (.tmp 66) = .agg #[.int .i64 x1929.1.1, .int .i64 x1929.1.2, .int .i64 x1929.2.1, .int .i64 x1929.2.2]), -⟩ := hf
          exact sg_plain rfl rfl (or_call cf17 (args1 f_66) (law06_of_w _ x1929  r1930 hr1930) post_val)
        refine steps_cons (fun own a wx hf hsl hE => ?_) ?_
        · obtain ⟨s_6, -⟩ := hsl
          exact sg_plain rfl rfl (or_load (l := [.int .i64 b2.1.1, .int .i64 b2.1.2, .int .i64 b2.2.1, .int .i64 b2.2.2]) ta26 (s_6.trans e1651_6) (Blk.cellsFrom (BlkO.evo (by decide) hE b1651_g997).2 0 rfl) rfl)
        refine steps_cons (fun own a wx hf hsl hE => ?_) ?_
        · obtain ⟨(f_68 : a.eval (.tmp 68) = .agg #[.int .i64 b2.1.1, .int .i64 b2.1.2, .int .i64 b2.2.1, .int .i64 b2.2.2]), -⟩ := hf
          exact sg_plain rfl rfl (or_call cf17 (args1 f_68) (law06_of_w _ b2  r1931 hr1931) post_val)
        refine steps_cons (fun own a wx hf hsl hE => ?_) ?_
        · obtain ⟨(f_67 : a.eval (.tmp 67) = .agg #[.int .i64 r1930.1.1, .int .i64 r1930.1.2, .int .i64 r1930.2.1, .int .i64 r1930.2.2]), (f_69 : a.eval (.tmp 69) = .agg #[.int .i64 r1931.1.1, .int .i64 r1931.1.2, .int .i64 r1931.2.1, .int .i64 r1931.2.2]), -⟩ := hf
          exact sg_plain rfl rfl (or_call cf16 (args2 f_67 f_69) (ref06_Meet_w _ r1930 r1931  r1932 hr1932) post_val)
        exact steps_nil
      intro own1933 a1933 w1933 hd1933 hz1933 hk1933 hf1933 hE1933
      have e1933_0 : a1933.eval (.tmp 0) = .slice A1003 x1002.length cA1003 := (hk1933 0 rfl).trans e1651_0
      have e1933_4 : a1933.eval (.tmp 4) = .int .i64 n5 := (hk1933 4 rfl).trans e1651_4
      have e1933_6 : a1933.eval (.tmp 6) = .pointer (some ⟨g997, 0, none⟩) := (hk1933 6 rfl).trans e1651_6
      have e1933_7 : a1933.eval (.tmp 7) = .pointer (some ⟨g999, 0, none⟩) := (hk1933 7 rfl).trans e1651_7
      have e1933_12 : a1933.eval (.tmp 12) = .pointer (some ⟨cA1011, 0, none⟩) := (hk1933 12 rfl).trans e1651_12
      have e1933_13 : a1933.eval (.tmp 13) = .slice A1344 found1346.length c1345 := (hk1933 13 rfl).trans e1651_13
      have e1933_14 : a1933.eval (.tmp 14) = .slice A1348 x1350.length c1349 := (hk1933 14 rfl).trans e1651_14
      have e1933_15 : a1933.eval (.tmp 15) = .slice A1047 r1046.length cA1047 := (hk1933 15 rfl).trans e1651_15
      have e1933_16 : a1933.eval (.tmp 16) = .int .i64 done1352 := (hk1933 16 rfl).trans e1651_16
      have e1933_17 : a1933.eval (.tmp 17) = .int .i64 i1353 := (hk1933 17 rfl).trans e1651_17
      obtain ⟨(f_70 : a1933.eval (.tmp 70) = .bool r1932), -⟩ := hf1933 [7] rfl
      have e1933_70 := f_70
      have hX1933 := Evo.step hX1651 (fun _ => Nat.le_refl 0) hE1933 rfl
      have b1933_A1003 := RdO.evo rfl hE1933 b1651_A1003
      have b1933_g997 := BlkO.evo (by decide) hE1933 b1651_g997
      have b1933_g999 := BlkO.evo (by decide) hE1933 b1651_g999
      have b1933_cA1011 := BlkO.evo (by decide) hE1933 b1651_cA1011
      have b1933_A1033 := RwO.evo rfl hE1933 b1651_A1033
      have b1933_cA1013 := MpN.evo rfl hE1933 b1651_cA1013
      have b1933_A1034 := RwO.evo rfl hE1933 b1651_A1034
      have b1933_A1344 := RwO.evo rfl hE1933 b1651_A1344
      have b1933_A1348 := RwO.evo rfl hE1933 b1651_A1348
      have b1933_A1047 := RwO.evo rfl hE1933 b1651_A1047
      refine fl_cond e1933_70 hs (fun c1934 hs => ?_) (fun c1934 hs => ?_)
      · obtain ⟨x1939, hx1939, hs⟩ := obind hs
        refine rg_plain (n := 176) (rs := [Fct.rowAt 1347 [] 3 R3 A1344 c1345 found1346]) (own0 := own1933) (K := [1347])
            (bs := [0, 0, 2, 7, 15])
            (ds := [⟨[], [13], [], Fct.val 71 (.slice A1344 found1346.length c1345)⟩,
            ⟨[], [17], [], Fct.val 72 (.int .i64 i1353)⟩,
            ⟨[1], [], [], Fct.row 1938 [] 73 3 R3 [i1353]⟩,
            ⟨[0, 2, 5], [], [1347], Fct.row 1940 [] 74 3 R3 x1939⟩,
            ⟨[3], [], [], Fct.rel [13, 74] (fun l => ∀ (A1941 : Option Addr) (cA1941 : Nat), l.getD 1 undef = .slice A1941 x1939.length cA1941 → l.getD 0 undef = .slice A1941 x1939.length cA1941)⟩]) (by kernel_rfl) hz1933 hd1933 (by simp only [List.forall_mem_cons]; exact ⟨b1933_A1344, fun _ h => nomatch h⟩) ?_ ?_
        · refine steps_cons (fun own a wx hf hsl hE => ?_) ?_
          · obtain ⟨s_13, -⟩ := hsl
            exact sg_plain rfl rfl (or_move (s_13.trans e1933_13))
          refine steps_cons (fun own a wx hf hsl hE => ?_) ?_
          · obtain ⟨s_17, -⟩ := hsl
            exact sg_plain rfl rfl (or_move (s_17.trans e1933_17))
          refine steps_cons (fun own a wx hf hsl hE => ?_) ?_
          · obtain ⟨(f_72 : a.eval (.tmp 72) = .int .i64 i1353), -⟩ := hf
            exact sg_plain rfl rfl (or_lit (lab := 1938) (e := 3) (cs := #[.int .i64 i1353]) (F := E3) (or_new [(72, .int .i64 i1353)] rfl rfl ⟨f_72, trivial⟩ (by kernel_rfl)) rfl rfl (show 1 ≤ maxLen by decide))
          refine steps_cons (fun own a wx hf hsl hE => ?_) ?_
          · obtain ⟨(f_71 : a.eval (.tmp 71) = .slice A1344 found1346.length c1345), ⟨⟨A1937, cA1937⟩, (f_73 : a.eval (.tmp 73) = .slice A1937 [i1353].length cA1937), (b_A1937 : RwO own 1938 [] wx 3 R3 A1937 cA1937 [i1353])⟩, (b_A1344 : RwO own 1347 [] wx 3 R3 A1344 c1345 found1346), -⟩ := hf
            exact sg_plain rfl rfl (or_append (R := R3) (lab := 1347) (lab2 := 1940) (L := []) (L3 := []) tp33 f_71 b_A1344 (by decide) f_73 (RwO.rd b_A1937) hx1939 (by decide) (by decide) (mem_of rfl) (.inl (Rep.fl_flat _)))
          refine steps_cons (fun own a wx hf hsl hE => ?_) ?_
          · obtain ⟨⟨⟨A1941, cA1941⟩, (f_74 : a.eval (.tmp 74) = .slice A1941 x1939.length cA1941), (b_A1941 : RwO own 1940 [] wx 3 R3 A1941 cA1941 x1939)⟩, -⟩ := hf
            exact sg_plain rfl rfl (or_mono (f := Fct.val 13 (.slice A1941 x1939.length cA1941)) (or_assign f_74) (fun own' a' w' v' hp h => fun _ _ h0' => by cases (f_74.symm.trans ((hp.2 74 (by decide)).symm.trans h0')); exact h))
          exact steps_nil
        intro own1942 a1942 w1942 hd1942 hz1942 hk1942 hf1942 hE1942
        have e1942_0 : a1942.eval (.tmp 0) = .slice A1003 x1002.length cA1003 := (hk1942 0 rfl).trans e1933_0
        have e1942_4 : a1942.eval (.tmp 4) = .int .i64 n5 := (hk1942 4 rfl).trans e1933_4
        have e1942_6 : a1942.eval (.tmp 6) = .pointer (some ⟨g997, 0, none⟩) := (hk1942 6 rfl).trans e1933_6
        have e1942_7 : a1942.eval (.tmp 7) = .pointer (some ⟨g999, 0, none⟩) := (hk1942 7 rfl).trans e1933_7
        have e1942_12 : a1942.eval (.tmp 12) = .pointer (some ⟨cA1011, 0, none⟩) := (hk1942 12 rfl).trans e1933_12
        have e1942_14 : a1942.eval (.tmp 14) = .slice A1348 x1350.length c1349 := (hk1942 14 rfl).trans e1933_14
        have e1942_15 : a1942.eval (.tmp 15) = .slice A1047 r1046.length cA1047 := (hk1942 15 rfl).trans e1933_15
        have e1942_16 : a1942.eval (.tmp 16) = .int .i64 done1352 := (hk1942 16 rfl).trans e1933_16
        have e1942_17 : a1942.eval (.tmp 17) = .int .i64 i1353 := (hk1942 17 rfl).trans e1933_17
        obtain ⟨⟨⟨A1941, cA1941⟩, (f_74 : a1942.eval (.tmp 74) = .slice A1941 x1939.length cA1941), (b_A1941 : RwO own1942 1940 [] w1942 3 R3 A1941 cA1941 x1939)⟩, (q_13 : ∀ (A1941 : Option Addr) (cA1941 : Nat), a1942.eval (.tmp 74) = .slice A1941 x1939.length cA1941 → a1942.eval (.tmp 13) = .slice A1941 x1939.length cA1941), -⟩ := hf1942 [3, 4] rfl
        have f_13 := q_13 _ _ f_74
        have e1942_13 := f_13
        have hX1942 := Evo.step hX1933 (fun _ => Nat.le_refl 0) hE1942 rfl
        have b1942_A1003 := RdO.evo rfl hE1942 b1933_A1003
        have b1942_g997 := BlkO.evo (by decide) hE1942 b1933_g997
        have b1942_g999 := BlkO.evo (by decide) hE1942 b1933_g999
        have b1942_cA1011 := BlkO.evo (by decide) hE1942 b1933_cA1011
        have b1942_A1033 := RwO.evo rfl hE1942 b1933_A1033
        have b1942_cA1013 := MpN.evo rfl hE1942 b1933_cA1013
        have b1942_A1034 := RwO.evo rfl hE1942 b1933_A1034
        have b1942_A1348 := RwO.evo rfl hE1942 b1933_A1348
        have b1942_A1047 := RwO.evo rfl hE1942 b1933_A1047
        have b1942_A1941 := b_A1941
        exact (K1674 _ _ (rl [(1940, 1673)] own1942) _ A1941 cA1941 hd1942 hz1942 e1942_0 e1942_4 e1942_6 e1942_7 e1942_12 e1942_13 e1942_14 e1942_15 e1942_16 e1942_17 (Evo.rl_ hX1942 (fun _ => Nat.le_refl 0) rfl) (RdO.rl_ (mm := [(1940, 1673)]) b1942_A1003) (BlkO.rl_ (mm := [(1940, 1673)]) b1942_g997) (BlkO.rl_ (mm := [(1940, 1673)]) b1942_g999) (BlkO.rl_ (mm := [(1940, 1673)]) b1942_cA1011) (RwO.rl_ (mm := [(1940, 1673)]) b1942_A1033) (MpN.rl_ (mm := [(1940, 1673)]) b1942_cA1013) (RwO.rl_ (mm := [(1940, 1673)]) b1942_A1034) (RwO.rl_ (mm := [(1940, 1673)]) b1942_A1941) (RwO.rl_ (mm := [(1940, 1673)]) b1942_A1348) (RwO.rl_ (mm := [(1940, 1673)]) b1942_A1047) hs)
      refine fl_skip ?_
      exact (K1674 _ _ (rl [(1347, 1673)] own1933) _ A1344 c1345 hd1933 hz1933 e1933_0 e1933_4 e1933_6 e1933_7 e1933_12 e1933_13 e1933_14 e1933_15 e1933_16 e1933_17 (Evo.rl_ hX1933 (fun _ => Nat.le_refl 0) rfl) (RdO.rl_ (mm := [(1347, 1673)]) b1933_A1003) (BlkO.rl_ (mm := [(1347, 1673)]) b1933_g997) (BlkO.rl_ (mm := [(1347, 1673)]) b1933_g999) (BlkO.rl_ (mm := [(1347, 1673)]) b1933_cA1011) (RwO.rl_ (mm := [(1347, 1673)]) b1933_A1033) (MpN.rl_ (mm := [(1347, 1673)]) b1933_cA1013) (RwO.rl_ (mm := [(1347, 1673)]) b1933_A1034) (RwO.rl_ (mm := [(1347, 1673)]) b1933_A1344) (RwO.rl_ (mm := [(1347, 1673)]) b1933_A1348) (RwO.rl_ (mm := [(1347, 1673)]) b1933_A1047) hs)
    refine fl_exit ?_
    refine hp1650 _ _ _ rfl ?_
    replace hs := hz1648 _ hs
    refine hp1648 _ _ _ rfl ?_
    refine hx1053 _ _ ?_
    refine hn1051 _ _ ?_
    obtain ⟨r1943, hr1943, hs⟩ := obind hs
    refine rg_plain_seq (n := 176) (rs := []) (own0 := own1651) (K := [1945])
        (bs := [0, 0, 3, 7, 15, 15, 0, 95, 255])
        (ds := [⟨[], [12], [], Fct.val 126 (.pointer (some ⟨cA1011, 0, none⟩))⟩,
        ⟨[], [4], [], Fct.val 127 (.int .i64 n5)⟩,
        ⟨[0, 1], [], [], Fct.val 128 (.tuple #[.agg #[.int .i64 r1943.1.1.1, .int .i64 r1943.1.1.2, .int .i64 r1943.1.2.1, .int .i64 r1943.1.2.2], .bool r1943.2])⟩,
        ⟨[2], [], [], Fct.val 125 (.tuple #[.agg #[.int .i64 r1943.1.1.1, .int .i64 r1943.1.1.2, .int .i64 r1943.1.2.1, .int .i64 r1943.1.2.2], .bool r1943.2])⟩,
        ⟨[3], [], [], Fct.val 129 (.agg #[.int .i64 r1943.1.1.1, .int .i64 r1943.1.1.2, .int .i64 r1943.1.2.1, .int .i64 r1943.1.2.2])⟩,
        ⟨[3], [], [], Fct.val 130 (.bool r1943.2)⟩,
        ⟨[], [], [], Fct.blk 1945 19 (fun g => .pointer (some ⟨g, 0, none⟩)) 26 #[.int .i64 0, .int .i64 0, .int .i64 0, .int .i64 0]⟩,
        ⟨[6, 4], [], [1945], Fct.blk 1946 19 (fun g => .pointer (some ⟨g, 0, none⟩)) 26 #[.int .i64 r1943.1.1.1, .int .i64 r1943.1.1.2, .int .i64 r1943.1.2.1, .int .i64 r1943.1.2.2]⟩,
        ⟨[5], [], [], Fct.val 20 (.bool r1943.2)⟩]) (by kernel_rfl) hz1651 hd1651 (fun _ h => nomatch h) ?_ ?_
    · refine steps_cons (fun own a wx hf hsl hE => ?_) ?_
      · obtain ⟨s_12, -⟩ := hsl
        exact sg_plain rfl rfl (or_move (s_12.trans e1651_12))
      refine steps_cons (fun own a wx hf hsl hE => ?_) ?_
      · obtain ⟨s_4, -⟩ := hsl
        exact sg_plain rfl rfl (or_move (s_4.trans e1651_4))
      refine steps_cons (fun own a wx hf hsl hE => ?_) ?_
      · obtain ⟨(f_126 : a.eval (.tmp 126) = .pointer (some ⟨cA1011, 0, none⟩)), (f_127 : a.eval (.tmp 127) = .int .i64 n5), -⟩ := hf
        exact sg_plain rfl rfl (or_call cf19 (args2 f_126 f_127) (rows_Index_Box_w _ r1032.2 cA1011 62 A1033 cA1033 cA1013 A1034 cA1034 n5 (BlkO.zero_ (BlkO.evo (by decide) hE b1651_cA1011)) (RdO.zero (RwO.rd (RwO.evo rfl hE b1651_A1033))) (MpN.zero_ (MpN.evo rfl hE b1651_cA1013)) (RdO.zero (RwO.rd (RwO.evo rfl hE b1651_A1034))) r1943 hr1943) post_val)
      refine steps_cons (fun own a wx hf hsl hE => ?_) ?_
      · obtain ⟨(f_128 : a.eval (.tmp 128) = .tuple #[.agg #[.int .i64 r1943.1.1.1, .int .i64 r1943.1.1.2, .int .i64 r1943.1.2.1, .int .i64 r1943.1.2.2], .bool r1943.2]), -⟩ := hf
        exact sg_plain rfl rfl (or_move f_128)
      refine steps_cons (fun own a wx hf hsl hE => ?_) ?_
      · obtain ⟨(f_125 : a.eval (.tmp 125) = .tuple #[.agg #[.int .i64 r1943.1.1.1, .int .i64 r1943.1.1.2, .int .i64 r1943.1.2.1, .int .i64 r1943.1.2.2], .bool r1943.2]), -⟩ := hf
        exact sg_plain rfl rfl (or_k [(125, .tuple #[.agg #[.int .i64 r1943.1.1.1, .int .i64 r1943.1.1.2, .int .i64 r1943.1.2.1, .int .i64 r1943.1.2.2], .bool r1943.2])] rfl rfl ⟨f_125, trivial⟩ (by kernel_rfl))
      refine steps_cons (fun own a wx hf hsl hE => ?_) ?_
      · obtain ⟨(f_125 : a.eval (.tmp 125) = .tuple #[.agg #[.int .i64 r1943.1.1.1, .int .i64 r1943.1.1.2, .int .i64 r1943.1.2.1, .int .i64 r1943.1.2.2], .bool r1943.2]), -⟩ := hf
        exact sg_plain rfl rfl (or_k [(125, .tuple #[.agg #[.int .i64 r1943.1.1.1, .int .i64 r1943.1.1.2, .int .i64 r1943.1.2.1, .int .i64 r1943.1.2.2], .bool r1943.2])] rfl rfl ⟨f_125, trivial⟩ (by kernel_rfl))
      refine steps_cons (fun own a wx hf hsl hE => ?_) ?_
      · exact sg_plain rfl rfl (or_new [] rfl rfl trivial (by kernel_rfl))
      refine steps_cons (fun own a wx hf hsl hE => ?_) ?_
      · obtain ⟨⟨g1944, (f_19 : a.eval (.tmp 19) = .pointer (some ⟨g1944, 0, none⟩)), (b_g1944 : BlkO own 1945 wx g1944 26 #[.int .i64 0, .int .i64 0, .int .i64 0, .int .i64 0])⟩, (f_129 : a.eval (.tmp 129) = .agg #[.int .i64 r1943.1.1.1, .int .i64 r1943.1.1.2, .int .i64 r1943.1.2.1, .int .i64 r1943.1.2.2]), -⟩ := hf
        exact sg_plain rfl rfl (or_store (l := #[.int .i64 r1943.1.1.1, .int .i64 r1943.1.1.2, .int .i64 r1943.1.2.1, .int .i64 r1943.1.2.2]) (lab := 1945) (lab2 := 1946) ts26 f_19 f_129 b_g1944 (by simp) (by kernel_rfl) (mem_of rfl) (by decide) (by kernel_rfl) (fun own' a' w' ha hb => ⟨_, (ha 19).trans f_19, hb⟩))
      refine steps_cons (fun own a wx hf hsl hE => ?_) ?_
      · obtain ⟨(f_130 : a.eval (.tmp 130) = .bool r1943.2), -⟩ := hf
        exact sg_plain rfl rfl (or_assign f_130)
      exact steps_nil
    intro own1947 a1947 w1947 hd1947 hz1947 hk1947 hf1947 hE1947
    have e1947_0 : a1947.eval (.tmp 0) = .slice A1003 x1002.length cA1003 := (hk1947 0 rfl).trans e1651_0
    have e1947_4 : a1947.eval (.tmp 4) = .int .i64 n5 := (hk1947 4 rfl).trans e1651_4
    have e1947_6 : a1947.eval (.tmp 6) = .pointer (some ⟨g997, 0, none⟩) := (hk1947 6 rfl).trans e1651_6
    have e1947_7 : a1947.eval (.tmp 7) = .pointer (some ⟨g999, 0, none⟩) := (hk1947 7 rfl).trans e1651_7
    have e1947_12 : a1947.eval (.tmp 12) = .pointer (some ⟨cA1011, 0, none⟩) := (hk1947 12 rfl).trans e1651_12
    have e1947_13 : a1947.eval (.tmp 13) = .slice A1344 found1346.length c1345 := (hk1947 13 rfl).trans e1651_13
    have e1947_14 : a1947.eval (.tmp 14) = .slice A1348 x1350.length c1349 := (hk1947 14 rfl).trans e1651_14
    have e1947_15 : a1947.eval (.tmp 15) = .slice A1047 r1046.length cA1047 := (hk1947 15 rfl).trans e1651_15
    have e1947_16 : a1947.eval (.tmp 16) = .int .i64 done1352 := (hk1947 16 rfl).trans e1651_16
    obtain ⟨⟨g1944, (f_19 : a1947.eval (.tmp 19) = .pointer (some ⟨g1944, 0, none⟩)), (b_g1944 : BlkO own1947 1946 w1947 g1944 26 #[.int .i64 r1943.1.1.1, .int .i64 r1943.1.1.2, .int .i64 r1943.1.2.1, .int .i64 r1943.1.2.2])⟩, (f_20 : a1947.eval (.tmp 20) = .bool r1943.2), -⟩ := hf1947 [7, 8] rfl
    have e1947_19 := f_19
    have e1947_20 := f_20
    have hX1947 := Evo.step hX1651 (fun _ => Nat.le_refl 0) hE1947 rfl
    have b1947_A1003 := RdO.evo rfl hE1947 b1651_A1003
    have b1947_g997 := BlkO.evo (by decide) hE1947 b1651_g997
    have b1947_g999 := BlkO.evo (by decide) hE1947 b1651_g999
    have b1947_cA1011 := BlkO.evo (by decide) hE1947 b1651_cA1011
    have b1947_A1033 := RwO.evo rfl hE1947 b1651_A1033
    have b1947_cA1013 := MpN.evo rfl hE1947 b1651_cA1013
    have b1947_A1034 := RwO.evo rfl hE1947 b1651_A1034
    have b1947_A1344 := RwO.evo rfl hE1947 b1651_A1344
    have b1947_A1348 := RwO.evo rfl hE1947 b1651_A1348
    have b1947_A1047 := RwO.evo rfl hE1947 b1651_A1047
    have b1947_g1944 := b_g1944
    obtain ⟨x1948, hx1948, hs⟩ := obind hs
    refine rg_plain_seq (n := 176) (rs := []) (own0 := own1947) (K := [])
        (bs := [0, 1, 3, 7, 7, 23, 63, 127, 255])
        (ds := [⟨[], [4], [], Fct.val 131 (.int .i64 n5)⟩,
        ⟨[0], [], [], Fct.val 132 (.bool (decide (0 ≤ n5)))⟩,
        ⟨[1], [], [], Fct.val 133 (.bool (decide (0 ≤ n5)))⟩,
        ⟨[2], [4], [], Fct.cond (decide (0 ≤ n5)) (some 134) (Fct.val 134 (.int .i64 n5))⟩,
        ⟨[2], [0], [], Fct.cond (decide (0 ≤ n5)) (some 135) (Fct.val 135 (.slice A1003 x1002.length cA1003))⟩,
        ⟨[2, 4], [], [], Fct.cond (decide (0 ≤ n5)) (some 136) (Fct.val 136 (.int .i64 (x1002.length : Int)))⟩,
        ⟨[2, 3, 5], [], [], Fct.cond (decide (0 ≤ n5)) (some 137) (Fct.val 137 (.bool (decide (n5 < (x1002.length : Int)))))⟩,
        ⟨[2, 6], [], [], Fct.val 138 (.bool x1948)⟩,
        ⟨[7], [], [], Fct.val 21 (.bool x1948)⟩]) (by kernel_rfl) hz1947 hd1947 (fun _ h => nomatch h) ?_ ?_
    · refine steps_cons (fun own a wx hf hsl hE => ?_) ?_
      · obtain ⟨s_4, -⟩ := hsl
        exact sg_plain rfl rfl (or_move (s_4.trans e1947_4))
      refine steps_cons (fun own a wx hf hsl hE => ?_) ?_
      · obtain ⟨(f_131 : a.eval (.tmp 131) = .int .i64 n5), -⟩ := hf
        exact sg_plain rfl rfl (or_geq f_131 rfl rfl)
      refine steps_cons (fun own a wx hf hsl hE => ?_) ?_
      · obtain ⟨(f_132 : a.eval (.tmp 132) = .bool (decide (0 ≤ n5))), -⟩ := hf
        exact sg_plain rfl rfl (or_move f_132)
      refine steps_cons (fun own a wx hf hsl hE => ?_) ?_
      · obtain ⟨(f_133 : a.eval (.tmp 133) = .bool (decide (0 ≤ n5))), -⟩ := hf
        obtain ⟨s_4, -⟩ := hsl
        refine sg_t rfl rfl rfl f_133 (fun hg => ?_)
        exact or_move (s_4.trans e1947_4)
      refine steps_cons (fun own a wx hf hsl hE => ?_) ?_
      · obtain ⟨(f_133 : a.eval (.tmp 133) = .bool (decide (0 ≤ n5))), -⟩ := hf
        obtain ⟨s_0, -⟩ := hsl
        refine sg_t rfl rfl rfl f_133 (fun hg => ?_)
        exact or_move (s_0.trans e1947_0)
      refine steps_cons (fun own a wx hf hsl hE => ?_) ?_
      · obtain ⟨(f_133 : a.eval (.tmp 133) = .bool (decide (0 ≤ n5))), c_135, -⟩ := hf
        refine sg_t rfl rfl rfl f_133 (fun hg => ?_)
        have f_135 : a.eval (.tmp 135) = .slice A1003 x1002.length cA1003 := c_135.1 hg
        exact or_len tu22 f_135 rfl
      refine steps_cons (fun own a wx hf hsl hE => ?_) ?_
      · obtain ⟨(f_133 : a.eval (.tmp 133) = .bool (decide (0 ≤ n5))), c_134, c_136, -⟩ := hf
        refine sg_t rfl rfl rfl f_133 (fun hg => ?_)
        have f_134 : a.eval (.tmp 134) = .int .i64 n5 := c_134.1 hg
        have f_136 : a.eval (.tmp 136) = .int .i64 (x1002.length : Int) := c_136.1 hg
        exact or_lss f_134 f_136 rfl
      refine steps_cons (fun own a wx hf hsl hE => ?_) ?_
      · obtain ⟨(f_133 : a.eval (.tmp 133) = .bool (decide (0 ≤ n5))), c_137, -⟩ := hf
        exact sg_plain rfl rfl (or_and f_133 (fun hx => c_137.1 hx) rfl (osome hx1948).symm)
      refine steps_cons (fun own a wx hf hsl hE => ?_) ?_
      · obtain ⟨(f_138 : a.eval (.tmp 138) = .bool x1948), -⟩ := hf
        exact sg_plain rfl rfl (or_assign f_138)
      exact steps_nil
    intro own1949 a1949 w1949 hd1949 hz1949 hk1949 hf1949 hE1949
    have e1949_0 : a1949.eval (.tmp 0) = .slice A1003 x1002.length cA1003 := (hk1949 0 rfl).trans e1947_0
    have e1949_4 : a1949.eval (.tmp 4) = .int .i64 n5 := (hk1949 4 rfl).trans e1947_4
    have e1949_6 : a1949.eval (.tmp 6) = .pointer (some ⟨g997, 0, none⟩) := (hk1949 6 rfl).trans e1947_6
    have e1949_7 : a1949.eval (.tmp 7) = .pointer (some ⟨g999, 0, none⟩) := (hk1949 7 rfl).trans e1947_7
    have e1949_12 : a1949.eval (.tmp 12) = .pointer (some ⟨cA1011, 0, none⟩) := (hk1949 12 rfl).trans e1947_12
    have e1949_13 : a1949.eval (.tmp 13) = .slice A1344 found1346.length c1345 := (hk1949 13 rfl).trans e1947_13
    have e1949_14 : a1949.eval (.tmp 14) = .slice A1348 x1350.length c1349 := (hk1949 14 rfl).trans e1947_14
    have e1949_15 : a1949.eval (.tmp 15) = .slice A1047 r1046.length cA1047 := (hk1949 15 rfl).trans e1947_15
    have e1949_16 : a1949.eval (.tmp 16) = .int .i64 done1352 := (hk1949 16 rfl).trans e1947_16
    have e1949_19 : a1949.eval (.tmp 19) = .pointer (some ⟨g1944, 0, none⟩) := (hk1949 19 rfl).trans e1947_19
    have e1949_20 : a1949.eval (.tmp 20) = .bool r1943.2 := (hk1949 20 rfl).trans e1947_20
    obtain ⟨(f_21 : a1949.eval (.tmp 21) = .bool x1948), -⟩ := hf1949 [8] rfl
    have e1949_21 := f_21
    have hX1949 := Evo.step hX1947 (fun _ => Nat.le_refl 0) hE1949 rfl
    have b1949_A1003 := RdO.evo rfl hE1949 b1947_A1003
    have b1949_g997 := BlkO.evo (by decide) hE1949 b1947_g997
    have b1949_g999 := BlkO.evo (by decide) hE1949 b1947_g999
    have b1949_cA1011 := BlkO.evo (by decide) hE1949 b1947_cA1011
    have b1949_A1033 := RwO.evo rfl hE1949 b1947_A1033
    have b1949_cA1013 := MpN.evo rfl hE1949 b1947_cA1013
    have b1949_A1034 := RwO.evo rfl hE1949 b1947_A1034
    have b1949_A1344 := RwO.evo rfl hE1949 b1947_A1344
    have b1949_A1348 := RwO.evo rfl hE1949 b1947_A1348
    have b1949_A1047 := RwO.evo rfl hE1949 b1947_A1047
    have b1949_g1944 := BlkO.evo (by decide) hE1949 b1947_g1944
    refine rg_plain_seq (n := 176) (rs := []) (own0 := own1949) (K := [1951])
        (bs := [0, 0, 3])
        (ds := [⟨[], [], [], Fct.val 139 (.agg #[.int .i64 0, .int .i64 0, .int .i64 0, .int .i64 0])⟩,
        ⟨[], [], [], Fct.blk 1951 22 (fun g => .pointer (some ⟨g, 0, none⟩)) 26 #[.int .i64 0, .int .i64 0, .int .i64 0, .int .i64 0]⟩,
        ⟨[1, 0], [], [1951], Fct.blk 1952 22 (fun g => .pointer (some ⟨g, 0, none⟩)) 26 #[.int .i64 0, .int .i64 0, .int .i64 0, .int .i64 0]⟩]) (by kernel_rfl) hz1949 hd1949 (fun _ h => nomatch h) ?_ ?_
    · refine steps_cons (fun own a wx hf hsl hE => ?_) ?_
      · exact sg_plain rfl rfl (or_k [] rfl rfl trivial (by kernel_rfl))
      refine steps_cons (fun own a wx hf hsl hE => ?_) ?_
      · exact sg_plain rfl rfl (or_new [] rfl rfl trivial (by kernel_rfl))
      refine steps_cons (fun own a wx hf hsl hE => ?_) ?_
      · obtain ⟨⟨g1950, (f_22 : a.eval (.tmp 22) = .pointer (some ⟨g1950, 0, none⟩)), (b_g1950 : BlkO own 1951 wx g1950 26 #[.int .i64 0, .int .i64 0, .int .i64 0, .int .i64 0])⟩, (f_139 : a.eval (.tmp 139) = .agg #[.int .i64 0, .int .i64 0, .int .i64 0, .int .i64 0]), -⟩ := hf
        exact sg_plain rfl rfl (or_store (l := #[.int .i64 0, .int .i64 0, .int .i64 0, .int .i64 0]) (lab := 1951) (lab2 := 1952) ts26 f_22 f_139 b_g1950 (by simp) (by kernel_rfl) (mem_of rfl) (by decide) (by kernel_rfl) (fun own' a' w' ha hb => ⟨_, (ha 22).trans f_22, hb⟩))
      exact steps_nil
    intro own1953 a1953 w1953 hd1953 hz1953 hk1953 hf1953 hE1953
    have e1953_0 : a1953.eval (.tmp 0) = .slice A1003 x1002.length cA1003 := (hk1953 0 rfl).trans e1949_0
    have e1953_4 : a1953.eval (.tmp 4) = .int .i64 n5 := (hk1953 4 rfl).trans e1949_4
    have e1953_6 : a1953.eval (.tmp 6) = .pointer (some ⟨g997, 0, none⟩) := (hk1953 6 rfl).trans e1949_6
    have e1953_7 : a1953.eval (.tmp 7) = .pointer (some ⟨g999, 0, none⟩) := (hk1953 7 rfl).trans e1949_7
    have e1953_12 : a1953.eval (.tmp 12) = .pointer (some ⟨cA1011, 0, none⟩) := (hk1953 12 rfl).trans e1949_12
    have e1953_13 : a1953.eval (.tmp 13) = .slice A1344 found1346.length c1345 := (hk1953 13 rfl).trans e1949_13
    have e1953_14 : a1953.eval (.tmp 14) = .slice A1348 x1350.length c1349 := (hk1953 14 rfl).trans e1949_14
    have e1953_15 : a1953.eval (.tmp 15) = .slice A1047 r1046.length cA1047 := (hk1953 15 rfl).trans e1949_15
    have e1953_16 : a1953.eval (.tmp 16) = .int .i64 done1352 := (hk1953 16 rfl).trans e1949_16
    have e1953_19 : a1953.eval (.tmp 19) = .pointer (some ⟨g1944, 0, none⟩) := (hk1953 19 rfl).trans e1949_19
    have e1953_20 : a1953.eval (.tmp 20) = .bool r1943.2 := (hk1953 20 rfl).trans e1949_20
    have e1953_21 : a1953.eval (.tmp 21) = .bool x1948 := (hk1953 21 rfl).trans e1949_21
    obtain ⟨⟨g1950, (f_22 : a1953.eval (.tmp 22) = .pointer (some ⟨g1950, 0, none⟩)), (b_g1950 : BlkO own1953 1952 w1953 g1950 26 #[.int .i64 0, .int .i64 0, .int .i64 0, .int .i64 0])⟩, -⟩ := hf1953 [2] rfl
    have e1953_22 := f_22
    have hX1953 := Evo.step hX1949 (fun _ => Nat.le_refl 0) hE1953 rfl
    have b1953_A1003 := RdO.evo rfl hE1953 b1949_A1003
    have b1953_g997 := BlkO.evo (by decide) hE1953 b1949_g997
    have b1953_g999 := BlkO.evo (by decide) hE1953 b1949_g999
    have b1953_cA1011 := BlkO.evo (by decide) hE1953 b1949_cA1011
    have b1953_A1033 := RwO.evo rfl hE1953 b1949_A1033
    have b1953_cA1013 := MpN.evo rfl hE1953 b1949_cA1013
    have b1953_A1034 := RwO.evo rfl hE1953 b1949_A1034
    have b1953_A1344 := RwO.evo rfl hE1953 b1949_A1344
    have b1953_A1348 := RwO.evo rfl hE1953 b1949_A1348
    have b1953_A1047 := RwO.evo rfl hE1953 b1949_A1047
    have b1953_g1944 := BlkO.evo (by decide) hE1953 b1949_g1944
    have b1953_g1950 := b_g1950
    refine fl_seq (fun Q1954 hn1954 hp1954 => ?_)
    have K1963 : ∀ (a1963 : Act) (w1963 : World) (own1963 : Own) (want1962 : (Int × Int) × (Int × Int)), a1963.defers = [] → a1963.tmps.size = 176 → a1963.eval (.tmp 6) = .pointer (some ⟨g997, 0, none⟩) → a1963.eval (.tmp 7) = .pointer (some ⟨g999, 0, none⟩) → a1963.eval (.tmp 12) = .pointer (some ⟨cA1011, 0, none⟩) → a1963.eval (.tmp 13) = .slice A1344 found1346.length c1345 → a1963.eval (.tmp 14) = .slice A1348 x1350.length c1349 → a1963.eval (.tmp 15) = .slice A1047 r1046.length cA1047 → a1963.eval (.tmp 16) = .int .i64 done1352 → a1963.eval (.tmp 19) = .pointer (some ⟨g1944, 0, none⟩) → a1963.eval (.tmp 20) = .bool r1943.2 → a1963.eval (.tmp 21) = .bool x1948 → a1963.eval (.tmp 22) = .pointer (some ⟨g1950, 0, none⟩) → Evo [] (fun _ => 0) own1963 w w1963 → BlkO own1963 998 w1963 g997 26 #[.int .i64 b2.1.1, .int .i64 b2.1.2, .int .i64 b2.2.1, .int .i64 b2.2.2] → BlkO own1963 1000 w1963 g999 24 #[.int .i64 p3.1, .int .i64 p3.2] → BlkO own1963 1039 w1963 cA1011 62 #[.slice A1033 r1032.2.1.length cA1033, .map (some cA1013), .slice A1034 r1032.2.2.2.length cA1034] → RwO own1963 1035 [] w1963 26 R26 A1033 cA1033 r1032.2.1 → MpN own1963 1036 1037 [] w1963 cA1013 vv35 3 R3 r1032.2.2.1 → RwO own1963 1038 [] w1963 3 R3 A1034 cA1034 r1032.2.2.2 → RwO own1963 1347 [] w1963 3 R3 A1344 c1345 found1346 → RwO own1963 1351 [] w1963 3 R3 A1348 c1349 x1350 → RwO own1963 1048 [] w1963 35 R35 A1047 cA1047 r1046 → BlkO own1963 1946 w1963 g1944 26 #[.int .i64 r1943.1.1.1, .int .i64 r1943.1.1.2, .int .i64 r1943.1.2.1, .int .i64 r1943.1.2.2] → BlkO own1963 1961 w1963 g1950 26 #[.int .i64 want1962.1.1, .int .i64 want1962.1.2, .int .i64 want1962.2.1, .int .i64 want1962.2.2] → law06_RowsFind_k6 b2 p3 r1032 r1046 found1346 x1350 done1352 r1943 x1948 want1962 = some r → Q1954 .normal a1963 w1963 := by
      intro a1963 w1963 own1963 want1962 hd1964 hz1964 e1964_6 e1964_7 e1964_12 e1964_13 e1964_14 e1964_15 e1964_16 e1964_19 e1964_20 e1964_21 e1964_22 hE1964 b1964_g997 b1964_g999 b1964_cA1011 b1964_A1033 b1964_cA1013 b1964_A1034 b1964_A1344 b1964_A1348 b1964_A1047 b1964_g1944 b1964_g1950 hs
      refine hn1954 _ _ ?_
      obtain ⟨r1965, hr1965, hs⟩ := obind hs
      obtain ⟨r1966, hr1966, hs⟩ := obind hs
      obtain ⟨r1969, hr1969, hs⟩ := obind hs
      obtain ⟨r1970, hr1970, hs⟩ := obind hs
      obtain ⟨r1973, hr1973, hs⟩ := obind hs
      obtain ⟨x1974, hx1974, hs⟩ := obind hs
      obtain ⟨x1975, hx1975, hs⟩ := obind hs
      refine rg_plain_seq (n := 176) (rs := []) (own0 := own1963) (K := [])
          (bs := [0, 1, 3, 3, 15, 3, 63, 127, 255, 511, 511, 2047, 511, 8191, 16383, 32767, 65535, 65535, 196607, 524287, 1048575, 2097151, 4194303, 4194303, 16777215, 33554431, 67108863, 134217727, 134217727, 536870911, 1073741823, 2147483647])
          (ds := [⟨[], [], [], Fct.val 145 (.bool r1965)⟩,
          ⟨[0], [], [], Fct.val 146 (.bool r1965)⟩,
          ⟨[1], [12], [], Fct.cond r1965 (some 147) (Fct.val 147 (.pointer (some ⟨cA1011, 0, none⟩)))⟩,
          ⟨[1], [6], [], Fct.cond r1965 (some 148) (Fct.val 148 (.agg #[.int .i64 b2.1.1, .int .i64 b2.1.2, .int .i64 b2.2.1, .int .i64 b2.2.2]))⟩,
          ⟨[1, 2, 3], [], [], Fct.cond r1965 (some 149) (Fct.row 1968 [] 149 3 R3 r1966)⟩,
          ⟨[1], [13], [], Fct.cond r1965 (some 150) (Fct.val 150 (.slice A1344 found1346.length c1345))⟩,
          ⟨[1, 4, 5], [], [], Fct.cond r1965 (some 151) (Fct.val 151 (.bool r1969))⟩,
          ⟨[1, 6], [], [], Fct.val 152 (.bool (r1965 && r1969))⟩,
          ⟨[7], [], [], Fct.val 153 (.bool (r1965 && r1969))⟩,
          ⟨[8], [12], [], Fct.cond (r1965 && r1969) (some 154) (Fct.val 154 (.pointer (some ⟨cA1011, 0, none⟩)))⟩,
          ⟨[8], [7], [], Fct.cond (r1965 && r1969) (some 155) (Fct.val 155 (.agg #[.int .i64 p3.1, .int .i64 p3.2]))⟩,
          ⟨[8, 9, 10], [], [], Fct.cond (r1965 && r1969) (some 156) (Fct.row 1972 [] 156 3 R3 r1970)⟩,
          ⟨[8], [14], [], Fct.cond (r1965 && r1969) (some 157) (Fct.val 157 (.slice A1348 x1350.length c1349))⟩,
          ⟨[8, 11, 12], [], [], Fct.cond (r1965 && r1969) (some 158) (Fct.val 158 (.bool r1973))⟩,
          ⟨[8, 13], [], [], Fct.val 159 (.bool ((r1965 && r1969) && r1973))⟩,
          ⟨[14], [], [], Fct.val 160 (.bool ((r1965 && r1969) && r1973))⟩,
          ⟨[15], [16], [], Fct.cond ((r1965 && r1969) && r1973) (some 161) (Fct.val 161 (.int .i64 done1352))⟩,
          ⟨[15], [15], [], Fct.cond ((r1965 && r1969) && r1973) (some 162) (Fct.val 162 (.slice A1047 r1046.length cA1047))⟩,
          ⟨[15, 17], [], [], Fct.cond ((r1965 && r1969) && r1973) (some 163) (Fct.val 163 (.int .i64 (r1046.length : Int)))⟩,
          ⟨[15, 16, 18], [], [], Fct.cond ((r1965 && r1969) && r1973) (some 164) (Fct.val 164 (.bool (decide (done1352 = (r1046.length : Int)))))⟩,
          ⟨[15, 19], [], [], Fct.val 165 (.bool x1974)⟩,
          ⟨[20], [], [], Fct.val 166 (.bool x1974)⟩,
          ⟨[21], [20], [], Fct.cond x1974 (some 167) (Fct.val 167 (.bool r1943.2))⟩,
          ⟨[21], [21], [], Fct.cond x1974 (some 168) (Fct.val 168 (.bool x1948))⟩,
          ⟨[21, 22, 23], [], [], Fct.cond x1974 (some 169) (Fct.val 169 (.bool (r1943.2 == x1948)))⟩,
          ⟨[21, 24], [], [], Fct.val 170 (.bool (x1974 && (r1943.2 == x1948)))⟩,
          ⟨[25], [], [], Fct.val 171 (.bool (x1974 && (r1943.2 == x1948)))⟩,
          ⟨[26], [19], [], Fct.cond (x1974 && (r1943.2 == x1948)) (some 172) (Fct.val 172 (.agg #[.int .i64 r1943.1.1.1, .int .i64 r1943.1.1.2, .int .i64 r1943.1.2.1, .int .i64 r1943.1.2.2]))⟩,
          ⟨[26], [22], [], Fct.cond (x1974 && (r1943.2 == x1948)) (some 173) (Fct.val 173 (.agg #[.int .i64 want1962.1.1, .int .i64 want1962.1.2, .int .i64 want1962.2.1, .int .i64 want1962.2.2]))⟩,
          ⟨[26, 27, 28], [], [], Fct.cond (x1974 && (r1943.2 == x1948)) (some 174) (Fct.val 174 (.bool (decide (r1943.1 = want1962))))⟩,
          ⟨[26, 29], [], [], Fct.val 175 (.bool x1975)⟩,
          ⟨[30], [], [], Fct.val 10 (.bool x1975)⟩]) (by kernel_rfl) hz1964 hd1964 (fun _ h => nomatch h) ?_ ?_
      · refine steps_cons (fun own a wx hf hsl hE => ?_) ?_
        · exact sg_plain rfl rfl (or_call cf14 (args0) (law06_known_w _   r1965 hr1965) post_val)
        refine steps_cons (fun own a wx hf hsl hE => ?_) ?_
        · obtain ⟨(f_145 : a.eval (.tmp 145) = .bool r1965), -⟩ := hf
          exact sg_plain rfl rfl (or_move f_145)
        refine steps_cons (fun own a wx hf hsl hE => ?_) ?_
        · obtain ⟨(f_146 : a.eval (.tmp 146) = .bool r1965), -⟩ := hf
          obtain ⟨s_12, -⟩ := hsl
          refine sg_t rfl rfl rfl f_146 (fun hg => ?_)
          exact or_move (s_12.trans e1964_12)
        refine steps_cons (fun own a wx hf hsl hE => ?_) ?_
        · obtain ⟨(f_146 : a.eval (.tmp 146) = .bool r1965), -⟩ := hf
          obtain ⟨s_6, -⟩ := hsl
          refine sg_t rfl rfl rfl f_146 (fun hg => ?_)
          exact or_load (l := [.int .i64 b2.1.1, .int .i64 b2.1.2, .int .i64 b2.2.1, .int .i64 b2.2.2]) ta26 (s_6.trans e1964_6) (Blk.cellsFrom (BlkO.evo (by decide) hE b1964_g997).2 0 rfl) rfl
        refine steps_cons (fun own a wx hf hsl hE => ?_) ?_
        · obtain ⟨(f_146 : a.eval (.tmp 146) = .bool r1965), c_147, c_148, -⟩ := hf
          refine sg_t rfl rfl rfl f_146 (fun hg => ?_)
          have f_147 : a.eval (.tmp 147) = .pointer (some ⟨cA1011, 0, none⟩) := c_147.1 hg
          have f_148 : a.eval (.tmp 148) = .agg #[.int .i64 b2.1.1, .int .i64 b2.1.2, .int .i64 b2.2.1, .int .i64 b2.2.2] := c_148.1 hg
          exact or_call cf11 (args2 f_147 f_148) (rows_Index_Find_w _ r1032.2 cA1011 62 A1033 cA1033 cA1013 A1034 cA1034 b2 (BlkO.zero_ (BlkO.evo (by decide) hE b1964_cA1011)) (RdO.zero (RwO.rd (RwO.evo rfl hE b1964_A1033))) (MpN.zero_ (MpN.evo rfl hE b1964_cA1013)) (RdO.zero (RwO.rd (RwO.evo rfl hE b1964_A1034))) r1966 (gd_t hr1966 hg)) (post_row (m' := (look0 [(1, 1968)])) (.inl (Rep.fl_flat _)) rfl rfl (fun _ => rfl))
        refine steps_cons (fun own a wx hf hsl hE => ?_) ?_
        · obtain ⟨(f_146 : a.eval (.tmp 146) = .bool r1965), -⟩ := hf
          obtain ⟨s_13, -⟩ := hsl
          refine sg_t rfl rfl rfl f_146 (fun hg => ?_)
          exact or_move (s_13.trans e1964_13)
        refine steps_cons (fun own a wx hf hsl hE => ?_) ?_
        · obtain ⟨(f_146 : a.eval (.tmp 146) = .bool r1965), c_149, c_150, -⟩ := hf
          refine sg_t rfl rfl rfl f_146 (fun hg => ?_)
          obtain ⟨⟨A1967, cA1967⟩, (f_149 : a.eval (.tmp 149) = .slice A1967 r1966.length cA1967), (b_A1967 : RwO own 1968 [] wx 3 R3 A1967 cA1967 r1966)⟩ := c_149.1 hg
          have f_150 : a.eval (.tmp 150) = .slice A1344 found1346.length c1345 := c_150.1 hg
          exact or_call cf10 (args2 f_149 f_150) (law04_Ints_w _ r1966 A1967 cA1967 found1346 A1344 c1345 (RdO.zero (RwO.rd b_A1967)) (RdO.zero (RwO.rd (RwO.evo rfl hE b1964_A1344))) r1969 (gd_t hr1969 hg)) post_val
        refine steps_cons (fun own a wx hf hsl hE => ?_) ?_
        · obtain ⟨(f_146 : a.eval (.tmp 146) = .bool r1965), c_151, -⟩ := hf
          exact sg_plain rfl rfl (or_and f_146 (fun hx => c_151.1 hx) rfl rfl)
        refine steps_cons (fun own a wx hf hsl hE => ?_) ?_
        · obtain ⟨(f_152 : a.eval (.tmp 152) = .bool (r1965 && r1969)), -⟩ := hf
          exact sg_plain rfl rfl (or_move f_152)
        refine steps_cons (fun own a wx hf hsl hE => ?_) ?_
        · obtain ⟨(f_153 : a.eval (.tmp 153) = .bool (r1965 && r1969)), -⟩ := hf
          obtain ⟨s_12, -⟩ := hsl
          refine sg_t rfl rfl rfl f_153 (fun hg => ?_)
          exact or_move (s_12.trans e1964_12)
        refine steps_cons (fun own a wx hf hsl hE => ?_) ?_
        · obtain ⟨(f_153 : a.eval (.tmp 153) = .bool (r1965 && r1969)), -⟩ := hf
          obtain ⟨s_7, -⟩ := hsl
          refine sg_t rfl rfl rfl f_153 (fun hg => ?_)
          exact or_load (l := [.int .i64 p3.1, .int .i64 p3.2]) ta24 (s_7.trans e1964_7) (Blk.cellsFrom (BlkO.evo (by decide) hE b1964_g999).2 0 rfl) rfl
        refine steps_cons (fun own a wx hf hsl hE => ?_) ?_
        · obtain ⟨(f_153 : a.eval (.tmp 153) = .bool (r1965 && r1969)), c_154, c_155, -⟩ := hf
          refine sg_t rfl rfl rfl f_153 (fun hg => ?_)
          have f_154 : a.eval (.tmp 154) = .pointer (some ⟨cA1011, 0, none⟩) := c_154.1 hg
          have f_155 : a.eval (.tmp 155) = .agg #[.int .i64 p3.1, .int .i64 p3.2] := c_155.1 hg
          exact or_call cf20 (args2 f_154 f_155) (rows_Index_At_w _ r1032.2 cA1011 62 A1033 cA1033 cA1013 A1034 cA1034 p3 (BlkO.zero_ (BlkO.evo (by decide) hE b1964_cA1011)) (RdO.zero (RwO.rd (RwO.evo rfl hE b1964_A1033))) (MpN.zero_ (MpN.evo rfl hE b1964_cA1013)) (RdO.zero (RwO.rd (RwO.evo rfl hE b1964_A1034))) r1970 (gd_t hr1970 hg)) (post_row (m' := (look0 [(1, 1972)])) (.inl (Rep.fl_flat _)) rfl rfl (fun _ => rfl))
        refine steps_cons (fun own a wx hf hsl hE => ?_) ?_
        · obtain ⟨(f_153 : a.eval (.tmp 153) = .bool (r1965 && r1969)), -⟩ := hf
          obtain ⟨s_14, -⟩ := hsl
          refine sg_t rfl rfl rfl f_153 (fun hg => ?_)
          exact or_move (s_14.trans e1964_14)
        refine steps_cons (fun own a wx hf hsl hE => ?_) ?_
        · obtain ⟨(f_153 : a.eval (.tmp 153) = .bool (r1965 && r1969)), c_156, c_157, -⟩ := hf
          refine sg_t rfl rfl rfl f_153 (fun hg => ?_)
          obtain ⟨⟨A1971, cA1971⟩, (f_156 : a.eval (.tmp 156) = .slice A1971 r1970.length cA1971), (b_A1971 : RwO own 1972 [] wx 3 R3 A1971 cA1971 r1970)⟩ := c_156.1 hg
          have f_157 : a.eval (.tmp 157) = .slice A1348 x1350.length c1349 := c_157.1 hg
          exact or_call cf10 (args2 f_156 f_157) (law04_Ints_w _ r1970 A1971 cA1971 x1350 A1348 c1349 (RdO.zero (RwO.rd b_A1971)) (RdO.zero (RwO.rd (RwO.evo rfl hE b1964_A1348))) r1973 (gd_t hr1973 hg)) post_val
        refine steps_cons (fun own a wx hf hsl hE => ?_) ?_
        · obtain ⟨(f_153 : a.eval (.tmp 153) = .bool (r1965 && r1969)), c_158, -⟩ := hf
          exact sg_plain rfl rfl (or_and f_153 (fun hx => c_158.1 hx) rfl rfl)
        refine steps_cons (fun own a wx hf hsl hE => ?_) ?_
        · obtain ⟨(f_159 : a.eval (.tmp 159) = .bool ((r1965 && r1969) && r1973)), -⟩ := hf
          exact sg_plain rfl rfl (or_move f_159)
        refine steps_cons (fun own a wx hf hsl hE => ?_) ?_
        · obtain ⟨(f_160 : a.eval (.tmp 160) = .bool ((r1965 && r1969) && r1973)), -⟩ := hf
          obtain ⟨s_16, -⟩ := hsl
          refine sg_t rfl rfl rfl f_160 (fun hg => ?_)
          exact or_move (s_16.trans e1964_16)
        refine steps_cons (fun own a wx hf hsl hE => ?_) ?_
        · obtain ⟨(f_160 : a.eval (.tmp 160) = .bool ((r1965 && r1969) && r1973)), -⟩ := hf
          obtain ⟨s_15, -⟩ := hsl
          refine sg_t rfl rfl rfl f_160 (fun hg => ?_)
          exact or_move (s_15.trans e1964_15)
        refine steps_cons (fun own a wx hf hsl hE => ?_) ?_
        · obtain ⟨(f_160 : a.eval (.tmp 160) = .bool ((r1965 && r1969) && r1973)), c_162, -⟩ := hf
          refine sg_t rfl rfl rfl f_160 (fun hg => ?_)
          have f_162 : a.eval (.tmp 162) = .slice A1047 r1046.length cA1047 := c_162.1 hg
          exact or_len tu30 f_162 rfl
        refine steps_cons (fun own a wx hf hsl hE => ?_) ?_
        · obtain ⟨(f_160 : a.eval (.tmp 160) = .bool ((r1965 && r1969) && r1973)), c_161, c_163, -⟩ := hf
          refine sg_t rfl rfl rfl f_160 (fun hg => ?_)
          have f_161 : a.eval (.tmp 161) = .int .i64 done1352 := c_161.1 hg
          have f_163 : a.eval (.tmp 163) = .int .i64 (r1046.length : Int) := c_163.1 hg
          exact or_eql f_161 f_163 rfl
        refine steps_cons (fun own a wx hf hsl hE => ?_) ?_
        · obtain ⟨(f_160 : a.eval (.tmp 160) = .bool ((r1965 && r1969) && r1973)), c_164, -⟩ := hf
          exact sg_plain rfl rfl (or_and f_160 (fun hx => c_164.1 hx) rfl (osome hx1974).symm)
        refine steps_cons (fun own a wx hf hsl hE => ?_) ?_
        · obtain ⟨(f_165 : a.eval (.tmp 165) = .bool x1974), -⟩ := hf
          exact sg_plain rfl rfl (or_move f_165)
        refine steps_cons (fun own a wx hf hsl hE => ?_) ?_
        · obtain ⟨(f_166 : a.eval (.tmp 166) = .bool x1974), -⟩ := hf
          obtain ⟨s_20, -⟩ := hsl
          refine sg_t rfl rfl rfl f_166 (fun hg => ?_)
          exact or_move (s_20.trans e1964_20)
        refine steps_cons (fun own a wx hf hsl hE => ?_) ?_
        · obtain ⟨(f_166 : a.eval (.tmp 166) = .bool x1974), -⟩ := hf
          obtain ⟨s_21, -⟩ := hsl
          refine sg_t rfl rfl rfl f_166 (fun hg => ?_)
          exact or_move (s_21.trans e1964_21)
        refine steps_cons (fun own a wx hf hsl hE => ?_) ?_
        · obtain ⟨(f_166 : a.eval (.tmp 166) = .bool x1974), c_167, c_168, -⟩ := hf
          refine sg_t rfl rfl rfl f_166 (fun hg => ?_)
          have f_167 : a.eval (.tmp 167) = .bool r1943.2 := c_167.1 hg
          have f_168 : a.eval (.tmp 168) = .bool x1948 := c_168.1 hg
          exact or_eqlb tb4 f_167 f_168 rfl
        refine steps_cons (fun own a wx hf hsl hE => ?_) ?_
        · obtain ⟨(f_166 : a.eval (.tmp 166) = .bool x1974), c_169, -⟩ := hf
          exact sg_plain rfl rfl (or_and f_166 (fun hx => c_169.1 hx) rfl rfl)
        refine steps_cons (fun own a wx hf hsl hE => ?_) ?_
        · obtain ⟨(f_170 : a.eval (.tmp 170) = .bool (x1974 && (r1943.2 == x1948))), -⟩ := hf
          exact sg_plain rfl rfl (or_move f_170)
        refine steps_cons (fun own a wx hf hsl hE => ?_) ?_
        · obtain ⟨(f_171 : a.eval (.tmp 171) = .bool (x1974 && (r1943.2 == x1948))), -⟩ := hf
          obtain ⟨s_19, -⟩ := hsl
          refine sg_t rfl rfl rfl f_171 (fun hg => ?_)
          exact or_load (l := [.int .i64 r1943.1.1.1, .int .i64 r1943.1.1.2, .int .i64 r1943.1.2.1, .int .i64 r1943.1.2.2]) ta26 (s_19.trans e1964_19) (Blk.cellsFrom (BlkO.evo (by decide) hE b1964_g1944).2 0 rfl) rfl
        refine steps_cons (fun own a wx hf hsl hE => ?_) ?_
        · obtain ⟨(f_171 : a.eval (.tmp 171) = .bool (x1974 && (r1943.2 == x1948))), -⟩ := hf
          obtain ⟨s_22, -⟩ := hsl
          refine sg_t rfl rfl rfl f_171 (fun hg => ?_)
          exact or_load (l := [.int .i64 want1962.1.1, .int .i64 want1962.1.2, .int .i64 want1962.2.1, .int .i64 want1962.2.2]) ta26 (s_22.trans e1964_22) (Blk.cellsFrom (BlkO.evo (by decide) hE b1964_g1950).2 0 rfl) rfl
        refine steps_cons (fun own a wx hf hsl hE => ?_) ?_
        · obtain ⟨(f_171 : a.eval (.tmp 171) = .bool (x1974 && (r1943.2 == x1948))), c_172, c_173, -⟩ := hf
          refine sg_t rfl rfl rfl f_171 (fun hg => ?_)
          have f_172 : a.eval (.tmp 172) = .agg #[.int .i64 r1943.1.1.1, .int .i64 r1943.1.1.2, .int .i64 r1943.1.2.1, .int .i64 r1943.1.2.2] := c_172.1 hg
          have f_173 : a.eval (.tmp 173) = .agg #[.int .i64 want1962.1.1, .int .i64 want1962.1.2, .int .i64 want1962.2.1, .int .i64 want1962.2.2] := c_173.1 hg
          exact or_eqlA sg26 f_172 f_173 (se26 r1943.1.1.1 r1943.1.1.2 r1943.1.2.1 r1943.1.2.2 want1962.1.1 want1962.1.2 want1962.2.1 want1962.2.2 _) rfl
        refine steps_cons (fun own a wx hf hsl hE => ?_) ?_
        · obtain ⟨(f_171 : a.eval (.tmp 171) = .bool (x1974 && (r1943.2 == x1948))), c_174, -⟩ := hf
          exact sg_plain rfl rfl (or_and f_171 (fun hx => c_174.1 hx) rfl (osome hx1975).symm)
        refine steps_cons (fun own a wx hf hsl hE => ?_) ?_
        · obtain ⟨(f_175 : a.eval (.tmp 175) = .bool x1975), -⟩ := hf
          exact sg_plain rfl rfl (or_assign f_175)
        exact steps_nil
      intro own1976 a1976 w1976 hd1976 hz1976 hk1976 hf1976 hE1976
      obtain ⟨(f_10 : a1976.eval (.tmp 10) = .bool x1975), -⟩ := hf1976 [31] rfl
      have e1976_10 := f_10
      have hX1976 := Evo.step hE1964 (fun _ => Nat.le_refl 0) hE1976 rfl
      refine fl_ret ?_
      obtain rfl := (osome hs).symm
      exact hret _ _ _ _ (.inl rfl) hd1976 (results1_ rfl (RVal.tmp_ e1976_10)) ⟨own1976, rfl, hX1976⟩
    refine rg_plain_seq (n := 176) (rs := []) (own0 := own1953) (K := [])
        (bs := [0])
        (ds := [⟨[], [21], [], Fct.val 140 (.bool x1948)⟩]) (by kernel_rfl) hz1953 hd1953 (fun _ h => nomatch h) ?_ ?_
    · refine steps_cons (fun own a wx hf hsl hE => ?_) ?_
      · obtain ⟨s_21, -⟩ := hsl
        exact sg_plain rfl rfl (or_move (s_21.trans e1953_21))
      exact steps_nil
    intro own1977 a1977 w1977 hd1977 hz1977 hk1977 hf1977 hE1977
    have e1977_0 : a1977.eval (.tmp 0) = .slice A1003 x1002.length cA1003 := (hk1977 0 rfl).trans e1953_0
    have e1977_4 : a1977.eval (.tmp 4) = .int .i64 n5 := (hk1977 4 rfl).trans e1953_4
    have e1977_6 : a1977.eval (.tmp 6) = .pointer (some ⟨g997, 0, none⟩) := (hk1977 6 rfl).trans e1953_6
    have e1977_7 : a1977.eval (.tmp 7) = .pointer (some ⟨g999, 0, none⟩) := (hk1977 7 rfl).trans e1953_7
    have e1977_12 : a1977.eval (.tmp 12) = .pointer (some ⟨cA1011, 0, none⟩) := (hk1977 12 rfl).trans e1953_12
    have e1977_13 : a1977.eval (.tmp 13) = .slice A1344 found1346.length c1345 := (hk1977 13 rfl).trans e1953_13
    have e1977_14 : a1977.eval (.tmp 14) = .slice A1348 x1350.length c1349 := (hk1977 14 rfl).trans e1953_14
    have e1977_15 : a1977.eval (.tmp 15) = .slice A1047 r1046.length cA1047 := (hk1977 15 rfl).trans e1953_15
    have e1977_16 : a1977.eval (.tmp 16) = .int .i64 done1352 := (hk1977 16 rfl).trans e1953_16
    have e1977_19 : a1977.eval (.tmp 19) = .pointer (some ⟨g1944, 0, none⟩) := (hk1977 19 rfl).trans e1953_19
    have e1977_20 : a1977.eval (.tmp 20) = .bool r1943.2 := (hk1977 20 rfl).trans e1953_20
    have e1977_21 : a1977.eval (.tmp 21) = .bool x1948 := (hk1977 21 rfl).trans e1953_21
    have e1977_22 : a1977.eval (.tmp 22) = .pointer (some ⟨g1950, 0, none⟩) := (hk1977 22 rfl).trans e1953_22
    obtain ⟨(f_140 : a1977.eval (.tmp 140) = .bool x1948), -⟩ := hf1977 [0] rfl
    have e1977_140 := f_140
    have hX1977 := Evo.step hX1953 (fun _ => Nat.le_refl 0) hE1977 rfl
    have b1977_A1003 := RdO.evo rfl hE1977 b1953_A1003
    have b1977_g997 := BlkO.evo (by decide) hE1977 b1953_g997
    have b1977_g999 := BlkO.evo (by decide) hE1977 b1953_g999
    have b1977_cA1011 := BlkO.evo (by decide) hE1977 b1953_cA1011
    have b1977_A1033 := RwO.evo rfl hE1977 b1953_A1033
    have b1977_cA1013 := MpN.evo rfl hE1977 b1953_cA1013
    have b1977_A1034 := RwO.evo rfl hE1977 b1953_A1034
    have b1977_A1344 := RwO.evo rfl hE1977 b1953_A1344
    have b1977_A1348 := RwO.evo rfl hE1977 b1953_A1348
    have b1977_A1047 := RwO.evo rfl hE1977 b1953_A1047
    have b1977_g1944 := BlkO.evo (by decide) hE1977 b1953_g1944
    have b1977_g1950 := BlkO.evo (by decide) hE1977 b1953_g1950
    refine fl_cond e1977_140 hs (fun c1978 hs => ?_) (fun c1978 hs => ?_)
    · obtain ⟨x1980, hx1980, hs⟩ := obind hs
      refine rg_plain (n := 176) (rs := [Fct.at_ 1952 g1950 26 #[.int .i64 0, .int .i64 0, .int .i64 0, .int .i64 0]]) (own0 := own1977) (K := [1952])
          (bs := [0, 0, 3, 7, 15])
          (ds := [⟨[], [0], [], Fct.val 141 (.slice A1003 x1002.length cA1003)⟩,
          ⟨[], [4], [], Fct.val 142 (.int .i64 n5)⟩,
          ⟨[0, 1], [], [], Fct.val 143 (.pointer (some ((adr A1003).add ((n5 : Int).toNat * R26.s))))⟩,
          ⟨[2], [], [], Fct.val 144 (.agg #[.int .i64 x1980.1.1, .int .i64 x1980.1.2, .int .i64 x1980.2.1, .int .i64 x1980.2.2])⟩,
          ⟨[3, 5], [22], [1952], Fct.at_ 1981 g1950 26 #[.int .i64 x1980.1.1, .int .i64 x1980.1.2, .int .i64 x1980.2.1, .int .i64 x1980.2.2]⟩]) (by kernel_rfl) hz1977 hd1977 (by simp only [List.forall_mem_cons]; exact ⟨b1977_g1950, fun _ h => nomatch h⟩) ?_ ?_
      · refine steps_cons (fun own a wx hf hsl hE => ?_) ?_
        · obtain ⟨s_0, -⟩ := hsl
          exact sg_plain rfl rfl (or_move (s_0.trans e1977_0))
        refine steps_cons (fun own a wx hf hsl hE => ?_) ?_
        · obtain ⟨s_4, -⟩ := hsl
          exact sg_plain rfl rfl (or_move (s_4.trans e1977_4))
        refine steps_cons (fun own a wx hf hsl hE => ?_) ?_
        · obtain ⟨(f_141 : a.eval (.tmp 141) = .slice A1003 x1002.length cA1003), (f_142 : a.eval (.tmp 142) = .int .i64 n5), -⟩ := hf
          exact sg_plain rfl rfl (or_index (R := R26) (l := x1002) tl22 f_141 f_142 (RdO.some_ b1977_A1003 hx1980) hx1980)
        refine steps_cons (fun own a wx hf hsl hE => ?_) ?_
        · obtain ⟨(f_143 : a.eval (.tmp 143) = .pointer (some ((adr A1003).add ((n5 : Int).toNat * R26.s)))), -⟩ := hf
          exact sg_plain rfl rfl (or_load (l := E26.f x1980) ta26 f_143 (RdO.cells (F := E26) (RdO.evo rfl hE b1977_A1003) hx1980) rfl)
        refine steps_cons (fun own a wx hf hsl hE => ?_) ?_
        · obtain ⟨(f_144 : a.eval (.tmp 144) = .agg #[.int .i64 x1980.1.1, .int .i64 x1980.1.2, .int .i64 x1980.2.1, .int .i64 x1980.2.2]), (b_g1950 : BlkO own 1952 wx g1950 26 #[.int .i64 0, .int .i64 0, .int .i64 0, .int .i64 0]), -⟩ := hf
          obtain ⟨s_22, -⟩ := hsl
          exact sg_plain rfl rfl (or_store (l := #[.int .i64 x1980.1.1, .int .i64 x1980.1.2, .int .i64 x1980.2.1, .int .i64 x1980.2.2]) (lab := 1952) (lab2 := 1981) ts26 (s_22.trans e1977_22) f_144 b_g1950 (by simp) (by kernel_rfl) (mem_of rfl) (by decide) (by kernel_rfl) (fun own' a' w' ha hb => hb))
        exact steps_nil
      intro own1982 a1982 w1982 hd1982 hz1982 hk1982 hf1982 hE1982
      have e1982_6 : a1982.eval (.tmp 6) = .pointer (some ⟨g997, 0, none⟩) := (hk1982 6 rfl).trans e1977_6
      have e1982_7 : a1982.eval (.tmp 7) = .pointer (some ⟨g999, 0, none⟩) := (hk1982 7 rfl).trans e1977_7
      have e1982_12 : a1982.eval (.tmp 12) = .pointer (some ⟨cA1011, 0, none⟩) := (hk1982 12 rfl).trans e1977_12
      have e1982_13 : a1982.eval (.tmp 13) = .slice A1344 found1346.length c1345 := (hk1982 13 rfl).trans e1977_13
      have e1982_14 : a1982.eval (.tmp 14) = .slice A1348 x1350.length c1349 := (hk1982 14 rfl).trans e1977_14
      have e1982_15 : a1982.eval (.tmp 15) = .slice A1047 r1046.length cA1047 := (hk1982 15 rfl).trans e1977_15
      have e1982_16 : a1982.eval (.tmp 16) = .int .i64 done1352 := (hk1982 16 rfl).trans e1977_16
      have e1982_19 : a1982.eval (.tmp 19) = .pointer (some ⟨g1944, 0, none⟩) := (hk1982 19 rfl).trans e1977_19
      have e1982_20 : a1982.eval (.tmp 20) = .bool r1943.2 := (hk1982 20 rfl).trans e1977_20
      have e1982_21 : a1982.eval (.tmp 21) = .bool x1948 := (hk1982 21 rfl).trans e1977_21
      have e1982_22 : a1982.eval (.tmp 22) = .pointer (some ⟨g1950, 0, none⟩) := (hk1982 22 rfl).trans e1977_22
      obtain ⟨(b_g1950 : BlkO own1982 1981 w1982 g1950 26 #[.int .i64 x1980.1.1, .int .i64 x1980.1.2, .int .i64 x1980.2.1, .int .i64 x1980.2.2]), -⟩ := hf1982 [4] rfl
      have hX1982 := Evo.step hX1977 (fun _ => Nat.le_refl 0) hE1982 rfl
      have b1982_g997 := BlkO.evo (by decide) hE1982 b1977_g997
      have b1982_g999 := BlkO.evo (by decide) hE1982 b1977_g999
      have b1982_cA1011 := BlkO.evo (by decide) hE1982 b1977_cA1011
      have b1982_A1033 := RwO.evo rfl hE1982 b1977_A1033
      have b1982_cA1013 := MpN.evo rfl hE1982 b1977_cA1013
      have b1982_A1034 := RwO.evo rfl hE1982 b1977_A1034
      have b1982_A1344 := RwO.evo rfl hE1982 b1977_A1344
      have b1982_A1348 := RwO.evo rfl hE1982 b1977_A1348
      have b1982_A1047 := RwO.evo rfl hE1982 b1977_A1047
      have b1982_g1944 := BlkO.evo (by decide) hE1982 b1977_g1944
      have b1982_g1950 := b_g1950
      exact (K1963 _ _ (rl [(1981, 1961)] own1982) x1980 hd1982 hz1982 e1982_6 e1982_7 e1982_12 e1982_13 e1982_14 e1982_15 e1982_16 e1982_19 e1982_20 e1982_21 e1982_22 (Evo.rl_ hX1982 (fun _ => Nat.le_refl 0) rfl) (BlkO.rl_ (mm := [(1981, 1961)]) b1982_g997) (BlkO.rl_ (mm := [(1981, 1961)]) b1982_g999) (BlkO.rl_ (mm := [(1981, 1961)]) b1982_cA1011) (RwO.rl_ (mm := [(1981, 1961)]) b1982_A1033) (MpN.rl_ (mm := [(1981, 1961)]) b1982_cA1013) (RwO.rl_ (mm := [(1981, 1961)]) b1982_A1034) (RwO.rl_ (mm := [(1981, 1961)]) b1982_A1344) (RwO.rl_ (mm := [(1981, 1961)]) b1982_A1348) (RwO.rl_ (mm := [(1981, 1961)]) b1982_A1047) (BlkO.rl_ (mm := [(1981, 1961)]) b1982_g1944) (BlkO.rl_ (mm := [(1981, 1961)]) b1982_g1950) hs)
    refine fl_skip ?_
    exact (K1963 _ _ (rl [(1952, 1961)] own1977) ((0, 0), (0, 0)) hd1977 hz1977 e1977_6 e1977_7 e1977_12 e1977_13 e1977_14 e1977_15 e1977_16 e1977_19 e1977_20 e1977_21 e1977_22 (Evo.rl_ hX1977 (fun _ => Nat.le_refl 0) rfl) (BlkO.rl_ (mm := [(1952, 1961)]) b1977_g997) (BlkO.rl_ (mm := [(1952, 1961)]) b1977_g999) (BlkO.rl_ (mm := [(1952, 1961)]) b1977_cA1011) (RwO.rl_ (mm := [(1952, 1961)]) b1977_A1033) (MpN.rl_ (mm := [(1952, 1961)]) b1977_cA1013) (RwO.rl_ (mm := [(1952, 1961)]) b1977_A1034) (RwO.rl_ (mm := [(1952, 1961)]) b1977_A1344) (RwO.rl_ (mm := [(1952, 1961)]) b1977_A1348) (RwO.rl_ (mm := [(1952, 1961)]) b1977_A1047) (BlkO.rl_ (mm := [(1952, 1961)]) b1977_g1944) (BlkO.rl_ (mm := [(1952, 1961)]) b1977_g1950) hs)

end Go.Proofs.Ytajbjhcnppiloaa
