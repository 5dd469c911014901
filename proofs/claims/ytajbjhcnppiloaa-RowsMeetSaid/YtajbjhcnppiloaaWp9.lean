/-
  Chapter 06. The walks.
-/
import Derived.Test.YtajbjhcnppiloaaWp3
import Derived.Test.YtajbjhcnppiloaaWp5
import Derived.Test.YtajbjhcnppiloaaSp9
namespace Go.Proofs.Ytajbjhcnppiloaa
open Go.RowKit
set_option linter.unusedVariables false
theorem exact_Box_w (w : World) (l1 : List (Int × Int)) (Al1 : Option Addr) (cl1 : Nat) (hl1 : RdO (fun _ => 0) [0] w R24 Al1 cl1 l1) (r : (Int × Int) × (Int × Int) × Bool) (hs : exact_Box l1 = some r) :
    Calls Try.prog 30 #[.slice Al1 l1.length cl1] w fun e w' => ∃ own' : Own, e = .returned (.tuple #[.agg #[.int .i64 r.1.1, .int .i64 r.1.2], .agg #[.int .i64 r.2.1.1, .int .i64 r.2.1.2], .bool r.2.2]) ∧ Evo [] (fun _ => 0) own' w w' := by
  refine fl_enter (n := 58) rfl rfl rfl (Nat.le_of_ble_eq_true rfl) ?_
  intro a0 Q hd0 hz0 harg hret
  have ha0 := harg 0 _ rfl
  clear harg
  have hE0 : Evo [] (fun _ => 0) (fun _ => 0) w w := Evo.refl _ _ _
  refine rg_plain_seq (n := 58) (rs := []) (own0 := (fun _ => 0)) (K := [])
      (bs := [0, 0, 0])
      (ds := [⟨[], [], [], Fct.blk 102 2 (fun g => .pointer (some ⟨g, 0, none⟩)) 24 #[.int .i64 0, .int .i64 0]⟩,
      ⟨[], [], [], Fct.blk 104 3 (fun g => .pointer (some ⟨g, 0, none⟩)) 24 #[.int .i64 0, .int .i64 0]⟩,
      ⟨[], [], [], Fct.val 4 (.bool false)⟩]) (by kernel_rfl) hz0 hd0 (fun _ h => nomatch h) ?_ ?_
  · refine steps_cons (fun own a wx hf hsl hE => ?_) ?_
    · exact sg_plain rfl rfl (or_new [] rfl rfl trivial (by kernel_rfl))
    refine steps_cons (fun own a wx hf hsl hE => ?_) ?_
    · exact sg_plain rfl rfl (or_new [] rfl rfl trivial (by kernel_rfl))
    refine steps_cons (fun own a wx hf hsl hE => ?_) ?_
    · exact sg_plain rfl rfl (or_assign rfl)
    exact steps_nil
  intro own105 a105 w105 hd105 hz105 hk105 hf105 hE105
  have e105_0 : a105.eval (.tmp 0) = .slice Al1 l1.length cl1 := (hk105 0 rfl).trans ha0
  obtain ⟨⟨g101, (f_2 : a105.eval (.tmp 2) = .pointer (some ⟨g101, 0, none⟩)), (b_g101 : BlkO own105 102 w105 g101 24 #[.int .i64 0, .int .i64 0])⟩, ⟨g103, (f_3 : a105.eval (.tmp 3) = .pointer (some ⟨g103, 0, none⟩)), (b_g103 : BlkO own105 104 w105 g103 24 #[.int .i64 0, .int .i64 0])⟩, -⟩ := hf105 [0, 1] rfl
  have e105_2 := f_2
  have e105_3 := f_3
  have hX105 := Evo.step hE0 (fun _ => Nat.le_refl 0) hE105 rfl
  have b105_Al1 := RdO.evo rfl hE105 hl1
  have b105_g101 := b_g101
  have b105_g103 := b_g103
  refine fl_seq (fun Q106 hn106 hp106 => ?_)
  obtain ⟨r107, hr107, hs⟩ := obind hs
  obtain ⟨x108, hx108, hs⟩ := obind hs
  refine rg_plain_seq (n := 58) (rs := []) (own0 := own105) (K := [])
      (bs := [0, 1, 3, 7, 15, 31, 63, 127])
      (ds := [⟨[], [0], [], Fct.val 9 (.slice Al1 l1.length cl1)⟩,
      ⟨[0], [], [], Fct.val 10 (.int .i64 (l1.length : Int))⟩,
      ⟨[1], [], [], Fct.val 11 (.bool (decide ((l1.length : Int) = 0)))⟩,
      ⟨[2], [], [], Fct.val 12 (.bool (decide ((l1.length : Int) = 0)))⟩,
      ⟨[3], [0], [], Fct.cond (!(decide ((l1.length : Int) = 0))) (some 13) (Fct.val 13 (.slice Al1 l1.length cl1))⟩,
      ⟨[3, 4], [], [], Fct.cond (!(decide ((l1.length : Int) = 0))) (some 14) (Fct.val 14 (.bool r107))⟩,
      ⟨[3, 5], [], [], Fct.cond (!(decide ((l1.length : Int) = 0))) (some 15) (Fct.val 15 (.bool (!r107)))⟩,
      ⟨[3, 6], [], [], Fct.val 16 (.bool x108)⟩]) (by kernel_rfl) hz105 hd105 (fun _ h => nomatch h) ?_ ?_
  · refine steps_cons (fun own a wx hf hsl hE => ?_) ?_
    · obtain ⟨s_0, -⟩ := hsl
      exact sg_plain rfl rfl (or_move (s_0.trans e105_0))
    refine steps_cons (fun own a wx hf hsl hE => ?_) ?_
    · obtain ⟨(f_9 : a.eval (.tmp 9) = .slice Al1 l1.length cl1), -⟩ := hf
      exact sg_plain rfl rfl (or_len tu53 f_9 rfl)
    refine steps_cons (fun own a wx hf hsl hE => ?_) ?_
    · obtain ⟨(f_10 : a.eval (.tmp 10) = .int .i64 (l1.length : Int)), -⟩ := hf
      exact sg_plain rfl rfl (or_eql f_10 rfl rfl)
    refine steps_cons (fun own a wx hf hsl hE => ?_) ?_
    · obtain ⟨(f_11 : a.eval (.tmp 11) = .bool (decide ((l1.length : Int) = 0))), -⟩ := hf
      exact sg_plain rfl rfl (or_move f_11)
    refine steps_cons (fun own a wx hf hsl hE => ?_) ?_
    · obtain ⟨(f_12 : a.eval (.tmp 12) = .bool (decide ((l1.length : Int) = 0))), -⟩ := hf
      obtain ⟨s_0, -⟩ := hsl
      refine sg_f rfl rfl rfl f_12 (fun hg => ?_)
      exact or_move (s_0.trans e105_0)
    refine steps_cons (fun own a wx hf hsl hE => ?_) ?_
    · obtain ⟨(f_12 : a.eval (.tmp 12) = .bool (decide ((l1.length : Int) = 0))), c_13, -⟩ := hf
      refine sg_f rfl rfl rfl f_12 (fun hg => ?_)
      have f_13 : a.eval (.tmp 13) = .slice Al1 l1.length cl1 := c_13.1 hg
      exact or_call cf29 (args1 f_13) (exact_Right_w _ l1 Al1 cl1 (RdO.zero (RdO.evo rfl hE b105_Al1)) r107 (gd_t hr107 hg)) post_val
    refine steps_cons (fun own a wx hf hsl hE => ?_) ?_
    · obtain ⟨(f_12 : a.eval (.tmp 12) = .bool (decide ((l1.length : Int) = 0))), c_14, -⟩ := hf
      refine sg_f rfl rfl rfl f_12 (fun hg => ?_)
      have f_14 : a.eval (.tmp 14) = .bool r107 := c_14.1 hg
      exact or_not f_14 rfl
    refine steps_cons (fun own a wx hf hsl hE => ?_) ?_
    · obtain ⟨(f_12 : a.eval (.tmp 12) = .bool (decide ((l1.length : Int) = 0))), c_15, -⟩ := hf
      exact sg_plain rfl rfl (or_or f_12 rfl (fun hx => c_15.1 hx) (osome hx108).symm)
    exact steps_nil
  intro own109 a109 w109 hd109 hz109 hk109 hf109 hE109
  have e109_0 : a109.eval (.tmp 0) = .slice Al1 l1.length cl1 := (hk109 0 rfl).trans e105_0
  have e109_2 : a109.eval (.tmp 2) = .pointer (some ⟨g101, 0, none⟩) := (hk109 2 rfl).trans e105_2
  have e109_3 : a109.eval (.tmp 3) = .pointer (some ⟨g103, 0, none⟩) := (hk109 3 rfl).trans e105_3
  obtain ⟨(f_16 : a109.eval (.tmp 16) = .bool x108), -⟩ := hf109 [7] rfl
  have e109_16 := f_16
  have hX109 := Evo.step hX105 (fun _ => Nat.le_refl 0) hE109 rfl
  have b109_Al1 := RdO.evo rfl hE109 b105_Al1
  have b109_g101 := BlkO.evo (by decide) hE109 b105_g101
  have b109_g103 := BlkO.evo (by decide) hE109 b105_g103
  refine fl_cond e109_16 hs (fun c110 hs => ?_) (fun c110 hs => ?_)
  · refine rg_plain_seq (n := 58) (rs := [Fct.at_ 102 g101 24 #[.int .i64 0, .int .i64 0], Fct.at_ 104 g103 24 #[.int .i64 0, .int .i64 0]]) (own0 := own109) (K := [102, 104])
        (bs := [0, 0, 1, 7, 15])
        (ds := [⟨[], [], [], Fct.val 17 (.agg #[.int .i64 0, .int .i64 0])⟩,
        ⟨[], [], [], Fct.val 18 (.agg #[.int .i64 0, .int .i64 0])⟩,
        ⟨[0, 5], [2], [102], Fct.at_ 112 g101 24 #[.int .i64 0, .int .i64 0]⟩,
        ⟨[1, 6], [3], [104], Fct.at_ 113 g103 24 #[.int .i64 0, .int .i64 0]⟩,
        ⟨[], [], [], Fct.val 4 (.bool false)⟩]) (by kernel_rfl) hz109 hd109 (by simp only [List.forall_mem_cons]; exact ⟨b109_g101, b109_g103, fun _ h => nomatch h⟩) ?_ ?_
    · refine steps_cons (fun own a wx hf hsl hE => ?_) ?_
      · exact sg_plain rfl rfl (or_k [] rfl rfl trivial (by kernel_rfl))
      refine steps_cons (fun own a wx hf hsl hE => ?_) ?_
      · exact sg_plain rfl rfl (or_k [] rfl rfl trivial (by kernel_rfl))
      refine steps_cons (fun own a wx hf hsl hE => ?_) ?_
      · obtain ⟨(f_17 : a.eval (.tmp 17) = .agg #[.int .i64 0, .int .i64 0]), (b_g101 : BlkO own 102 wx g101 24 #[.int .i64 0, .int .i64 0]), -⟩ := hf
        obtain ⟨s_2, -⟩ := hsl
        exact sg_plain rfl rfl (or_store (l := #[.int .i64 0, .int .i64 0]) (lab := 102) (lab2 := 112) ts24 (s_2.trans e109_2) f_17 b_g101 (by simp) (by kernel_rfl) (mem_of rfl) (by decide) (by kernel_rfl) (fun own' a' w' ha hb => hb))
      refine steps_cons (fun own a wx hf hsl hE => ?_) ?_
      · obtain ⟨(f_18 : a.eval (.tmp 18) = .agg #[.int .i64 0, .int .i64 0]), (b_g103 : BlkO own 104 wx g103 24 #[.int .i64 0, .int .i64 0]), -⟩ := hf
        obtain ⟨s_3, -⟩ := hsl
        exact sg_plain rfl rfl (or_store (l := #[.int .i64 0, .int .i64 0]) (lab := 104) (lab2 := 113) ts24 (s_3.trans e109_3) f_18 b_g103 (by simp) (by kernel_rfl) (mem_of rfl) (by decide) (by kernel_rfl) (fun own' a' w' ha hb => hb))
      refine steps_cons (fun own a wx hf hsl hE => ?_) ?_
      · exact sg_plain rfl rfl (or_assign rfl)
      exact steps_nil
    intro own114 a114 w114 hd114 hz114 hk114 hf114 hE114
    have e114_2 : a114.eval (.tmp 2) = .pointer (some ⟨g101, 0, none⟩) := (hk114 2 rfl).trans e109_2
    have e114_3 : a114.eval (.tmp 3) = .pointer (some ⟨g103, 0, none⟩) := (hk114 3 rfl).trans e109_3
    obtain ⟨(f_4 : a114.eval (.tmp 4) = .bool false), (b_g101 : BlkO own114 112 w114 g101 24 #[.int .i64 0, .int .i64 0]), (b_g103 : BlkO own114 113 w114 g103 24 #[.int .i64 0, .int .i64 0]), -⟩ := hf114 [4, 2, 3] rfl
    have e114_4 := f_4
    have hX114 := Evo.step hX109 (fun _ => Nat.le_refl 0) hE114 rfl
    have b114_g101 := b_g101
    have b114_g103 := b_g103
    refine fl_ret ?_
    refine hp106 _ _ _ rfl ?_
    obtain rfl := osome hs
    exact hret _ _ _ _ (.inl rfl) hd114 (results3_ rfl (RVal.cell_ e114_2 (run_loadVarAgg (l := [.int .i64 0, .int .i64 0]) ta24 (Blk.cellsFrom b114_g101.2 0 rfl) rfl)) (RVal.cell_ e114_3 (run_loadVarAgg (l := [.int .i64 0, .int .i64 0]) ta24 (Blk.cellsFrom b114_g103.2 0 rfl) rfl)) (RVal.tmp_ e114_4)) ⟨own114, rfl, hX114⟩
  refine fl_skip ?_
  refine hn106 _ _ ?_
  obtain ⟨x115, hx115, hs⟩ := obind hs
  obtain ⟨x116, hx116, hs⟩ := obind hs
  refine rg_draw_seq g_mixed (n := 58) (rs := []) (own0 := own109) (K := [118, 120])
      (bs := [0, 1, 3, 0, 8, 24, 0, 0, 199, 511])
      (ds := [⟨[], [0], [], Fct.val 19 (.slice Al1 l1.length cl1)⟩,
      ⟨[0], [], [], Fct.val 20 (.pointer (some ((adr Al1).add ((0 : Int).toNat * R24.s))))⟩,
      ⟨[1], [], [], Fct.val 21 (.agg #[.int .i64 x115.1, .int .i64 x115.2])⟩,
      ⟨[], [0], [], Fct.val 22 (.slice Al1 l1.length cl1)⟩,
      ⟨[3], [], [], Fct.val 23 (.pointer (some ((adr Al1).add ((0 : Int).toNat * R24.s))))⟩,
      ⟨[4], [], [], Fct.val 24 (.agg #[.int .i64 x116.1, .int .i64 x116.2])⟩,
      ⟨[], [], [], Fct.blk 118 5 (fun g => .pointer (some ⟨g, 0, none⟩)) 24 #[.int .i64 0, .int .i64 0]⟩,
      ⟨[], [], [], Fct.blk 120 6 (fun g => .pointer (some ⟨g, 0, none⟩)) 24 #[.int .i64 0, .int .i64 0]⟩,
      ⟨[6, 2], [], [118], Fct.blk 121 5 (fun g => .pointer (some ⟨g, 0, none⟩)) 24 #[.int .i64 x115.1, .int .i64 x115.2]⟩,
      ⟨[7, 5], [], [120], Fct.blk 122 6 (fun g => .pointer (some ⟨g, 0, none⟩)) 24 #[.int .i64 x116.1, .int .i64 x116.2]⟩]) (by kernel_rfl) hz109 hd109 (fun _ h => nomatch h) ?_ ?_
  · refine steps_cons (fun own a wx hf hsl hE => ?_) ?_
    · obtain ⟨s_0, -⟩ := hsl
      exact sg_plain rfl rfl (or_move (s_0.trans e109_0))
    refine steps_cons (fun own a wx hf hsl hE => ?_) ?_
    · obtain ⟨(f_19 : a.eval (.tmp 19) = .slice Al1 l1.length cl1), -⟩ := hf
      exact sg_plain rfl rfl (or_index (R := R24) (l := l1) tl53 f_19 rfl (RdO.some_ b109_Al1 hx115) hx115)
    refine steps_cons (fun own a wx hf hsl hE => ?_) ?_
    · obtain ⟨(f_20 : a.eval (.tmp 20) = .pointer (some ((adr Al1).add ((0 : Int).toNat * R24.s)))), -⟩ := hf
      exact sg_plain rfl rfl (or_load (l := E24.f x115) ta24 f_20 (RdO.cells (F := E24) (RdO.evo rfl hE b109_Al1) hx115) rfl)
    refine steps_cons (fun own a wx hf hsl hE => ?_) ?_
    · obtain ⟨s_0, -⟩ := hsl
      exact sg_plain rfl rfl (or_move (s_0.trans e109_0))
    refine steps_cons (fun own a wx hf hsl hE => ?_) ?_
    · obtain ⟨(f_22 : a.eval (.tmp 22) = .slice Al1 l1.length cl1), -⟩ := hf
      exact sg_plain rfl rfl (or_index (R := R24) (l := l1) tl53 f_22 rfl (RdO.some_ b109_Al1 hx116) hx116)
    refine steps_cons (fun own a wx hf hsl hE => ?_) ?_
    · obtain ⟨(f_23 : a.eval (.tmp 23) = .pointer (some ((adr Al1).add ((0 : Int).toNat * R24.s)))), -⟩ := hf
      exact sg_plain rfl rfl (or_load (l := E24.f x116) ta24 f_23 (RdO.cells (F := E24) (RdO.evo rfl hE b109_Al1) hx116) rfl)
    refine steps_cons (fun own a wx hf hsl hE => ?_) ?_
    · exact sg_plain rfl rfl (or_new [] rfl rfl trivial (by kernel_rfl))
    refine steps_cons (fun own a wx hf hsl hE => ?_) ?_
    · exact sg_plain rfl rfl (or_new [] rfl rfl trivial (by kernel_rfl))
    refine steps_cons (fun own a wx hf hsl hE => ?_) ?_
    · obtain ⟨⟨g117, (f_5 : a.eval (.tmp 5) = .pointer (some ⟨g117, 0, none⟩)), (b_g117 : BlkO own 118 wx g117 24 #[.int .i64 0, .int .i64 0])⟩, (f_21 : a.eval (.tmp 21) = .agg #[.int .i64 x115.1, .int .i64 x115.2]), -⟩ := hf
      exact sg_plain rfl rfl (or_store (l := #[.int .i64 x115.1, .int .i64 x115.2]) (lab := 118) (lab2 := 121) ts24 f_5 f_21 b_g117 (by simp) (by kernel_rfl) (mem_of rfl) (by decide) (by kernel_rfl) (fun own' a' w' ha hb => ⟨_, (ha 5).trans f_5, hb⟩))
    refine steps_cons (fun own a wx hf hsl hE => ?_) ?_
    · obtain ⟨⟨g119, (f_6 : a.eval (.tmp 6) = .pointer (some ⟨g119, 0, none⟩)), (b_g119 : BlkO own 120 wx g119 24 #[.int .i64 0, .int .i64 0])⟩, (f_24 : a.eval (.tmp 24) = .agg #[.int .i64 x116.1, .int .i64 x116.2]), -⟩ := hf
      exact sg_plain rfl rfl (or_store (l := #[.int .i64 x116.1, .int .i64 x116.2]) (lab := 120) (lab2 := 122) ts24 f_6 f_24 b_g119 (by simp) (by kernel_rfl) (mem_of rfl) (by decide) (by kernel_rfl) (fun own' a' w' ha hb => ⟨_, (ha 6).trans f_6, hb⟩))
    exact steps_nil
  intro own123 a123 w123 hd123 hz123 hk123 hf123 hE123
  have e123_0 : a123.eval (.tmp 0) = .slice Al1 l1.length cl1 := (hk123 0 rfl).trans e109_0
  have e123_2 : a123.eval (.tmp 2) = .pointer (some ⟨g101, 0, none⟩) := (hk123 2 rfl).trans e109_2
  have e123_3 : a123.eval (.tmp 3) = .pointer (some ⟨g103, 0, none⟩) := (hk123 3 rfl).trans e109_3
  obtain ⟨⟨g117, (f_5 : a123.eval (.tmp 5) = .pointer (some ⟨g117, 0, none⟩)), (b_g117 : BlkO own123 121 w123 g117 24 #[.int .i64 x115.1, .int .i64 x115.2])⟩, ⟨g119, (f_6 : a123.eval (.tmp 6) = .pointer (some ⟨g119, 0, none⟩)), (b_g119 : BlkO own123 122 w123 g119 24 #[.int .i64 x116.1, .int .i64 x116.2])⟩, -⟩ := hf123 [8, 9] rfl
  have e123_5 := f_5
  have e123_6 := f_6
  have hX123 := Evo.step hX109 (fun _ => Nat.le_refl 0) hE123 rfl
  have b123_Al1 := RdO.evo rfl hE123 b109_Al1
  have b123_g101 := BlkO.evo (by decide) hE123 b109_g101
  have b123_g103 := BlkO.evo (by decide) hE123 b109_g103
  have b123_g117 := b_g117
  have b123_g119 := b_g119
  refine fl_seq (fun Q124 hn124 hp124 => ?_)
  refine rg_plain_seq (n := 58) (rs := []) (own0 := own123) (K := [])
      (bs := [0, 1, 0])
      (ds := [⟨[], [0], [], Fct.val 25 (.slice Al1 l1.length cl1)⟩,
      ⟨[0], [], [], Fct.val 26 (.int .i64 (l1.length : Int))⟩,
      ⟨[], [], [], Fct.val 27 (.int .i64 0)⟩]) (by kernel_rfl) hz123 hd123 (fun _ h => nomatch h) ?_ ?_
  · refine steps_cons (fun own a wx hf hsl hE => ?_) ?_
    · obtain ⟨s_0, -⟩ := hsl
      exact sg_plain rfl rfl (or_move (s_0.trans e123_0))
    refine steps_cons (fun own a wx hf hsl hE => ?_) ?_
    · obtain ⟨(f_25 : a.eval (.tmp 25) = .slice Al1 l1.length cl1), -⟩ := hf
      exact sg_plain rfl rfl (or_len tu53 f_25 rfl)
    refine steps_cons (fun own a wx hf hsl hE => ?_) ?_
    · exact sg_plain rfl rfl (or_move rfl)
    exact steps_nil
  intro own125 a125 w125 hd125 hz125 hk125 hf125 hE125
  have e125_2 : a125.eval (.tmp 2) = .pointer (some ⟨g101, 0, none⟩) := (hk125 2 rfl).trans e123_2
  have e125_3 : a125.eval (.tmp 3) = .pointer (some ⟨g103, 0, none⟩) := (hk125 3 rfl).trans e123_3
  have e125_5 : a125.eval (.tmp 5) = .pointer (some ⟨g117, 0, none⟩) := (hk125 5 rfl).trans e123_5
  have e125_6 : a125.eval (.tmp 6) = .pointer (some ⟨g119, 0, none⟩) := (hk125 6 rfl).trans e123_6
  obtain ⟨(f_25 : a125.eval (.tmp 25) = .slice Al1 l1.length cl1), (f_26 : a125.eval (.tmp 26) = .int .i64 (l1.length : Int)), (f_27 : a125.eval (.tmp 27) = .int .i64 0), -⟩ := hf125 [0, 1, 2] rfl
  have e125_25 := f_25
  have e125_26 := f_26
  have e125_27 := f_27
  have hX125 := Evo.step hX123 (fun _ => Nat.le_refl 0) hE125 rfl
  have b125_Al1 := RdO.evo rfl hE125 b123_Al1
  have b125_g101 := BlkO.evo (by decide) hE125 b123_g101
  have b125_g103 := BlkO.evo (by decide) hE125 b123_g103
  have b125_g117 := BlkO.evo (by decide) hE125 b123_g117
  have b125_g119 := BlkO.evo (by decide) hE125 b123_g119
  refine fl_block (fun Q126 hn126 hx126 hp126 => ?_)
  refine fl_loop (body := (fun s => exact_Box_b1 l1 s.1 s.2.1 s.2.2)) (z := r) (show loopO _ _ = _ from hs) (fun (s : (Int × Int) × (Int × Int) × Int) a wx => match s with | (low146, high148, x149) => ∃ (ox : Own), a.defers = [] ∧ a.tmps.size = 58 ∧ a.eval (.tmp 2) = .pointer (some ⟨g101, 0, none⟩) ∧ a.eval (.tmp 3) = .pointer (some ⟨g103, 0, none⟩) ∧ a.eval (.tmp 5) = .pointer (some ⟨g117, 0, none⟩) ∧ a.eval (.tmp 6) = .pointer (some ⟨g119, 0, none⟩) ∧ a.eval (.tmp 25) = .slice Al1 l1.length cl1 ∧ a.eval (.tmp 26) = .int .i64 (l1.length : Int) ∧ a.eval (.tmp 27) = .int .i64 x149 ∧ Evo [] (fun _ => 0) ox w wx ∧ BlkO ox 102 wx g101 24 #[.int .i64 0, .int .i64 0] ∧ BlkO ox 104 wx g103 24 #[.int .i64 0, .int .i64 0] ∧ BlkO ox 145 wx g117 24 #[.int .i64 low146.1, .int .i64 low146.2] ∧ BlkO ox 147 wx g119 24 #[.int .i64 high148.1, .int .i64 high148.2] ∧ RdO ox [0] wx R24 Al1 cl1 l1) ?_ ?_
  · exact ⟨(rl [(121, 145), (122, 147)] own125), hd125, hz125, e125_2, e125_3, e125_5, e125_6, e125_25, e125_26, e125_27, (Evo.rl_ hX125 (fun _ => Nat.le_refl 0) rfl), (BlkO.rl_ (mm := [(121, 145), (122, 147)]) b125_g101), (BlkO.rl_ (mm := [(121, 145), (122, 147)]) b125_g103), (BlkO.rl_ (mm := [(121, 145), (122, 147)]) b125_g117), (BlkO.rl_ (mm := [(121, 145), (122, 147)]) b125_g119), (RdO.rl_ (mm := [(121, 145), (122, 147)]) b125_Al1)⟩
  · rintro ⟨low146, high148, x149⟩ zz168 a168 w168 ⟨own168, hd169, hz169, e169_2, e169_3, e169_5, e169_6, e169_25, e169_26, e169_27, hE169, b169_g101, b169_g103, b169_g117, b169_g119, b169_Al1⟩ hs Q168 hn168 hp168 hz168
    have hs : exact_Box_b1 l1 low146 high148 x149 = some zz168 := hs
    refine rg_plain_seq (n := 58) (rs := []) (own0 := own168) (K := [])
        (bs := [0])
        (ds := [⟨[], [27, 26], [], Fct.val 28 (.bool (decide (x149 < (l1.length : Int))))⟩]) (by kernel_rfl) hz169 hd169 (fun _ h => nomatch h) ?_ ?_
    · refine steps_cons (fun own a wx hf hsl hE => ?_) ?_
      · obtain ⟨s_27, s_26, -⟩ := hsl
        exact sg_plain rfl rfl (or_lss (s_27.trans e169_27) (s_26.trans e169_26) rfl)
      exact steps_nil
    intro own170 a170 w170 hd170 hz170 hk170 hf170 hE170
    have e170_2 : a170.eval (.tmp 2) = .pointer (some ⟨g101, 0, none⟩) := (hk170 2 rfl).trans e169_2
    have e170_3 : a170.eval (.tmp 3) = .pointer (some ⟨g103, 0, none⟩) := (hk170 3 rfl).trans e169_3
    have e170_5 : a170.eval (.tmp 5) = .pointer (some ⟨g117, 0, none⟩) := (hk170 5 rfl).trans e169_5
    have e170_6 : a170.eval (.tmp 6) = .pointer (some ⟨g119, 0, none⟩) := (hk170 6 rfl).trans e169_6
    have e170_25 : a170.eval (.tmp 25) = .slice Al1 l1.length cl1 := (hk170 25 rfl).trans e169_25
    have e170_26 : a170.eval (.tmp 26) = .int .i64 (l1.length : Int) := (hk170 26 rfl).trans e169_26
    have e170_27 : a170.eval (.tmp 27) = .int .i64 x149 := (hk170 27 rfl).trans e169_27
    obtain ⟨(f_28 : a170.eval (.tmp 28) = .bool (decide (x149 < (l1.length : Int)))), -⟩ := hf170 [0] rfl
    have e170_28 := f_28
    have hX170 := Evo.step hE169 (fun _ => Nat.le_refl 0) hE170 rfl
    have b170_g101 := BlkO.evo (by decide) hE170 b169_g101
    have b170_g103 := BlkO.evo (by decide) hE170 b169_g103
    have b170_g117 := BlkO.evo (by decide) hE170 b169_g117
    have b170_g119 := BlkO.evo (by decide) hE170 b169_g119
    have b170_Al1 := RdO.evo rfl hE170 b169_Al1
    refine fl_seq (fun Q171 hn171 hp171 => ?_)
    refine fl_cond e170_28 hs (fun c172 hs => ?_) (fun c172 hs => ?_)
    · refine fl_skip ?_
      refine hn171 _ _ ?_
      refine fl_seq (fun Q173 hn173 hp173 => ?_)
      refine fl_block (fun Q174 hn174 hx174 hp174 => ?_)
      obtain ⟨x175, hx175, hs⟩ := obind hs
      refine rg_plain_seq (n := 58) (rs := []) (own0 := own170) (K := [177])
          (bs := [0, 1, 0, 7])
          (ds := [⟨[], [25, 27], [], Fct.val 29 (.pointer (some ((adr Al1).add ((x149 : Int).toNat * R24.s))))⟩,
          ⟨[0], [], [], Fct.val 30 (.agg #[.int .i64 x175.1, .int .i64 x175.2])⟩,
          ⟨[], [], [], Fct.blk 177 8 (fun g => .pointer (some ⟨g, 0, none⟩)) 24 #[.int .i64 0, .int .i64 0]⟩,
          ⟨[2, 1], [], [177], Fct.blk 178 8 (fun g => .pointer (some ⟨g, 0, none⟩)) 24 #[.int .i64 x175.1, .int .i64 x175.2]⟩]) (by kernel_rfl) hz170 hd170 (fun _ h => nomatch h) ?_ ?_
      · refine steps_cons (fun own a wx hf hsl hE => ?_) ?_
        · obtain ⟨s_25, s_27, -⟩ := hsl
          exact sg_plain rfl rfl (or_index (R := R24) (l := l1) tl53 (s_25.trans e170_25) (s_27.trans e170_27) (RdO.some_ b170_Al1 hx175) hx175)
        refine steps_cons (fun own a wx hf hsl hE => ?_) ?_
        · obtain ⟨(f_29 : a.eval (.tmp 29) = .pointer (some ((adr Al1).add ((x149 : Int).toNat * R24.s)))), -⟩ := hf
          exact sg_plain rfl rfl (or_load (l := E24.f x175) ta24 f_29 (RdO.cells (F := E24) (RdO.evo rfl hE b170_Al1) hx175) rfl)
        refine steps_cons (fun own a wx hf hsl hE => ?_) ?_
        · exact sg_plain rfl rfl (or_new [] rfl rfl trivial (by kernel_rfl))
        refine steps_cons (fun own a wx hf hsl hE => ?_) ?_
        · obtain ⟨⟨g176, (f_8 : a.eval (.tmp 8) = .pointer (some ⟨g176, 0, none⟩)), (b_g176 : BlkO own 177 wx g176 24 #[.int .i64 0, .int .i64 0])⟩, (f_30 : a.eval (.tmp 30) = .agg #[.int .i64 x175.1, .int .i64 x175.2]), -⟩ := hf
          exact sg_plain rfl rfl (or_store (l := #[.int .i64 x175.1, .int .i64 x175.2]) (lab := 177) (lab2 := 178) ts24 f_8 f_30 b_g176 (by simp) (by kernel_rfl) (mem_of rfl) (by decide) (by kernel_rfl) (fun own' a' w' ha hb => ⟨_, (ha 8).trans f_8, hb⟩))
        exact steps_nil
      intro own179 a179 w179 hd179 hz179 hk179 hf179 hE179
      have e179_2 : a179.eval (.tmp 2) = .pointer (some ⟨g101, 0, none⟩) := (hk179 2 rfl).trans e170_2
      have e179_3 : a179.eval (.tmp 3) = .pointer (some ⟨g103, 0, none⟩) := (hk179 3 rfl).trans e170_3
      have e179_5 : a179.eval (.tmp 5) = .pointer (some ⟨g117, 0, none⟩) := (hk179 5 rfl).trans e170_5
      have e179_6 : a179.eval (.tmp 6) = .pointer (some ⟨g119, 0, none⟩) := (hk179 6 rfl).trans e170_6
      have e179_25 : a179.eval (.tmp 25) = .slice Al1 l1.length cl1 := (hk179 25 rfl).trans e170_25
      have e179_26 : a179.eval (.tmp 26) = .int .i64 (l1.length : Int) := (hk179 26 rfl).trans e170_26
      have e179_27 : a179.eval (.tmp 27) = .int .i64 x149 := (hk179 27 rfl).trans e170_27
      obtain ⟨⟨g176, (f_8 : a179.eval (.tmp 8) = .pointer (some ⟨g176, 0, none⟩)), (b_g176 : BlkO own179 178 w179 g176 24 #[.int .i64 x175.1, .int .i64 x175.2])⟩, -⟩ := hf179 [3] rfl
      have e179_8 := f_8
      have hX179 := Evo.step hX170 (fun _ => Nat.le_refl 0) hE179 rfl
      have b179_g101 := BlkO.evo (by decide) hE179 b170_g101
      have b179_g103 := BlkO.evo (by decide) hE179 b170_g103
      have b179_g117 := BlkO.evo (by decide) hE179 b170_g117
      have b179_g119 := BlkO.evo (by decide) hE179 b170_g119
      have b179_Al1 := RdO.evo rfl hE179 b170_Al1
      have b179_g176 := b_g176
      refine rg_draw_seq g_mixed (n := 58) (rs := [Fct.at_ 145 g117 24 #[.int .i64 low146.1, .int .i64 low146.2]]) (own0 := own179) (K := [145, 180])
          (bs := [0, 1, 0, 4, 15, 0, 32, 0, 128, 480, 127, 1151, 4095, 8191])
          (ds := [⟨[], [5], [], Fct.val 31 (.pointer (some ⟨g117, 0, none⟩))⟩,
          ⟨[0, 14], [], [], Fct.val 32 (.int .i64 low146.1)⟩,
          ⟨[], [8], [], Fct.val 33 (.pointer (some ⟨g176, 0, none⟩))⟩,
          ⟨[2], [], [], Fct.val 34 (.int .i64 x175.1)⟩,
          ⟨[1, 3], [], [], Fct.val 35 (.int .i64 (mn low146.1 x175.1))⟩,
          ⟨[], [5], [], Fct.val 36 (.pointer (some ⟨g117, 1, none⟩))⟩,
          ⟨[5, 14], [], [], Fct.val 37 (.int .i64 low146.2)⟩,
          ⟨[], [8], [], Fct.val 38 (.pointer (some ⟨g176, 1, none⟩))⟩,
          ⟨[7], [], [], Fct.val 39 (.int .i64 x175.2)⟩,
          ⟨[6, 8], [], [], Fct.val 40 (.int .i64 (mn low146.2 x175.2))⟩,
          ⟨[], [5], [], Fct.val 41 (.pointer (some ⟨g117, 0, none⟩))⟩,
          ⟨[10, 4, 14], [], [145], Fct.at_ 180 g117 24 #[.int .i64 (mn low146.1 x175.1), .int .i64 low146.2]⟩,
          ⟨[], [5], [], Fct.val 42 (.pointer (some ⟨g117, 1, none⟩))⟩,
          ⟨[12, 9, 11], [], [180], Fct.at_ 181 g117 24 #[.int .i64 (mn low146.1 x175.1), .int .i64 (mn low146.2 x175.2)]⟩]) (by kernel_rfl) hz179 hd179 (by simp only [List.forall_mem_cons]; exact ⟨b179_g117, fun _ h => nomatch h⟩) ?_ ?_
      · refine steps_cons (fun own a wx hf hsl hE => ?_) ?_
        · obtain ⟨s_5, -⟩ := hsl
          exact sg_plain rfl rfl (or_field fo24_0 (s_5.trans e179_5) (by rfl))
        refine steps_cons (fun own a wx hf hsl hE => ?_) ?_
        · obtain ⟨(f_31 : a.eval (.tmp 31) = .pointer (some ⟨g117, 0, none⟩)), (b_g117 : BlkO own 145 wx g117 24 #[.int .i64 low146.1, .int .i64 low146.2]), -⟩ := hf
          exact sg_plain rfl rfl (or_load1 to3 f_31 (Blk.at_ b_g117.2 0 rfl))
        refine steps_cons (fun own a wx hf hsl hE => ?_) ?_
        · obtain ⟨s_8, -⟩ := hsl
          exact sg_plain rfl rfl (or_field fo24_0 (s_8.trans e179_8) (by rfl))
        refine steps_cons (fun own a wx hf hsl hE => ?_) ?_
        · obtain ⟨(f_33 : a.eval (.tmp 33) = .pointer (some ⟨g176, 0, none⟩)), -⟩ := hf
          exact sg_plain rfl rfl (or_load1 to3 f_33 (Blk.at_ (BlkO.evo (by decide) hE b179_g176).2 0 rfl))
        refine steps_cons (fun own a wx hf hsl hE => ?_) ?_
        · obtain ⟨(f_32 : a.eval (.tmp 32) = .int .i64 low146.1), (f_34 : a.eval (.tmp 34) = .int .i64 x175.1), -⟩ := hf
          exact sg_plain rfl rfl (or_min f_32 f_34)
        refine steps_cons (fun own a wx hf hsl hE => ?_) ?_
        · obtain ⟨s_5, -⟩ := hsl
          exact sg_plain rfl rfl (or_field fo24_1 (s_5.trans e179_5) (by rfl))
        refine steps_cons (fun own a wx hf hsl hE => ?_) ?_
        · obtain ⟨(f_36 : a.eval (.tmp 36) = .pointer (some ⟨g117, 1, none⟩)), (b_g117 : BlkO own 145 wx g117 24 #[.int .i64 low146.1, .int .i64 low146.2]), -⟩ := hf
          exact sg_plain rfl rfl (or_load1 to3 f_36 (Blk.at_ b_g117.2 1 rfl))
        refine steps_cons (fun own a wx hf hsl hE => ?_) ?_
        · obtain ⟨s_8, -⟩ := hsl
          exact sg_plain rfl rfl (or_field fo24_1 (s_8.trans e179_8) (by rfl))
        refine steps_cons (fun own a wx hf hsl hE => ?_) ?_
        · obtain ⟨(f_38 : a.eval (.tmp 38) = .pointer (some ⟨g176, 1, none⟩)), -⟩ := hf
          exact sg_plain rfl rfl (or_load1 to3 f_38 (Blk.at_ (BlkO.evo (by decide) hE b179_g176).2 1 rfl))
        refine steps_cons (fun own a wx hf hsl hE => ?_) ?_
        · obtain ⟨(f_37 : a.eval (.tmp 37) = .int .i64 low146.2), (f_39 : a.eval (.tmp 39) = .int .i64 x175.2), -⟩ := hf
          exact sg_plain rfl rfl (or_min f_37 f_39)
        refine steps_cons (fun own a wx hf hsl hE => ?_) ?_
        · obtain ⟨s_5, -⟩ := hsl
          exact sg_plain rfl rfl (or_field fo24_0 (s_5.trans e179_5) (by rfl))
        refine steps_cons (fun own a wx hf hsl hE => ?_) ?_
        · obtain ⟨(f_41 : a.eval (.tmp 41) = .pointer (some ⟨g117, 0, none⟩)), (f_35 : a.eval (.tmp 35) = .int .i64 (mn low146.1 x175.1)), (b_g117 : BlkO own 145 wx g117 24 #[.int .i64 low146.1, .int .i64 low146.2]), -⟩ := hf
          exact sg_plain rfl rfl (or_store1 (lab := 145) (lab2 := 180) ts3 f_41 f_35 b_g117 (by simp) rfl (mem_of rfl) (by decide) rfl (fun own' a' w' ha hb => hb))
        refine steps_cons (fun own a wx hf hsl hE => ?_) ?_
        · obtain ⟨s_5, -⟩ := hsl
          exact sg_plain rfl rfl (or_field fo24_1 (s_5.trans e179_5) (by rfl))
        refine steps_cons (fun own a wx hf hsl hE => ?_) ?_
        · obtain ⟨(f_42 : a.eval (.tmp 42) = .pointer (some ⟨g117, 1, none⟩)), (f_40 : a.eval (.tmp 40) = .int .i64 (mn low146.2 x175.2)), (b_g117 : BlkO own 180 wx g117 24 #[.int .i64 (mn low146.1 x175.1), .int .i64 low146.2]), -⟩ := hf
          exact sg_plain rfl rfl (or_store1 (lab := 180) (lab2 := 181) ts3 f_42 f_40 b_g117 (by simp) rfl (mem_of rfl) (by decide) rfl (fun own' a' w' ha hb => hb))
        exact steps_nil
      intro own182 a182 w182 hd182 hz182 hk182 hf182 hE182
      have e182_2 : a182.eval (.tmp 2) = .pointer (some ⟨g101, 0, none⟩) := (hk182 2 rfl).trans e179_2
      have e182_3 : a182.eval (.tmp 3) = .pointer (some ⟨g103, 0, none⟩) := (hk182 3 rfl).trans e179_3
      have e182_5 : a182.eval (.tmp 5) = .pointer (some ⟨g117, 0, none⟩) := (hk182 5 rfl).trans e179_5
      have e182_6 : a182.eval (.tmp 6) = .pointer (some ⟨g119, 0, none⟩) := (hk182 6 rfl).trans e179_6
      have e182_8 : a182.eval (.tmp 8) = .pointer (some ⟨g176, 0, none⟩) := (hk182 8 rfl).trans e179_8
      have e182_25 : a182.eval (.tmp 25) = .slice Al1 l1.length cl1 := (hk182 25 rfl).trans e179_25
      have e182_26 : a182.eval (.tmp 26) = .int .i64 (l1.length : Int) := (hk182 26 rfl).trans e179_26
      have e182_27 : a182.eval (.tmp 27) = .int .i64 x149 := (hk182 27 rfl).trans e179_27
      obtain ⟨(b_g117 : BlkO own182 181 w182 g117 24 #[.int .i64 (mn low146.1 x175.1), .int .i64 (mn low146.2 x175.2)]), -⟩ := hf182 [13] rfl
      have hX182 := Evo.step hX179 (fun _ => Nat.le_refl 0) hE182 rfl
      have b182_g101 := BlkO.evo (by decide) hE182 b179_g101
      have b182_g103 := BlkO.evo (by decide) hE182 b179_g103
      have b182_g119 := BlkO.evo (by decide) hE182 b179_g119
      have b182_Al1 := RdO.evo rfl hE182 b179_Al1
      have b182_g176 := BlkO.evo (by decide) hE182 b179_g176
      have b182_g117 := b_g117
      refine rg_draw g_mixed (n := 58) (rs := [Fct.at_ 147 g119 24 #[.int .i64 high148.1, .int .i64 high148.2]]) (own0 := own182) (K := [147, 183])
          (bs := [0, 1, 0, 4, 15, 0, 32, 0, 128, 480, 127, 1151, 4095, 8191])
          (ds := [⟨[], [6], [], Fct.val 43 (.pointer (some ⟨g119, 0, none⟩))⟩,
          ⟨[0, 14], [], [], Fct.val 44 (.int .i64 high148.1)⟩,
          ⟨[], [8], [], Fct.val 45 (.pointer (some ⟨g176, 0, none⟩))⟩,
          ⟨[2], [], [], Fct.val 46 (.int .i64 x175.1)⟩,
          ⟨[1, 3], [], [], Fct.val 47 (.int .i64 (mx high148.1 x175.1))⟩,
          ⟨[], [6], [], Fct.val 48 (.pointer (some ⟨g119, 1, none⟩))⟩,
          ⟨[5, 14], [], [], Fct.val 49 (.int .i64 high148.2)⟩,
          ⟨[], [8], [], Fct.val 50 (.pointer (some ⟨g176, 1, none⟩))⟩,
          ⟨[7], [], [], Fct.val 51 (.int .i64 x175.2)⟩,
          ⟨[6, 8], [], [], Fct.val 52 (.int .i64 (mx high148.2 x175.2))⟩,
          ⟨[], [6], [], Fct.val 53 (.pointer (some ⟨g119, 0, none⟩))⟩,
          ⟨[10, 4, 14], [], [147], Fct.at_ 183 g119 24 #[.int .i64 (mx high148.1 x175.1), .int .i64 high148.2]⟩,
          ⟨[], [6], [], Fct.val 54 (.pointer (some ⟨g119, 1, none⟩))⟩,
          ⟨[12, 9, 11], [], [183], Fct.at_ 184 g119 24 #[.int .i64 (mx high148.1 x175.1), .int .i64 (mx high148.2 x175.2)]⟩]) (by kernel_rfl) hz182 hd182 (by simp only [List.forall_mem_cons]; exact ⟨b182_g119, fun _ h => nomatch h⟩) ?_ ?_
      · refine steps_cons (fun own a wx hf hsl hE => ?_) ?_
        · obtain ⟨s_6, -⟩ := hsl
          exact sg_plain rfl rfl (or_field fo24_0 (s_6.trans e182_6) (by rfl))
        refine steps_cons (fun own a wx hf hsl hE => ?_) ?_
        · obtain ⟨(f_43 : a.eval (.tmp 43) = .pointer (some ⟨g119, 0, none⟩)), (b_g119 : BlkO own 147 wx g119 24 #[.int .i64 high148.1, .int .i64 high148.2]), -⟩ := hf
          exact sg_plain rfl rfl (or_load1 to3 f_43 (Blk.at_ b_g119.2 0 rfl))
        refine steps_cons (fun own a wx hf hsl hE => ?_) ?_
        · obtain ⟨s_8, -⟩ := hsl
          exact sg_plain rfl rfl (or_field fo24_0 (s_8.trans e182_8) (by rfl))
        refine steps_cons (fun own a wx hf hsl hE => ?_) ?_
        · obtain ⟨(f_45 : a.eval (.tmp 45) = .pointer (some ⟨g176, 0, none⟩)), -⟩ := hf
          exact sg_plain rfl rfl (or_load1 to3 f_45 (Blk.at_ (BlkO.evo (by decide) hE b182_g176).2 0 rfl))
        refine steps_cons (fun own a wx hf hsl hE => ?_) ?_
        · obtain ⟨(f_44 : a.eval (.tmp 44) = .int .i64 high148.1), (f_46 : a.eval (.tmp 46) = .int .i64 x175.1), -⟩ := hf
          exact sg_plain rfl rfl (or_max f_44 f_46)
        refine steps_cons (fun own a wx hf hsl hE => ?_) ?_
        · obtain ⟨s_6, -⟩ := hsl
          exact sg_plain rfl rfl (or_field fo24_1 (s_6.trans e182_6) (by rfl))
        refine steps_cons (fun own a wx hf hsl hE => ?_) ?_
        · obtain ⟨(f_48 : a.eval (.tmp 48) = .pointer (some ⟨g119, 1, none⟩)), (b_g119 : BlkO own 147 wx g119 24 #[.int .i64 high148.1, .int .i64 high148.2]), -⟩ := hf
          exact sg_plain rfl rfl (or_load1 to3 f_48 (Blk.at_ b_g119.2 1 rfl))
        refine steps_cons (fun own a wx hf hsl hE => ?_) ?_
        · obtain ⟨s_8, -⟩ := hsl
          exact sg_plain rfl rfl (or_field fo24_1 (s_8.trans e182_8) (by rfl))
        refine steps_cons (fun own a wx hf hsl hE => ?_) ?_
        · obtain ⟨(f_50 : a.eval (.tmp 50) = .pointer (some ⟨g176, 1, none⟩)), -⟩ := hf
          exact sg_plain rfl rfl (or_load1 to3 f_50 (Blk.at_ (BlkO.evo (by decide) hE b182_g176).2 1 rfl))
        refine steps_cons (fun own a wx hf hsl hE => ?_) ?_
        · obtain ⟨(f_49 : a.eval (.tmp 49) = .int .i64 high148.2), (f_51 : a.eval (.tmp 51) = .int .i64 x175.2), -⟩ := hf
          exact sg_plain rfl rfl (or_max f_49 f_51)
        refine steps_cons (fun own a wx hf hsl hE => ?_) ?_
        · obtain ⟨s_6, -⟩ := hsl
          exact sg_plain rfl rfl (or_field fo24_0 (s_6.trans e182_6) (by rfl))
        refine steps_cons (fun own a wx hf hsl hE => ?_) ?_
        · obtain ⟨(f_53 : a.eval (.tmp 53) = .pointer (some ⟨g119, 0, none⟩)), (f_47 : a.eval (.tmp 47) = .int .i64 (mx high148.1 x175.1)), (b_g119 : BlkO own 147 wx g119 24 #[.int .i64 high148.1, .int .i64 high148.2]), -⟩ := hf
          exact sg_plain rfl rfl (or_store1 (lab := 147) (lab2 := 183) ts3 f_53 f_47 b_g119 (by simp) rfl (mem_of rfl) (by decide) rfl (fun own' a' w' ha hb => hb))
        refine steps_cons (fun own a wx hf hsl hE => ?_) ?_
        · obtain ⟨s_6, -⟩ := hsl
          exact sg_plain rfl rfl (or_field fo24_1 (s_6.trans e182_6) (by rfl))
        refine steps_cons (fun own a wx hf hsl hE => ?_) ?_
        · obtain ⟨(f_54 : a.eval (.tmp 54) = .pointer (some ⟨g119, 1, none⟩)), (f_52 : a.eval (.tmp 52) = .int .i64 (mx high148.2 x175.2)), (b_g119 : BlkO own 183 wx g119 24 #[.int .i64 (mx high148.1 x175.1), .int .i64 high148.2]), -⟩ := hf
          exact sg_plain rfl rfl (or_store1 (lab := 183) (lab2 := 184) ts3 f_54 f_52 b_g119 (by simp) rfl (mem_of rfl) (by decide) rfl (fun own' a' w' ha hb => hb))
        exact steps_nil
      intro own185 a185 w185 hd185 hz185 hk185 hf185 hE185
      have e185_2 : a185.eval (.tmp 2) = .pointer (some ⟨g101, 0, none⟩) := (hk185 2 rfl).trans e182_2
      have e185_3 : a185.eval (.tmp 3) = .pointer (some ⟨g103, 0, none⟩) := (hk185 3 rfl).trans e182_3
      have e185_5 : a185.eval (.tmp 5) = .pointer (some ⟨g117, 0, none⟩) := (hk185 5 rfl).trans e182_5
      have e185_6 : a185.eval (.tmp 6) = .pointer (some ⟨g119, 0, none⟩) := (hk185 6 rfl).trans e182_6
      have e185_25 : a185.eval (.tmp 25) = .slice Al1 l1.length cl1 := (hk185 25 rfl).trans e182_25
      have e185_26 : a185.eval (.tmp 26) = .int .i64 (l1.length : Int) := (hk185 26 rfl).trans e182_26
      have e185_27 : a185.eval (.tmp 27) = .int .i64 x149 := (hk185 27 rfl).trans e182_27
      obtain ⟨(b_g119 : BlkO own185 184 w185 g119 24 #[.int .i64 (mx high148.1 x175.1), .int .i64 (mx high148.2 x175.2)]), -⟩ := hf185 [13] rfl
      have hX185 := Evo.step hX182 (fun _ => Nat.le_refl 0) hE185 rfl
      have b185_g101 := BlkO.evo (by decide) hE185 b182_g101
      have b185_g103 := BlkO.evo (by decide) hE185 b182_g103
      have b185_Al1 := RdO.evo rfl hE185 b182_Al1
      have b185_g117 := BlkO.evo (by decide) hE185 b182_g117
      have b185_g119 := b_g119
      refine hn174 _ _ ?_
      refine hn173 _ _ ?_
      refine rg_plain (n := 58) (rs := []) (own0 := own185) (K := [])
          (bs := [0, 1])
          (ds := [⟨[], [27], [], Fct.val 55 (.int .i64 (ad x149 1))⟩,
          ⟨[0], [], [], Fct.val 27 (.int .i64 (ad x149 1))⟩]) (by kernel_rfl) hz185 hd185 (fun _ h => nomatch h) ?_ ?_
      · refine steps_cons (fun own a wx hf hsl hE => ?_) ?_
        · obtain ⟨s_27, -⟩ := hsl
          exact sg_plain rfl rfl (or_add (s_27.trans e185_27) rfl rfl)
        refine steps_cons (fun own a wx hf hsl hE => ?_) ?_
        · obtain ⟨(f_55 : a.eval (.tmp 55) = .int .i64 (ad x149 1)), -⟩ := hf
          exact sg_plain rfl rfl (or_move f_55)
        exact steps_nil
      intro own186 a186 w186 hd186 hz186 hk186 hf186 hE186
      have e186_2 : a186.eval (.tmp 2) = .pointer (some ⟨g101, 0, none⟩) := (hk186 2 rfl).trans e185_2
      have e186_3 : a186.eval (.tmp 3) = .pointer (some ⟨g103, 0, none⟩) := (hk186 3 rfl).trans e185_3
      have e186_5 : a186.eval (.tmp 5) = .pointer (some ⟨g117, 0, none⟩) := (hk186 5 rfl).trans e185_5
      have e186_6 : a186.eval (.tmp 6) = .pointer (some ⟨g119, 0, none⟩) := (hk186 6 rfl).trans e185_6
      have e186_25 : a186.eval (.tmp 25) = .slice Al1 l1.length cl1 := (hk186 25 rfl).trans e185_25
      have e186_26 : a186.eval (.tmp 26) = .int .i64 (l1.length : Int) := (hk186 26 rfl).trans e185_26
      obtain ⟨(f_27 : a186.eval (.tmp 27) = .int .i64 (ad x149 1)), -⟩ := hf186 [1] rfl
      have e186_27 := f_27
      have hX186 := Evo.step hX185 (fun _ => Nat.le_refl 0) hE186 rfl
      have b186_g101 := BlkO.evo (by decide) hE186 b185_g101
      have b186_g103 := BlkO.evo (by decide) hE186 b185_g103
      have b186_Al1 := RdO.evo rfl hE186 b185_Al1
      have b186_g117 := BlkO.evo (by decide) hE186 b185_g117
      have b186_g119 := BlkO.evo (by decide) hE186 b185_g119
      exact hn168 _ _ _ hs ⟨(rl [(181, 145), (184, 147)] own186), hd186, hz186, e186_2, e186_3, e186_5, e186_6, e186_25, e186_26, e186_27, (Evo.rl_ hX186 (fun _ => Nat.le_refl 0) rfl), (BlkO.rl_ (mm := [(181, 145), (184, 147)]) b186_g101), (BlkO.rl_ (mm := [(181, 145), (184, 147)]) b186_g103), (BlkO.rl_ (mm := [(181, 145), (184, 147)]) b186_g117), (BlkO.rl_ (mm := [(181, 145), (184, 147)]) b186_g119), (RdO.rl_ (mm := [(181, 145), (184, 147)]) b186_Al1)⟩
    refine fl_exit ?_
    refine hp171 _ _ _ rfl ?_
    replace hs := hz168 _ hs
    refine hp168 _ _ _ rfl ?_
    refine hx126 _ _ ?_
    refine hn124 _ _ ?_
    refine rg_draw_seq g_mixed (n := 58) (rs := [Fct.at_ 102 g101 24 #[.int .i64 0, .int .i64 0], Fct.at_ 104 g103 24 #[.int .i64 0, .int .i64 0]]) (own0 := own170) (K := [102, 104])
        (bs := [0, 0, 1, 7, 15])
        (ds := [⟨[], [5], [], Fct.val 56 (.agg #[.int .i64 low146.1, .int .i64 low146.2])⟩,
        ⟨[], [6], [], Fct.val 57 (.agg #[.int .i64 high148.1, .int .i64 high148.2])⟩,
        ⟨[0, 5], [2], [102], Fct.at_ 188 g101 24 #[.int .i64 low146.1, .int .i64 low146.2]⟩,
        ⟨[1, 6], [3], [104], Fct.at_ 189 g103 24 #[.int .i64 high148.1, .int .i64 high148.2]⟩,
        ⟨[], [], [], Fct.val 4 (.bool true)⟩]) (by kernel_rfl) hz170 hd170 (by simp only [List.forall_mem_cons]; exact ⟨b170_g101, b170_g103, fun _ h => nomatch h⟩) ?_ ?_
    · refine steps_cons (fun own a wx hf hsl hE => ?_) ?_
      · obtain ⟨s_5, -⟩ := hsl
        exact sg_plain rfl rfl (or_load (l := [.int .i64 low146.1, .int .i64 low146.2]) ta24 (s_5.trans e170_5) (Blk.cellsFrom (BlkO.evo (by decide) hE b170_g117).2 0 rfl) rfl)
      refine steps_cons (fun own a wx hf hsl hE => ?_) ?_
      · obtain ⟨s_6, -⟩ := hsl
        exact sg_plain rfl rfl (or_load (l := [.int .i64 high148.1, .int .i64 high148.2]) ta24 (s_6.trans e170_6) (Blk.cellsFrom (BlkO.evo (by decide) hE b170_g119).2 0 rfl) rfl)
      refine steps_cons (fun own a wx hf hsl hE => ?_) ?_
      · obtain ⟨(f_56 : a.eval (.tmp 56) = .agg #[.int .i64 low146.1, .int .i64 low146.2]), (b_g101 : BlkO own 102 wx g101 24 #[.int .i64 0, .int .i64 0]), -⟩ := hf
        obtain ⟨s_2, -⟩ := hsl
        exact sg_plain rfl rfl (or_store (l := #[.int .i64 low146.1, .int .i64 low146.2]) (lab := 102) (lab2 := 188) ts24 (s_2.trans e170_2) f_56 b_g101 (by simp) (by kernel_rfl) (mem_of rfl) (by decide) (by kernel_rfl) (fun own' a' w' ha hb => hb))
      refine steps_cons (fun own a wx hf hsl hE => ?_) ?_
      · obtain ⟨(f_57 : a.eval (.tmp 57) = .agg #[.int .i64 high148.1, .int .i64 high148.2]), (b_g103 : BlkO own 104 wx g103 24 #[.int .i64 0, .int .i64 0]), -⟩ := hf
        obtain ⟨s_3, -⟩ := hsl
        exact sg_plain rfl rfl (or_store (l := #[.int .i64 high148.1, .int .i64 high148.2]) (lab := 104) (lab2 := 189) ts24 (s_3.trans e170_3) f_57 b_g103 (by simp) (by kernel_rfl) (mem_of rfl) (by decide) (by kernel_rfl) (fun own' a' w' ha hb => hb))
      refine steps_cons (fun own a wx hf hsl hE => ?_) ?_
      · exact sg_plain rfl rfl (or_assign rfl)
      exact steps_nil
    intro own190 a190 w190 hd190 hz190 hk190 hf190 hE190
    have e190_2 : a190.eval (.tmp 2) = .pointer (some ⟨g101, 0, none⟩) := (hk190 2 rfl).trans e170_2
    have e190_3 : a190.eval (.tmp 3) = .pointer (some ⟨g103, 0, none⟩) := (hk190 3 rfl).trans e170_3
    obtain ⟨(f_4 : a190.eval (.tmp 4) = .bool true), (b_g101 : BlkO own190 188 w190 g101 24 #[.int .i64 low146.1, .int .i64 low146.2]), (b_g103 : BlkO own190 189 w190 g103 24 #[.int .i64 high148.1, .int .i64 high148.2]), -⟩ := hf190 [4, 2, 3] rfl
    have e190_4 := f_4
    have hX190 := Evo.step hX170 (fun _ => Nat.le_refl 0) hE190 rfl
    have b190_g101 := b_g101
    have b190_g103 := b_g103
    refine fl_ret ?_
    obtain rfl := osome hs
    exact hret _ _ _ _ (.inl rfl) hd190 (results3_ rfl (RVal.cell_ e190_2 (run_loadVarAgg (l := [.int .i64 low146.1, .int .i64 low146.2]) ta24 (Blk.cellsFrom b190_g101.2 0 rfl) rfl)) (RVal.cell_ e190_3 (run_loadVarAgg (l := [.int .i64 high148.1, .int .i64 high148.2]) ta24 (Blk.cellsFrom b190_g103.2 0 rfl) rfl)) (RVal.tmp_ e190_4)) ⟨own190, rfl, hX190⟩

theorem rows_Of_w (w : World) (l1 : List (Int × Int)) (Al1 : Option Addr) (cl1 : Nat) (hl1 : RdO (fun _ => 0) [0] w R24 Al1 cl1 l1) (r : ((Int × Int) × (Int × Int)) × Bool) (hs : rows_Of l1 = some r) :
    Calls Try.prog 21 #[.slice Al1 l1.length cl1] w fun e w' => ∃ own' : Own, e = .returned (.tuple #[.agg #[.int .i64 r.1.1.1, .int .i64 r.1.1.2, .int .i64 r.1.2.1, .int .i64 r.1.2.2], .bool r.2]) ∧ Evo [] (fun _ => 0) own' w w' := by
  refine fl_enter (n := 17) rfl rfl rfl (Nat.le_of_ble_eq_true rfl) ?_
  intro a0 Q hd0 hz0 harg hret
  have ha0 := harg 0 _ rfl
  clear harg
  have hE0 : Evo [] (fun _ => 0) (fun _ => 0) w w := Evo.refl _ _ _
  refine rg_plain_seq (n := 17) (rs := []) (own0 := (fun _ => 0)) (K := [])
      (bs := [0, 0])
      (ds := [⟨[], [], [], Fct.blk 25 2 (fun g => .pointer (some ⟨g, 0, none⟩)) 26 #[.int .i64 0, .int .i64 0, .int .i64 0, .int .i64 0]⟩,
      ⟨[], [], [], Fct.val 3 (.bool false)⟩]) (by kernel_rfl) hz0 hd0 (fun _ h => nomatch h) ?_ ?_
  · refine steps_cons (fun own a wx hf hsl hE => ?_) ?_
    · exact sg_plain rfl rfl (or_new [] rfl rfl trivial (by kernel_rfl))
    refine steps_cons (fun own a wx hf hsl hE => ?_) ?_
    · exact sg_plain rfl rfl (or_assign rfl)
    exact steps_nil
  intro own26 a26 w26 hd26 hz26 hk26 hf26 hE26
  have e26_0 : a26.eval (.tmp 0) = .slice Al1 l1.length cl1 := (hk26 0 rfl).trans ha0
  obtain ⟨⟨g24, (f_2 : a26.eval (.tmp 2) = .pointer (some ⟨g24, 0, none⟩)), (b_g24 : BlkO own26 25 w26 g24 26 #[.int .i64 0, .int .i64 0, .int .i64 0, .int .i64 0])⟩, -⟩ := hf26 [0] rfl
  have e26_2 := f_2
  have hX26 := Evo.step hE0 (fun _ => Nat.le_refl 0) hE26 rfl
  have b26_Al1 := RdO.evo rfl hE26 hl1
  have b26_g24 := b_g24
  obtain ⟨r27, hr27, hs⟩ := obind hs
  refine rg_plain_seq (n := 17) (rs := []) (own0 := own26) (K := [29, 31])
      (bs := [0, 1, 3, 7, 7, 7, 0, 0, 207, 479, 1023])
      (ds := [⟨[], [0], [], Fct.val 8 (.slice Al1 l1.length cl1)⟩,
      ⟨[0], [], [], Fct.val 9 (.tuple #[.agg #[.int .i64 r27.1.1, .int .i64 r27.1.2], .agg #[.int .i64 r27.2.1.1, .int .i64 r27.2.1.2], .bool r27.2.2])⟩,
      ⟨[1], [], [], Fct.val 7 (.tuple #[.agg #[.int .i64 r27.1.1, .int .i64 r27.1.2], .agg #[.int .i64 r27.2.1.1, .int .i64 r27.2.1.2], .bool r27.2.2])⟩,
      ⟨[2], [], [], Fct.val 10 (.agg #[.int .i64 r27.1.1, .int .i64 r27.1.2])⟩,
      ⟨[2], [], [], Fct.val 11 (.agg #[.int .i64 r27.2.1.1, .int .i64 r27.2.1.2])⟩,
      ⟨[2], [], [], Fct.val 12 (.bool r27.2.2)⟩,
      ⟨[], [], [], Fct.blk 29 4 (fun g => .pointer (some ⟨g, 0, none⟩)) 24 #[.int .i64 0, .int .i64 0]⟩,
      ⟨[], [], [], Fct.blk 31 5 (fun g => .pointer (some ⟨g, 0, none⟩)) 24 #[.int .i64 0, .int .i64 0]⟩,
      ⟨[6, 3], [], [29], Fct.blk 32 4 (fun g => .pointer (some ⟨g, 0, none⟩)) 24 #[.int .i64 r27.1.1, .int .i64 r27.1.2]⟩,
      ⟨[7, 4], [], [31], Fct.blk 33 5 (fun g => .pointer (some ⟨g, 0, none⟩)) 24 #[.int .i64 r27.2.1.1, .int .i64 r27.2.1.2]⟩,
      ⟨[5], [], [], Fct.val 6 (.bool r27.2.2)⟩]) (by kernel_rfl) hz26 hd26 (fun _ h => nomatch h) ?_ ?_
  · refine steps_cons (fun own a wx hf hsl hE => ?_) ?_
    · obtain ⟨s_0, -⟩ := hsl
      exact sg_plain rfl rfl (or_move (s_0.trans e26_0))
    refine steps_cons (fun own a wx hf hsl hE => ?_) ?_
    · obtain ⟨(f_8 : a.eval (.tmp 8) = .slice Al1 l1.length cl1), -⟩ := hf
      exact sg_plain rfl rfl (or_call cf30 (args1 f_8) (exact_Box_w _ l1 Al1 cl1 (RdO.zero (RdO.evo rfl hE b26_Al1)) r27 hr27) post_val)
    refine steps_cons (fun own a wx hf hsl hE => ?_) ?_
    · obtain ⟨(f_9 : a.eval (.tmp 9) = .tuple #[.agg #[.int .i64 r27.1.1, .int .i64 r27.1.2], .agg #[.int .i64 r27.2.1.1, .int .i64 r27.2.1.2], .bool r27.2.2]), -⟩ := hf
      exact sg_plain rfl rfl (or_move f_9)
    refine steps_cons (fun own a wx hf hsl hE => ?_) ?_
    · obtain ⟨(f_7 : a.eval (.tmp 7) = .tuple #[.agg #[.int .i64 r27.1.1, .int .i64 r27.1.2], .agg #[.int .i64 r27.2.1.1, .int .i64 r27.2.1.2], .bool r27.2.2]), -⟩ := hf
      exact sg_plain rfl rfl (or_k [(7, .tuple #[.agg #[.int .i64 r27.1.1, .int .i64 r27.1.2], .agg #[.int .i64 r27.2.1.1, .int .i64 r27.2.1.2], .bool r27.2.2])] rfl rfl ⟨f_7, trivial⟩ (by kernel_rfl))
    refine steps_cons (fun own a wx hf hsl hE => ?_) ?_
    · obtain ⟨(f_7 : a.eval (.tmp 7) = .tuple #[.agg #[.int .i64 r27.1.1, .int .i64 r27.1.2], .agg #[.int .i64 r27.2.1.1, .int .i64 r27.2.1.2], .bool r27.2.2]), -⟩ := hf
      exact sg_plain rfl rfl (or_k [(7, .tuple #[.agg #[.int .i64 r27.1.1, .int .i64 r27.1.2], .agg #[.int .i64 r27.2.1.1, .int .i64 r27.2.1.2], .bool r27.2.2])] rfl rfl ⟨f_7, trivial⟩ (by kernel_rfl))
    refine steps_cons (fun own a wx hf hsl hE => ?_) ?_
    · obtain ⟨(f_7 : a.eval (.tmp 7) = .tuple #[.agg #[.int .i64 r27.1.1, .int .i64 r27.1.2], .agg #[.int .i64 r27.2.1.1, .int .i64 r27.2.1.2], .bool r27.2.2]), -⟩ := hf
      exact sg_plain rfl rfl (or_k [(7, .tuple #[.agg #[.int .i64 r27.1.1, .int .i64 r27.1.2], .agg #[.int .i64 r27.2.1.1, .int .i64 r27.2.1.2], .bool r27.2.2])] rfl rfl ⟨f_7, trivial⟩ (by kernel_rfl))
    refine steps_cons (fun own a wx hf hsl hE => ?_) ?_
    · exact sg_plain rfl rfl (or_new [] rfl rfl trivial (by kernel_rfl))
    refine steps_cons (fun own a wx hf hsl hE => ?_) ?_
    · exact sg_plain rfl rfl (or_new [] rfl rfl trivial (by kernel_rfl))
    refine steps_cons (fun own a wx hf hsl hE => ?_) ?_
    · obtain ⟨⟨g28, (f_4 : a.eval (.tmp 4) = .pointer (some ⟨g28, 0, none⟩)), (b_g28 : BlkO own 29 wx g28 24 #[.int .i64 0, .int .i64 0])⟩, (f_10 : a.eval (.tmp 10) = .agg #[.int .i64 r27.1.1, .int .i64 r27.1.2]), -⟩ := hf
      exact sg_plain rfl rfl (or_store (l := #[.int .i64 r27.1.1, .int .i64 r27.1.2]) (lab := 29) (lab2 := 32) ts24 f_4 f_10 b_g28 (by simp) (by kernel_rfl) (mem_of rfl) (by decide) (by kernel_rfl) (fun own' a' w' ha hb => ⟨_, (ha 4).trans f_4, hb⟩))
    refine steps_cons (fun own a wx hf hsl hE => ?_) ?_
    · obtain ⟨⟨g30, (f_5 : a.eval (.tmp 5) = .pointer (some ⟨g30, 0, none⟩)), (b_g30 : BlkO own 31 wx g30 24 #[.int .i64 0, .int .i64 0])⟩, (f_11 : a.eval (.tmp 11) = .agg #[.int .i64 r27.2.1.1, .int .i64 r27.2.1.2]), -⟩ := hf
      exact sg_plain rfl rfl (or_store (l := #[.int .i64 r27.2.1.1, .int .i64 r27.2.1.2]) (lab := 31) (lab2 := 33) ts24 f_5 f_11 b_g30 (by simp) (by kernel_rfl) (mem_of rfl) (by decide) (by kernel_rfl) (fun own' a' w' ha hb => ⟨_, (ha 5).trans f_5, hb⟩))
    refine steps_cons (fun own a wx hf hsl hE => ?_) ?_
    · obtain ⟨(f_12 : a.eval (.tmp 12) = .bool r27.2.2), -⟩ := hf
      exact sg_plain rfl rfl (or_assign f_12)
    exact steps_nil
  intro own34 a34 w34 hd34 hz34 hk34 hf34 hE34
  have e34_2 : a34.eval (.tmp 2) = .pointer (some ⟨g24, 0, none⟩) := (hk34 2 rfl).trans e26_2
  obtain ⟨⟨g28, (f_4 : a34.eval (.tmp 4) = .pointer (some ⟨g28, 0, none⟩)), (b_g28 : BlkO own34 32 w34 g28 24 #[.int .i64 r27.1.1, .int .i64 r27.1.2])⟩, ⟨g30, (f_5 : a34.eval (.tmp 5) = .pointer (some ⟨g30, 0, none⟩)), (b_g30 : BlkO own34 33 w34 g30 24 #[.int .i64 r27.2.1.1, .int .i64 r27.2.1.2])⟩, (f_6 : a34.eval (.tmp 6) = .bool r27.2.2), -⟩ := hf34 [8, 9, 10] rfl
  have e34_4 := f_4
  have e34_5 := f_5
  have e34_6 := f_6
  have hX34 := Evo.step hX26 (fun _ => Nat.le_refl 0) hE34 rfl
  have b34_g24 := BlkO.evo (by decide) hE34 b26_g24
  have b34_g28 := b_g28
  have b34_g30 := b_g30
  refine rg_plain_seq (n := 17) (rs := [Fct.at_ 25 g24 26 #[.int .i64 0, .int .i64 0, .int .i64 0, .int .i64 0]]) (own0 := own34) (K := [25])
      (bs := [0, 0, 3, 0, 7, 31])
      (ds := [⟨[], [4], [], Fct.val 13 (.agg #[.int .i64 r27.1.1, .int .i64 r27.1.2])⟩,
      ⟨[], [5], [], Fct.val 14 (.agg #[.int .i64 r27.2.1.1, .int .i64 r27.2.1.2])⟩,
      ⟨[0, 1], [], [], Fct.val 15 (.agg #[.int .i64 r27.1.1, .int .i64 r27.1.2, .int .i64 r27.2.1.1, .int .i64 r27.2.1.2])⟩,
      ⟨[], [6], [], Fct.val 16 (.bool r27.2.2)⟩,
      ⟨[2, 6], [2], [25], Fct.at_ 35 g24 26 #[.int .i64 r27.1.1, .int .i64 r27.1.2, .int .i64 r27.2.1.1, .int .i64 r27.2.1.2]⟩,
      ⟨[3], [], [], Fct.val 3 (.bool r27.2.2)⟩]) (by kernel_rfl) hz34 hd34 (by simp only [List.forall_mem_cons]; exact ⟨b34_g24, fun _ h => nomatch h⟩) ?_ ?_
  · refine steps_cons (fun own a wx hf hsl hE => ?_) ?_
    · obtain ⟨s_4, -⟩ := hsl
      exact sg_plain rfl rfl (or_load (l := [.int .i64 r27.1.1, .int .i64 r27.1.2]) ta24 (s_4.trans e34_4) (Blk.cellsFrom (BlkO.evo (by decide) hE b34_g28).2 0 rfl) rfl)
    refine steps_cons (fun own a wx hf hsl hE => ?_) ?_
    · obtain ⟨s_5, -⟩ := hsl
      exact sg_plain rfl rfl (or_load (l := [.int .i64 r27.2.1.1, .int .i64 r27.2.1.2]) ta24 (s_5.trans e34_5) (Blk.cellsFrom (BlkO.evo (by decide) hE b34_g30).2 0 rfl) rfl)
    refine steps_cons (fun own a wx hf hsl hE => ?_) ?_
    · obtain ⟨(f_13 : a.eval (.tmp 13) = .agg #[.int .i64 r27.1.1, .int .i64 r27.1.2]), (f_14 : a.eval (.tmp 14) = .agg #[.int .i64 r27.2.1.1, .int .i64 r27.2.1.2]), -⟩ := hf
      exact sg_plain rfl rfl (or_k [(13, .agg #[.int .i64 r27.1.1, .int .i64 r27.1.2]), (14, .agg #[.int .i64 r27.2.1.1, .int .i64 r27.2.1.2])] rfl rfl ⟨f_13, f_14, trivial⟩ (by kernel_rfl))
    refine steps_cons (fun own a wx hf hsl hE => ?_) ?_
    · obtain ⟨s_6, -⟩ := hsl
      exact sg_plain rfl rfl (or_move (s_6.trans e34_6))
    refine steps_cons (fun own a wx hf hsl hE => ?_) ?_
    · obtain ⟨(f_15 : a.eval (.tmp 15) = .agg #[.int .i64 r27.1.1, .int .i64 r27.1.2, .int .i64 r27.2.1.1, .int .i64 r27.2.1.2]), (b_g24 : BlkO own 25 wx g24 26 #[.int .i64 0, .int .i64 0, .int .i64 0, .int .i64 0]), -⟩ := hf
      obtain ⟨s_2, -⟩ := hsl
      exact sg_plain rfl rfl (or_store (l := #[.int .i64 r27.1.1, .int .i64 r27.1.2, .int .i64 r27.2.1.1, .int .i64 r27.2.1.2]) (lab := 25) (lab2 := 35) ts26 (s_2.trans e34_2) f_15 b_g24 (by simp) (by kernel_rfl) (mem_of rfl) (by decide) (by kernel_rfl) (fun own' a' w' ha hb => hb))
    refine steps_cons (fun own a wx hf hsl hE => ?_) ?_
    · obtain ⟨(f_16 : a.eval (.tmp 16) = .bool r27.2.2), -⟩ := hf
      exact sg_plain rfl rfl (or_assign f_16)
    exact steps_nil
  intro own36 a36 w36 hd36 hz36 hk36 hf36 hE36
  have e36_2 : a36.eval (.tmp 2) = .pointer (some ⟨g24, 0, none⟩) := (hk36 2 rfl).trans e34_2
  obtain ⟨(f_3 : a36.eval (.tmp 3) = .bool r27.2.2), (b_g24 : BlkO own36 35 w36 g24 26 #[.int .i64 r27.1.1, .int .i64 r27.1.2, .int .i64 r27.2.1.1, .int .i64 r27.2.1.2]), -⟩ := hf36 [5, 4] rfl
  have e36_3 := f_3
  have hX36 := Evo.step hX34 (fun _ => Nat.le_refl 0) hE36 rfl
  have b36_g24 := b_g24
  refine fl_ret ?_
  obtain rfl := osome hs
  exact hret _ _ _ _ (.inl rfl) hd36 (results2_ rfl (RVal.cell_ e36_2 (run_loadVarAgg (l := [.int .i64 r27.1.1, .int .i64 r27.1.2, .int .i64 r27.2.1.1, .int .i64 r27.2.1.2]) ta26 (Blk.cellsFrom b36_g24.2 0 rfl) rfl)) (RVal.tmp_ e36_3)) ⟨own36, rfl, hX36⟩

theorem law01_Ofs_w (w : World) (l1 : List (Int × Int)) (Al1 : Option Addr) (cl1 : Nat) (hl1 : RdO (fun _ => 0) [0] w R24 Al1 cl1 l1) (r : List (Int × Int)) (hs : law01_Ofs l1 = some r) :
    Calls Try.prog 22 #[.slice Al1 l1.length cl1] w fun e w' => ∃ (own' : Own) (x : Option Addr × Nat), e = .returned (.slice x.1 r.length x.2) ∧ Evo [] (fun _ => 0) own' w w' ∧ RwO own' 1 [] w' 43 R43 x.1 x.2 r := by
  refine fl_enter (n := 20) rfl rfl rfl (Nat.le_of_ble_eq_true rfl) ?_
  intro a0 Q hd0 hz0 harg hret
  have ha0 := harg 0 _ rfl
  clear harg
  have hE0 : Evo [] (fun _ => 0) (fun _ => 0) w w := Evo.refl _ _ _
  refine rg_plain_seq (n := 20) (rs := []) (own0 := (fun _ => 0)) (K := [])
      (bs := [0])
      (ds := [⟨[], [], [], Fct.val 2 (.slice none 0 0)⟩]) (by kernel_rfl) hz0 hd0 (fun _ h => nomatch h) ?_ ?_
  · refine steps_cons (fun own a wx hf hsl hE => ?_) ?_
    · exact sg_plain rfl rfl (or_assign rfl)
    exact steps_nil
  intro own77 a77 w77 hd77 hz77 hk77 hf77 hE77
  have e77_0 : a77.eval (.tmp 0) = .slice Al1 l1.length cl1 := (hk77 0 rfl).trans ha0
  have hX77 := Evo.step hE0 (fun _ => Nat.le_refl 0) hE77 rfl
  have b77_Al1 := RdO.evo rfl hE77 hl1
  refine rg_plain_seq (n := 20) (rs := []) (own0 := own77) (K := [])
      (bs := [0])
      (ds := [⟨[], [], [], Fct.val 3 (.slice none 0 0)⟩]) (by kernel_rfl) hz77 hd77 (fun _ h => nomatch h) ?_ ?_
  · refine steps_cons (fun own a wx hf hsl hE => ?_) ?_
    · exact sg_plain rfl rfl (or_assign rfl)
    exact steps_nil
  intro own78 a78 w78 hd78 hz78 hk78 hf78 hE78
  have e78_0 : a78.eval (.tmp 0) = .slice Al1 l1.length cl1 := (hk78 0 rfl).trans e77_0
  obtain ⟨(f_3 : a78.eval (.tmp 3) = .slice none 0 0), -⟩ := hf78 [0] rfl
  have e78_3 := f_3
  have hX78 := Evo.step hX77 (fun _ => Nat.le_refl 0) hE78 rfl
  have b78_Al1 := RdO.evo rfl hE78 b77_Al1
  refine fl_seq (fun Q79 hn79 hp79 => ?_)
  refine rg_plain_seq (n := 20) (rs := []) (own0 := own78) (K := [])
      (bs := [0])
      (ds := [⟨[], [], [], Fct.val 4 (.int .i64 0)⟩]) (by kernel_rfl) hz78 hd78 (fun _ h => nomatch h) ?_ ?_
  · refine steps_cons (fun own a wx hf hsl hE => ?_) ?_
    · exact sg_plain rfl rfl (or_assign rfl)
    exact steps_nil
  intro own80 a80 w80 hd80 hz80 hk80 hf80 hE80
  have e80_0 : a80.eval (.tmp 0) = .slice Al1 l1.length cl1 := (hk80 0 rfl).trans e78_0
  have e80_3 : a80.eval (.tmp 3) = .slice none 0 0 := (hk80 3 rfl).trans e78_3
  obtain ⟨(f_4 : a80.eval (.tmp 4) = .int .i64 0), -⟩ := hf80 [0] rfl
  have e80_4 := f_4
  have hX80 := Evo.step hX78 (fun _ => Nat.le_refl 0) hE80 rfl
  have b80_Al1 := RdO.evo rfl hE80 b78_Al1
  refine fl_block (fun Q81 hn81 hx81 hp81 => ?_)
  refine fl_loop (body := (fun s => law01_Ofs_b1 l1 s.1 s.2)) (z := r) (show loopO _ _ = _ from hs) (fun (s : (List (Int × Int)) × Int) a wx => match s with | (out100, i102) => ∃ (ox : Own) (A98 : Option Addr) (c99 : Nat), a.defers = [] ∧ a.tmps.size = 20 ∧ a.eval (.tmp 0) = .slice Al1 l1.length cl1 ∧ a.eval (.tmp 3) = .slice A98 out100.length c99 ∧ a.eval (.tmp 4) = .int .i64 i102 ∧ Evo [] (fun _ => 0) ox w wx ∧ RdO ox [0] wx R24 Al1 cl1 l1 ∧ RwO ox 101 [] wx 43 R43 A98 c99 out100) ?_ ?_
  · exact ⟨own80, none, 0, hd80, hz80, e80_0, e80_3, e80_4, hX80, b80_Al1, RwO.nil_⟩
  · rintro ⟨out100, i102⟩ zz122 a122 w122 ⟨own122, A98, c99, hd123, hz123, e123_0, e123_3, e123_4, hE123, b123_Al1, b123_A98⟩ hs Q122 hn122 hp122 hz122
    have hs : law01_Ofs_b1 l1 out100 i102 = some zz122 := hs
    refine fl_seq (fun Q124 hn124 hp124 => ?_)
    refine rg_plain_seq (n := 20) (rs := []) (own0 := own122) (K := [])
        (bs := [0, 0, 2, 7])
        (ds := [⟨[], [4], [], Fct.val 5 (.int .i64 i102)⟩,
        ⟨[], [0], [], Fct.val 6 (.slice Al1 l1.length cl1)⟩,
        ⟨[1], [], [], Fct.val 7 (.int .i64 (l1.length : Int))⟩,
        ⟨[0, 2], [], [], Fct.val 8 (.bool (decide (i102 < (l1.length : Int))))⟩]) (by kernel_rfl) hz123 hd123 (fun _ h => nomatch h) ?_ ?_
    · refine steps_cons (fun own a wx hf hsl hE => ?_) ?_
      · obtain ⟨s_4, -⟩ := hsl
        exact sg_plain rfl rfl (or_move (s_4.trans e123_4))
      refine steps_cons (fun own a wx hf hsl hE => ?_) ?_
      · obtain ⟨s_0, -⟩ := hsl
        exact sg_plain rfl rfl (or_move (s_0.trans e123_0))
      refine steps_cons (fun own a wx hf hsl hE => ?_) ?_
      · obtain ⟨(f_6 : a.eval (.tmp 6) = .slice Al1 l1.length cl1), -⟩ := hf
        exact sg_plain rfl rfl (or_len tu53 f_6 rfl)
      refine steps_cons (fun own a wx hf hsl hE => ?_) ?_
      · obtain ⟨(f_5 : a.eval (.tmp 5) = .int .i64 i102), (f_7 : a.eval (.tmp 7) = .int .i64 (l1.length : Int)), -⟩ := hf
        exact sg_plain rfl rfl (or_lss f_5 f_7 rfl)
      exact steps_nil
    intro own125 a125 w125 hd125 hz125 hk125 hf125 hE125
    have e125_0 : a125.eval (.tmp 0) = .slice Al1 l1.length cl1 := (hk125 0 rfl).trans e123_0
    have e125_3 : a125.eval (.tmp 3) = .slice A98 out100.length c99 := (hk125 3 rfl).trans e123_3
    have e125_4 : a125.eval (.tmp 4) = .int .i64 i102 := (hk125 4 rfl).trans e123_4
    obtain ⟨(f_8 : a125.eval (.tmp 8) = .bool (decide (i102 < (l1.length : Int)))), -⟩ := hf125 [3] rfl
    have e125_8 := f_8
    have hX125 := Evo.step hE123 (fun _ => Nat.le_refl 0) hE125 rfl
    have b125_Al1 := RdO.evo rfl hE125 b123_Al1
    have b125_A98 := RwO.evo rfl hE125 b123_A98
    refine fl_cond e125_8 hs (fun c126 hs => ?_) (fun c126 hs => ?_)
    · refine fl_skip ?_
      refine hn124 _ _ ?_
      refine fl_seq (fun Q127 hn127 hp127 => ?_)
      refine fl_block (fun Q128 hn128 hx128 hp128 => ?_)
      obtain ⟨x133, hx133, hs⟩ := obind hs
      obtain ⟨r134, hr134, hs⟩ := obind hs
      obtain ⟨x137, hx137, hs⟩ := obind hs
      refine rg_plain (n := 20) (rs := [Fct.rowAt 101 [] 43 R43 A98 c99 out100]) (own0 := own125) (K := [101])
          (bs := [0, 0, 0, 6, 14, 30, 62, 127, 255])
          (ds := [⟨[], [3], [], Fct.val 11 (.slice A98 out100.length c99)⟩,
          ⟨[], [0], [], Fct.val 12 (.slice Al1 l1.length cl1)⟩,
          ⟨[], [4], [], Fct.val 13 (.int .i64 i102)⟩,
          ⟨[1, 2], [], [], Fct.val 14 (.pointer (some ((adr Al1).add ((i102 : Int).toNat * R24.s))))⟩,
          ⟨[3], [], [], Fct.val 15 (.agg #[.int .i64 x133.1, .int .i64 x133.2])⟩,
          ⟨[4], [], [], Fct.val 16 (.agg #[.int .i64 r134.1, .int .i64 r134.2])⟩,
          ⟨[5], [], [], Fct.row 136 [] 17 43 R43 [r134]⟩,
          ⟨[0, 6, 9], [], [101], Fct.row 138 [] 18 43 R43 x137⟩,
          ⟨[7], [], [], Fct.rel [3, 18] (fun l => ∀ (A139 : Option Addr) (cA139 : Nat), l.getD 1 undef = .slice A139 x137.length cA139 → l.getD 0 undef = .slice A139 x137.length cA139)⟩]) (by kernel_rfl) hz125 hd125 (by simp only [List.forall_mem_cons]; exact ⟨b125_A98, fun _ h => nomatch h⟩) ?_ ?_
      · refine steps_cons (fun own a wx hf hsl hE => ?_) ?_
        · obtain ⟨s_3, -⟩ := hsl
          exact sg_plain rfl rfl (or_move (s_3.trans e125_3))
        refine steps_cons (fun own a wx hf hsl hE => ?_) ?_
        · obtain ⟨s_0, -⟩ := hsl
          exact sg_plain rfl rfl (or_move (s_0.trans e125_0))
        refine steps_cons (fun own a wx hf hsl hE => ?_) ?_
        · obtain ⟨s_4, -⟩ := hsl
          exact sg_plain rfl rfl (or_move (s_4.trans e125_4))
        refine steps_cons (fun own a wx hf hsl hE => ?_) ?_
        · obtain ⟨(f_12 : a.eval (.tmp 12) = .slice Al1 l1.length cl1), (f_13 : a.eval (.tmp 13) = .int .i64 i102), -⟩ := hf
          exact sg_plain rfl rfl (or_index (R := R24) (l := l1) tl53 f_12 f_13 (RdO.some_ b125_Al1 hx133) hx133)
        refine steps_cons (fun own a wx hf hsl hE => ?_) ?_
        · obtain ⟨(f_14 : a.eval (.tmp 14) = .pointer (some ((adr Al1).add ((i102 : Int).toNat * R24.s)))), -⟩ := hf
          exact sg_plain rfl rfl (or_load (l := E24.f x133) ta24 f_14 (RdO.cells (F := E24) (RdO.evo rfl hE b125_Al1) hx133) rfl)
        refine steps_cons (fun own a wx hf hsl hE => ?_) ?_
        · obtain ⟨(f_15 : a.eval (.tmp 15) = .agg #[.int .i64 x133.1, .int .i64 x133.2]), -⟩ := hf
          exact sg_plain rfl rfl (or_call cf18 (args1 f_15) (law01_Of_w _ x133  r134 hr134) post_val)
        refine steps_cons (fun own a wx hf hsl hE => ?_) ?_
        · obtain ⟨(f_16 : a.eval (.tmp 16) = .agg #[.int .i64 r134.1, .int .i64 r134.2]), -⟩ := hf
          exact sg_plain rfl rfl (or_lit (lab := 136) (e := 43) (cs := #[.int .i64 r134.1, .int .i64 r134.2]) (F := E43) (or_new [(16, .agg #[.int .i64 r134.1, .int .i64 r134.2])] rfl rfl ⟨f_16, trivial⟩ (by kernel_rfl)) rfl rfl (show 1 ≤ maxLen by decide))
        refine steps_cons (fun own a wx hf hsl hE => ?_) ?_
        · obtain ⟨(f_11 : a.eval (.tmp 11) = .slice A98 out100.length c99), ⟨⟨A135, cA135⟩, (f_17 : a.eval (.tmp 17) = .slice A135 [r134].length cA135), (b_A135 : RwO own 136 [] wx 43 R43 A135 cA135 [r134])⟩, (b_A98 : RwO own 101 [] wx 43 R43 A98 c99 out100), -⟩ := hf
          exact sg_plain rfl rfl (or_append (R := R43) (lab := 101) (lab2 := 138) (L := []) (L3 := []) tp55 f_11 b_A98 (by decide) f_17 (RwO.rd b_A135) hx137 (by decide) (by decide) (mem_of rfl) (.inl (Rep.fl_flat _)))
        refine steps_cons (fun own a wx hf hsl hE => ?_) ?_
        · obtain ⟨⟨⟨A139, cA139⟩, (f_18 : a.eval (.tmp 18) = .slice A139 x137.length cA139), (b_A139 : RwO own 138 [] wx 43 R43 A139 cA139 x137)⟩, -⟩ := hf
          exact sg_plain rfl rfl (or_mono (f := Fct.val 3 (.slice A139 x137.length cA139)) (or_assign f_18) (fun own' a' w' v' hp h => fun _ _ h0' => by cases (f_18.symm.trans ((hp.2 18 (by decide)).symm.trans h0')); exact h))
        exact steps_nil
      intro own140 a140 w140 hd140 hz140 hk140 hf140 hE140
      have e140_0 : a140.eval (.tmp 0) = .slice Al1 l1.length cl1 := (hk140 0 rfl).trans e125_0
      have e140_4 : a140.eval (.tmp 4) = .int .i64 i102 := (hk140 4 rfl).trans e125_4
      obtain ⟨⟨⟨A139, cA139⟩, (f_18 : a140.eval (.tmp 18) = .slice A139 x137.length cA139), (b_A139 : RwO own140 138 [] w140 43 R43 A139 cA139 x137)⟩, (q_3 : ∀ (A139 : Option Addr) (cA139 : Nat), a140.eval (.tmp 18) = .slice A139 x137.length cA139 → a140.eval (.tmp 3) = .slice A139 x137.length cA139), -⟩ := hf140 [7, 8] rfl
      have f_3 := q_3 _ _ f_18
      have e140_3 := f_3
      have hX140 := Evo.step hX125 (fun _ => Nat.le_refl 0) hE140 rfl
      have b140_Al1 := RdO.evo rfl hE140 b125_Al1
      have b140_A139 := b_A139
      refine hn128 _ _ ?_
      refine hn127 _ _ ?_
      refine rg_plain (n := 20) (rs := []) (own0 := own140) (K := [])
          (bs := [0, 1, 3])
          (ds := [⟨[], [4], [], Fct.val 9 (.int .i64 i102)⟩,
          ⟨[0], [], [], Fct.val 10 (.int .i64 (ad i102 1))⟩,
          ⟨[1], [], [], Fct.val 4 (.int .i64 (ad i102 1))⟩]) (by kernel_rfl) hz140 hd140 (fun _ h => nomatch h) ?_ ?_
      · refine steps_cons (fun own a wx hf hsl hE => ?_) ?_
        · obtain ⟨s_4, -⟩ := hsl
          exact sg_plain rfl rfl (or_move (s_4.trans e140_4))
        refine steps_cons (fun own a wx hf hsl hE => ?_) ?_
        · obtain ⟨(f_9 : a.eval (.tmp 9) = .int .i64 i102), -⟩ := hf
          exact sg_plain rfl rfl (or_add f_9 rfl rfl)
        refine steps_cons (fun own a wx hf hsl hE => ?_) ?_
        · obtain ⟨(f_10 : a.eval (.tmp 10) = .int .i64 (ad i102 1)), -⟩ := hf
          exact sg_plain rfl rfl (or_assign f_10)
        exact steps_nil
      intro own141 a141 w141 hd141 hz141 hk141 hf141 hE141
      have e141_0 : a141.eval (.tmp 0) = .slice Al1 l1.length cl1 := (hk141 0 rfl).trans e140_0
      have e141_3 : a141.eval (.tmp 3) = .slice A139 x137.length cA139 := (hk141 3 rfl).trans e140_3
      obtain ⟨(f_4 : a141.eval (.tmp 4) = .int .i64 (ad i102 1)), -⟩ := hf141 [2] rfl
      have e141_4 := f_4
      have hX141 := Evo.step hX140 (fun _ => Nat.le_refl 0) hE141 rfl
      have b141_Al1 := RdO.evo rfl hE141 b140_Al1
      have b141_A139 := RwO.evo rfl hE141 b140_A139
      exact hn122 _ _ _ hs ⟨(rl [(138, 101)] own141), A139, cA139, hd141, hz141, e141_0, e141_3, e141_4, (Evo.rl_ hX141 (fun _ => Nat.le_refl 0) rfl), (RdO.rl_ (mm := [(138, 101)]) b141_Al1), (RwO.rl_ (mm := [(138, 101)]) b141_A139)⟩
    refine fl_exit ?_
    refine hp124 _ _ _ rfl ?_
    replace hs := hz122 _ hs
    refine hp122 _ _ _ rfl ?_
    refine hx81 _ _ ?_
    refine hn79 _ _ ?_
    refine rg_plain_seq (n := 20) (rs := []) (own0 := own125) (K := [])
        (bs := [0, 1])
        (ds := [⟨[], [3], [], Fct.val 19 (.slice A98 out100.length c99)⟩,
        ⟨[0], [], [], Fct.val 2 (.slice A98 out100.length c99)⟩]) (by kernel_rfl) hz125 hd125 (fun _ h => nomatch h) ?_ ?_
    · refine steps_cons (fun own a wx hf hsl hE => ?_) ?_
      · obtain ⟨s_3, -⟩ := hsl
        exact sg_plain rfl rfl (or_move (s_3.trans e125_3))
      refine steps_cons (fun own a wx hf hsl hE => ?_) ?_
      · obtain ⟨(f_19 : a.eval (.tmp 19) = .slice A98 out100.length c99), -⟩ := hf
        exact sg_plain rfl rfl (or_assign f_19)
      exact steps_nil
    intro own142 a142 w142 hd142 hz142 hk142 hf142 hE142
    obtain ⟨(f_2 : a142.eval (.tmp 2) = .slice A98 out100.length c99), -⟩ := hf142 [1] rfl
    have e142_2 := f_2
    have hX142 := Evo.step hX125 (fun _ => Nat.le_refl 0) hE142 rfl
    have b142_A98 := RwO.evo rfl hE142 b125_A98
    refine fl_ret ?_
    obtain rfl := (osome hs).symm
    exact hret _ _ _ _ (.inl rfl) hd142 (results1_ rfl (RVal.tmp_ e142_2)) ⟨(rl [(101, 1)] own142), (A98, c99), rfl, (Evo.rl_ hX142 (fun _ => Nat.le_refl 0) rfl), (RwO.rl_ (mm := [(101, 1)]) b142_A98)⟩

theorem ref01_All_w (w : World) (l1 : List (Int × Int)) (Al1 : Option Addr) (cl1 : Nat) (hl1 : RdO (fun _ => 0) [0] w R43 Al1 cl1 l1) (r : Bool) (hs : ref01_All l1 = some r) :
    Calls Try.prog 23 #[.slice Al1 l1.length cl1] w fun e w' => ∃ own' : Own, e = .returned (.bool r) ∧ Evo [] (fun _ => 0) own' w w' := by
  refine fl_enter (n := 16) rfl rfl rfl (Nat.le_of_ble_eq_true rfl) ?_
  intro a0 Q hd0 hz0 harg hret
  have ha0 := harg 0 _ rfl
  clear harg
  have hE0 : Evo [] (fun _ => 0) (fun _ => 0) w w := Evo.refl _ _ _
  refine rg_plain_seq (n := 16) (rs := []) (own0 := (fun _ => 0)) (K := [])
      (bs := [0])
      (ds := [⟨[], [], [], Fct.val 2 (.bool false)⟩]) (by kernel_rfl) hz0 hd0 (fun _ h => nomatch h) ?_ ?_
  · refine steps_cons (fun own a wx hf hsl hE => ?_) ?_
    · exact sg_plain rfl rfl (or_assign rfl)
    exact steps_nil
  intro own54 a54 w54 hd54 hz54 hk54 hf54 hE54
  have e54_0 : a54.eval (.tmp 0) = .slice Al1 l1.length cl1 := (hk54 0 rfl).trans ha0
  have hX54 := Evo.step hE0 (fun _ => Nat.le_refl 0) hE54 rfl
  have b54_Al1 := RdO.evo rfl hE54 hl1
  refine fl_seq (fun Q55 hn55 hp55 => ?_)
  refine rg_plain_seq (n := 16) (rs := []) (own0 := own54) (K := [])
      (bs := [0])
      (ds := [⟨[], [], [], Fct.val 3 (.int .i64 0)⟩]) (by kernel_rfl) hz54 hd54 (fun _ h => nomatch h) ?_ ?_
  · refine steps_cons (fun own a wx hf hsl hE => ?_) ?_
    · exact sg_plain rfl rfl (or_assign rfl)
    exact steps_nil
  intro own56 a56 w56 hd56 hz56 hk56 hf56 hE56
  have e56_0 : a56.eval (.tmp 0) = .slice Al1 l1.length cl1 := (hk56 0 rfl).trans e54_0
  obtain ⟨(f_3 : a56.eval (.tmp 3) = .int .i64 0), -⟩ := hf56 [0] rfl
  have e56_3 := f_3
  have hX56 := Evo.step hX54 (fun _ => Nat.le_refl 0) hE56 rfl
  have b56_Al1 := RdO.evo rfl hE56 b54_Al1
  refine fl_block (fun Q57 hn57 hx57 hp57 => ?_)
  refine fl_loop (body := (fun s => ref01_All_b1 l1 s)) (z := r) (show loopO _ _ = _ from hs) (fun (i70 : Int) a wx => ∃ (ox : Own), a.defers = [] ∧ a.tmps.size = 16 ∧ a.eval (.tmp 0) = .slice Al1 l1.length cl1 ∧ a.eval (.tmp 3) = .int .i64 i70 ∧ Evo [] (fun _ => 0) ox w wx ∧ RdO ox [0] wx R43 Al1 cl1 l1) ?_ ?_
  · exact ⟨own56, hd56, hz56, e56_0, e56_3, hX56, b56_Al1⟩
  · rintro i70 zz83 a83 w83 ⟨own83, hd84, hz84, e84_0, e84_3, hE84, b84_Al1⟩ hs Q83 hn83 hp83 hz83
    have hs : ref01_All_b1 l1 i70 = some zz83 := hs
    refine fl_seq (fun Q85 hn85 hp85 => ?_)
    refine rg_plain_seq (n := 16) (rs := []) (own0 := own83) (K := [])
        (bs := [0, 0, 2, 7])
        (ds := [⟨[], [3], [], Fct.val 4 (.int .i64 i70)⟩,
        ⟨[], [0], [], Fct.val 5 (.slice Al1 l1.length cl1)⟩,
        ⟨[1], [], [], Fct.val 6 (.int .i64 (l1.length : Int))⟩,
        ⟨[0, 2], [], [], Fct.val 7 (.bool (decide (i70 < (l1.length : Int))))⟩]) (by kernel_rfl) hz84 hd84 (fun _ h => nomatch h) ?_ ?_
    · refine steps_cons (fun own a wx hf hsl hE => ?_) ?_
      · obtain ⟨s_3, -⟩ := hsl
        exact sg_plain rfl rfl (or_move (s_3.trans e84_3))
      refine steps_cons (fun own a wx hf hsl hE => ?_) ?_
      · obtain ⟨s_0, -⟩ := hsl
        exact sg_plain rfl rfl (or_move (s_0.trans e84_0))
      refine steps_cons (fun own a wx hf hsl hE => ?_) ?_
      · obtain ⟨(f_5 : a.eval (.tmp 5) = .slice Al1 l1.length cl1), -⟩ := hf
        exact sg_plain rfl rfl (or_len tu55 f_5 rfl)
      refine steps_cons (fun own a wx hf hsl hE => ?_) ?_
      · obtain ⟨(f_4 : a.eval (.tmp 4) = .int .i64 i70), (f_6 : a.eval (.tmp 6) = .int .i64 (l1.length : Int)), -⟩ := hf
        exact sg_plain rfl rfl (or_lss f_4 f_6 rfl)
      exact steps_nil
    intro own86 a86 w86 hd86 hz86 hk86 hf86 hE86
    have e86_0 : a86.eval (.tmp 0) = .slice Al1 l1.length cl1 := (hk86 0 rfl).trans e84_0
    have e86_3 : a86.eval (.tmp 3) = .int .i64 i70 := (hk86 3 rfl).trans e84_3
    obtain ⟨(f_7 : a86.eval (.tmp 7) = .bool (decide (i70 < (l1.length : Int)))), -⟩ := hf86 [3] rfl
    have e86_7 := f_7
    have hX86 := Evo.step hE84 (fun _ => Nat.le_refl 0) hE86 rfl
    have b86_Al1 := RdO.evo rfl hE86 b84_Al1
    refine fl_cond e86_7 hs (fun c87 hs => ?_) (fun c87 hs => ?_)
    · refine fl_skip ?_
      refine hn85 _ _ ?_
      refine fl_seq (fun Q88 hn88 hp88 => ?_)
      refine fl_block (fun Q89 hn89 hx89 hp89 => ?_)
      obtain ⟨x90, hx90, hs⟩ := obind hs
      obtain ⟨r91, hr91, hs⟩ := obind hs
      refine rg_plain_seq (n := 16) (rs := []) (own0 := own86) (K := [])
          (bs := [0, 0, 3, 7, 15, 31])
          (ds := [⟨[], [0], [], Fct.val 10 (.slice Al1 l1.length cl1)⟩,
          ⟨[], [3], [], Fct.val 11 (.int .i64 i70)⟩,
          ⟨[0, 1], [], [], Fct.val 12 (.pointer (some ((adr Al1).add ((i70 : Int).toNat * R43.s))))⟩,
          ⟨[2], [], [], Fct.val 13 (.agg #[.int .i64 x90.1, .int .i64 x90.2])⟩,
          ⟨[3], [], [], Fct.val 14 (.bool r91)⟩,
          ⟨[4], [], [], Fct.val 15 (.bool (!r91))⟩]) (by kernel_rfl) hz86 hd86 (fun _ h => nomatch h) ?_ ?_
      · refine steps_cons (fun own a wx hf hsl hE => ?_) ?_
        · obtain ⟨s_0, -⟩ := hsl
          exact sg_plain rfl rfl (or_move (s_0.trans e86_0))
        refine steps_cons (fun own a wx hf hsl hE => ?_) ?_
        · obtain ⟨s_3, -⟩ := hsl
          exact sg_plain rfl rfl (or_move (s_3.trans e86_3))
        refine steps_cons (fun own a wx hf hsl hE => ?_) ?_
        · obtain ⟨(f_10 : a.eval (.tmp 10) = .slice Al1 l1.length cl1), (f_11 : a.eval (.tmp 11) = .int .i64 i70), -⟩ := hf
          exact sg_plain rfl rfl (or_index (R := R43) (l := l1) tl55 f_10 f_11 (RdO.some_ b86_Al1 hx90) hx90)
        refine steps_cons (fun own a wx hf hsl hE => ?_) ?_
        · obtain ⟨(f_12 : a.eval (.tmp 12) = .pointer (some ((adr Al1).add ((i70 : Int).toNat * R43.s)))), -⟩ := hf
          exact sg_plain rfl rfl (or_load (l := E43.f x90) ta43 f_12 (RdO.cells (F := E43) (RdO.evo rfl hE b86_Al1) hx90) rfl)
        refine steps_cons (fun own a wx hf hsl hE => ?_) ?_
        · obtain ⟨(f_13 : a.eval (.tmp 13) = .agg #[.int .i64 x90.1, .int .i64 x90.2]), -⟩ := hf
          exact sg_plain rfl rfl (or_call cf31 (args1 f_13) (ref01_May_w _ x90  r91 hr91) post_val)
        refine steps_cons (fun own a wx hf hsl hE => ?_) ?_
        · obtain ⟨(f_14 : a.eval (.tmp 14) = .bool r91), -⟩ := hf
          exact sg_plain rfl rfl (or_not f_14 rfl)
        exact steps_nil
      intro own92 a92 w92 hd92 hz92 hk92 hf92 hE92
      have e92_0 : a92.eval (.tmp 0) = .slice Al1 l1.length cl1 := (hk92 0 rfl).trans e86_0
      have e92_3 : a92.eval (.tmp 3) = .int .i64 i70 := (hk92 3 rfl).trans e86_3
      obtain ⟨(f_15 : a92.eval (.tmp 15) = .bool (!r91)), -⟩ := hf92 [5] rfl
      have e92_15 := f_15
      have hX92 := Evo.step hX86 (fun _ => Nat.le_refl 0) hE92 rfl
      have b92_Al1 := RdO.evo rfl hE92 b86_Al1
      refine fl_cond e92_15 hs (fun c93 hs => ?_) (fun c93 hs => ?_)
      · refine rg_plain_seq (n := 16) (rs := []) (own0 := own92) (K := [])
            (bs := [0])
            (ds := [⟨[], [], [], Fct.val 2 (.bool false)⟩]) (by kernel_rfl) hz92 hd92 (fun _ h => nomatch h) ?_ ?_
        · refine steps_cons (fun own a wx hf hsl hE => ?_) ?_
          · exact sg_plain rfl rfl (or_assign rfl)
          exact steps_nil
        intro own94 a94 w94 hd94 hz94 hk94 hf94 hE94
        obtain ⟨(f_2 : a94.eval (.tmp 2) = .bool false), -⟩ := hf94 [0] rfl
        have e94_2 := f_2
        have hX94 := Evo.step hX92 (fun _ => Nat.le_refl 0) hE94 rfl
        refine fl_ret ?_
        refine hp89 _ _ _ rfl ?_
        refine hp88 _ _ _ rfl ?_
        replace hs := hz83 _ hs
        refine hp83 _ _ _ rfl ?_
        refine hp57 _ _ _ rfl ?_
        refine hp55 _ _ _ rfl ?_
        obtain rfl := osome hs
        exact hret _ _ _ _ (.inl rfl) hd94 (results1_ rfl (RVal.tmp_ e94_2)) ⟨own94, rfl, hX94⟩
      refine fl_skip ?_
      refine hn89 _ _ ?_
      refine hn88 _ _ ?_
      refine rg_plain (n := 16) (rs := []) (own0 := own92) (K := [])
          (bs := [0, 1, 3])
          (ds := [⟨[], [3], [], Fct.val 8 (.int .i64 i70)⟩,
          ⟨[0], [], [], Fct.val 9 (.int .i64 (ad i70 1))⟩,
          ⟨[1], [], [], Fct.val 3 (.int .i64 (ad i70 1))⟩]) (by kernel_rfl) hz92 hd92 (fun _ h => nomatch h) ?_ ?_
      · refine steps_cons (fun own a wx hf hsl hE => ?_) ?_
        · obtain ⟨s_3, -⟩ := hsl
          exact sg_plain rfl rfl (or_move (s_3.trans e92_3))
        refine steps_cons (fun own a wx hf hsl hE => ?_) ?_
        · obtain ⟨(f_8 : a.eval (.tmp 8) = .int .i64 i70), -⟩ := hf
          exact sg_plain rfl rfl (or_add f_8 rfl rfl)
        refine steps_cons (fun own a wx hf hsl hE => ?_) ?_
        · obtain ⟨(f_9 : a.eval (.tmp 9) = .int .i64 (ad i70 1)), -⟩ := hf
          exact sg_plain rfl rfl (or_assign f_9)
        exact steps_nil
      intro own95 a95 w95 hd95 hz95 hk95 hf95 hE95
      have e95_0 : a95.eval (.tmp 0) = .slice Al1 l1.length cl1 := (hk95 0 rfl).trans e92_0
      obtain ⟨(f_3 : a95.eval (.tmp 3) = .int .i64 (ad i70 1)), -⟩ := hf95 [2] rfl
      have e95_3 := f_3
      have hX95 := Evo.step hX92 (fun _ => Nat.le_refl 0) hE95 rfl
      have b95_Al1 := RdO.evo rfl hE95 b92_Al1
      exact hn83 _ _ _ hs ⟨own95, hd95, hz95, e95_0, e95_3, hX95, b95_Al1⟩
    refine fl_exit ?_
    refine hp85 _ _ _ rfl ?_
    replace hs := hz83 _ hs
    refine hp83 _ _ _ rfl ?_
    refine hx57 _ _ ?_
    refine hn55 _ _ ?_
    refine rg_plain_seq (n := 16) (rs := []) (own0 := own86) (K := [])
        (bs := [0])
        (ds := [⟨[], [], [], Fct.val 2 (.bool true)⟩]) (by kernel_rfl) hz86 hd86 (fun _ h => nomatch h) ?_ ?_
    · refine steps_cons (fun own a wx hf hsl hE => ?_) ?_
      · exact sg_plain rfl rfl (or_assign rfl)
      exact steps_nil
    intro own96 a96 w96 hd96 hz96 hk96 hf96 hE96
    obtain ⟨(f_2 : a96.eval (.tmp 2) = .bool true), -⟩ := hf96 [0] rfl
    have e96_2 := f_2
    have hX96 := Evo.step hX86 (fun _ => Nat.le_refl 0) hE96 rfl
    refine fl_ret ?_
    obtain rfl := osome hs
    exact hret _ _ _ _ (.inl rfl) hd96 (results1_ rfl (RVal.tmp_ e96_2)) ⟨own96, rfl, hX96⟩

set_option maxHeartbeats 2000000 in
theorem law06_RowsMeet_w (w : World) (x1 : (Int × Int) × (Int × Int)) (b2 : (Int × Int) × (Int × Int)) (l3 : List (Int × Int)) (Al3 : Option Addr) (cl3 : Nat) (hl3 : RdO (fun _ => 0) [0] w R24 Al3 cl3 l3) (r : Bool) (hs : law06_RowsMeet x1 b2 l3 = some r) :
    Calls Try.prog 6 #[.agg #[.int .i64 x1.1.1, .int .i64 x1.1.2, .int .i64 x1.2.1, .int .i64 x1.2.2], .agg #[.int .i64 b2.1.1, .int .i64 b2.1.2, .int .i64 b2.2.1, .int .i64 b2.2.2], .slice Al3 l3.length cl3] w fun e w' => ∃ own' : Own, e = .returned (.bool r) ∧ Evo [] (fun _ => 0) own' w w' := by
  refine fl_enter (n := 91) rfl rfl rfl (Nat.le_of_ble_eq_true rfl) ?_
  intro a0 Q hd0 hz0 harg hret
  have ha0 := harg 0 _ rfl
  have ha1 := harg 1 _ rfl
  have ha2 := harg 2 _ rfl
  clear harg
  have hE0 : Evo [] (fun _ => 0) (fun _ => 0) w w := Evo.refl _ _ _
  refine rg_plain_seq (n := 91) (rs := []) (own0 := (fun _ => 0)) (K := [])
      (bs := [0, 0, 0])
      (ds := [⟨[], [0], [], Fct.blk 92 3 (fun g => .pointer (some ⟨g, 0, none⟩)) 26 #[.int .i64 x1.1.1, .int .i64 x1.1.2, .int .i64 x1.2.1, .int .i64 x1.2.2]⟩,
      ⟨[], [1], [], Fct.blk 94 4 (fun g => .pointer (some ⟨g, 0, none⟩)) 26 #[.int .i64 b2.1.1, .int .i64 b2.1.2, .int .i64 b2.2.1, .int .i64 b2.2.2]⟩,
      ⟨[], [], [], Fct.val 6 (.bool false)⟩]) (by kernel_rfl) hz0 hd0 (fun _ h => nomatch h) ?_ ?_
  · refine steps_cons (fun own a wx hf hsl hE => ?_) ?_
    · obtain ⟨s_0, -⟩ := hsl
      exact sg_plain rfl rfl (or_new [(0, .agg #[.int .i64 x1.1.1, .int .i64 x1.1.2, .int .i64 x1.2.1, .int .i64 x1.2.2])] rfl rfl ⟨(s_0.trans ha0), trivial⟩ (by kernel_rfl))
    refine steps_cons (fun own a wx hf hsl hE => ?_) ?_
    · obtain ⟨s_1, -⟩ := hsl
      exact sg_plain rfl rfl (or_new [(1, .agg #[.int .i64 b2.1.1, .int .i64 b2.1.2, .int .i64 b2.2.1, .int .i64 b2.2.2])] rfl rfl ⟨(s_1.trans ha1), trivial⟩ (by kernel_rfl))
    refine steps_cons (fun own a wx hf hsl hE => ?_) ?_
    · exact sg_plain rfl rfl (or_assign rfl)
    exact steps_nil
  intro own95 a95 w95 hd95 hz95 hk95 hf95 hE95
  have e95_2 : a95.eval (.tmp 2) = .slice Al3 l3.length cl3 := (hk95 2 rfl).trans ha2
  obtain ⟨⟨g91, (f_3 : a95.eval (.tmp 3) = .pointer (some ⟨g91, 0, none⟩)), (b_g91 : BlkO own95 92 w95 g91 26 #[.int .i64 x1.1.1, .int .i64 x1.1.2, .int .i64 x1.2.1, .int .i64 x1.2.2])⟩, ⟨g93, (f_4 : a95.eval (.tmp 4) = .pointer (some ⟨g93, 0, none⟩)), (b_g93 : BlkO own95 94 w95 g93 26 #[.int .i64 b2.1.1, .int .i64 b2.1.2, .int .i64 b2.2.1, .int .i64 b2.2.2])⟩, -⟩ := hf95 [0, 1] rfl
  have e95_3 := f_3
  have e95_4 := f_4
  have hX95 := Evo.step hE0 (fun _ => Nat.le_refl 0) hE95 rfl
  have b95_Al3 := RdO.evo rfl hE95 hl3
  have b95_g91 := b_g91
  have b95_g93 := b_g93
  obtain ⟨x96, hx96, hs⟩ := obind hs
  refine rg_plain_seq (n := 91) (rs := []) (own0 := own95) (K := [])
      (bs := [0, 0, 2, 6, 15, 31])
      (ds := [⟨[], [2], [], Fct.val 11 (.slice Al3 l3.length cl3)⟩,
      ⟨[], [2], [], Fct.val 12 (.slice Al3 l3.length cl3)⟩,
      ⟨[1], [], [], Fct.val 13 (.int .i64 (l3.length : Int))⟩,
      ⟨[2], [], [], Fct.val 14 (.int .i64 (mn (l3.length : Int) 30))⟩,
      ⟨[0, 3], [], [], Fct.view [0] 15 R24 x96⟩,
      ⟨[4], [], [], Fct.rel [2, 15] (fun l => ∀ (A97 : Option Addr) (cA97 : Nat), l.getD 1 undef = .slice A97 x96.length cA97 → l.getD 0 undef = .slice A97 x96.length cA97)⟩]) (by kernel_rfl) hz95 hd95 (fun _ h => nomatch h) ?_ ?_
  · refine steps_cons (fun own a wx hf hsl hE => ?_) ?_
    · obtain ⟨s_2, -⟩ := hsl
      exact sg_plain rfl rfl (or_move (s_2.trans e95_2))
    refine steps_cons (fun own a wx hf hsl hE => ?_) ?_
    · obtain ⟨s_2, -⟩ := hsl
      exact sg_plain rfl rfl (or_move (s_2.trans e95_2))
    refine steps_cons (fun own a wx hf hsl hE => ?_) ?_
    · obtain ⟨(f_12 : a.eval (.tmp 12) = .slice Al3 l3.length cl3), -⟩ := hf
      exact sg_plain rfl rfl (or_len tu53 f_12 rfl)
    refine steps_cons (fun own a wx hf hsl hE => ?_) ?_
    · obtain ⟨(f_13 : a.eval (.tmp 13) = .int .i64 (l3.length : Int)), -⟩ := hf
      exact sg_plain rfl rfl (or_min f_13 rfl)
    refine steps_cons (fun own a wx hf hsl hE => ?_) ?_
    · obtain ⟨(f_11 : a.eval (.tmp 11) = .slice Al3 l3.length cl3), (f_14 : a.eval (.tmp 14) = .int .i64 (mn (l3.length : Int) 30)), -⟩ := hf
      exact sg_plain rfl rfl (or_view (R := R24) (l := l3) (L := [0]) tu53 ts24 f_11 Bnd.none_ (Bnd.some_ f_14) Bnd.none_ (RdO.evo rfl hE b95_Al3) hx96 (.inl rfl) (by simp))
    refine steps_cons (fun own a wx hf hsl hE => ?_) ?_
    · obtain ⟨⟨⟨A97, cA97⟩, (f_15 : a.eval (.tmp 15) = .slice A97 x96.length cA97), (b_A97 : RdO own [0] wx R24 A97 cA97 x96)⟩, -⟩ := hf
      exact sg_plain rfl rfl (or_mono (f := Fct.val 2 (.slice A97 x96.length cA97)) (or_assign f_15) (fun own' a' w' v' hp h => fun _ _ h0' => by cases (f_15.symm.trans ((hp.2 15 (by decide)).symm.trans h0')); exact h))
    exact steps_nil
  intro own98 a98 w98 hd98 hz98 hk98 hf98 hE98
  have e98_3 : a98.eval (.tmp 3) = .pointer (some ⟨g91, 0, none⟩) := (hk98 3 rfl).trans e95_3
  have e98_4 : a98.eval (.tmp 4) = .pointer (some ⟨g93, 0, none⟩) := (hk98 4 rfl).trans e95_4
  obtain ⟨⟨⟨A97, cA97⟩, (f_15 : a98.eval (.tmp 15) = .slice A97 x96.length cA97), (b_A97 : RdO own98 [0] w98 R24 A97 cA97 x96)⟩, (q_2 : ∀ (A97 : Option Addr) (cA97 : Nat), a98.eval (.tmp 15) = .slice A97 x96.length cA97 → a98.eval (.tmp 2) = .slice A97 x96.length cA97), -⟩ := hf98 [4, 5] rfl
  have f_2 := q_2 _ _ f_15
  have e98_2 := f_2
  have hX98 := Evo.step hX95 (fun _ => Nat.le_refl 0) hE98 rfl
  have b98_g91 := BlkO.evo (by decide) hE98 b95_g91
  have b98_g93 := BlkO.evo (by decide) hE98 b95_g93
  have b98_A97 := b_A97
  obtain ⟨r99, hr99, hs⟩ := obind hs
  refine rg_plain_seq (n := 91) (rs := []) (own0 := own98) (K := [101])
      (bs := [0, 1, 3, 7, 7, 0, 47, 127])
      (ds := [⟨[], [2], [], Fct.val 17 (.slice A97 x96.length cA97)⟩,
      ⟨[0], [], [], Fct.val 18 (.tuple #[.agg #[.int .i64 r99.1.1.1, .int .i64 r99.1.1.2, .int .i64 r99.1.2.1, .int .i64 r99.1.2.2], .bool r99.2])⟩,
      ⟨[1], [], [], Fct.val 16 (.tuple #[.agg #[.int .i64 r99.1.1.1, .int .i64 r99.1.1.2, .int .i64 r99.1.2.1, .int .i64 r99.1.2.2], .bool r99.2])⟩,
      ⟨[2], [], [], Fct.val 19 (.agg #[.int .i64 r99.1.1.1, .int .i64 r99.1.1.2, .int .i64 r99.1.2.1, .int .i64 r99.1.2.2])⟩,
      ⟨[2], [], [], Fct.val 20 (.bool r99.2)⟩,
      ⟨[], [], [], Fct.blk 101 7 (fun g => .pointer (some ⟨g, 0, none⟩)) 26 #[.int .i64 0, .int .i64 0, .int .i64 0, .int .i64 0]⟩,
      ⟨[5, 3], [], [101], Fct.blk 102 7 (fun g => .pointer (some ⟨g, 0, none⟩)) 26 #[.int .i64 r99.1.1.1, .int .i64 r99.1.1.2, .int .i64 r99.1.2.1, .int .i64 r99.1.2.2]⟩,
      ⟨[4], [], [], Fct.val 8 (.bool r99.2)⟩]) (by kernel_rfl) hz98 hd98 (fun _ h => nomatch h) ?_ ?_
  · refine steps_cons (fun own a wx hf hsl hE => ?_) ?_
    · obtain ⟨s_2, -⟩ := hsl
      exact sg_plain rfl rfl (or_move (s_2.trans e98_2))
    refine steps_cons (fun own a wx hf hsl hE => ?_) ?_
    · obtain ⟨(f_17 : a.eval (.tmp 17) = .slice A97 x96.length cA97), -⟩ := hf
      exact sg_plain rfl rfl (or_call cf21 (args1 f_17) (rows_Of_w _ x96 A97 cA97 (RdO.zero (RdO.evo rfl hE b98_A97)) r99 hr99) post_val)
    refine steps_cons (fun own a wx hf hsl hE => ?_) ?_
    · obtain ⟨(f_18 : a.eval (.tmp 18) = .tuple #[.agg #[.int .i64 r99.1.1.1, .int .i64 r99.1.1.2, .int .i64 r99.1.2.1, .int .i64 r99.1.2.2], .bool r99.2]), -⟩ := hf
      exact sg_plain rfl rfl (or_move f_18)
    refine steps_cons (fun own a wx hf hsl hE => ?_) ?_
    · obtain ⟨(f_16 : a.eval (.tmp 16) = .tuple #[.agg #[.int .i64 r99.1.1.1, .int .i64 r99.1.1.2, .int .i64 r99.1.2.1, .int .i64 r99.1.2.2], .bool r99.2]), -⟩ := hf
      exact sg_plain rfl rfl (or_k [(16, .tuple #[.agg #[.int .i64 r99.1.1.1, .int .i64 r99.1.1.2, .int .i64 r99.1.2.1, .int .i64 r99.1.2.2], .bool r99.2])] rfl rfl ⟨f_16, trivial⟩ (by kernel_rfl))
    refine steps_cons (fun own a wx hf hsl hE => ?_) ?_
    · obtain ⟨(f_16 : a.eval (.tmp 16) = .tuple #[.agg #[.int .i64 r99.1.1.1, .int .i64 r99.1.1.2, .int .i64 r99.1.2.1, .int .i64 r99.1.2.2], .bool r99.2]), -⟩ := hf
      exact sg_plain rfl rfl (or_k [(16, .tuple #[.agg #[.int .i64 r99.1.1.1, .int .i64 r99.1.1.2, .int .i64 r99.1.2.1, .int .i64 r99.1.2.2], .bool r99.2])] rfl rfl ⟨f_16, trivial⟩ (by kernel_rfl))
    refine steps_cons (fun own a wx hf hsl hE => ?_) ?_
    · exact sg_plain rfl rfl (or_new [] rfl rfl trivial (by kernel_rfl))
    refine steps_cons (fun own a wx hf hsl hE => ?_) ?_
    · obtain ⟨⟨g100, (f_7 : a.eval (.tmp 7) = .pointer (some ⟨g100, 0, none⟩)), (b_g100 : BlkO own 101 wx g100 26 #[.int .i64 0, .int .i64 0, .int .i64 0, .int .i64 0])⟩, (f_19 : a.eval (.tmp 19) = .agg #[.int .i64 r99.1.1.1, .int .i64 r99.1.1.2, .int .i64 r99.1.2.1, .int .i64 r99.1.2.2]), -⟩ := hf
      exact sg_plain rfl rfl (or_store (l := #[.int .i64 r99.1.1.1, .int .i64 r99.1.1.2, .int .i64 r99.1.2.1, .int .i64 r99.1.2.2]) (lab := 101) (lab2 := 102) ts26 f_7 f_19 b_g100 (by simp) (by kernel_rfl) (mem_of rfl) (by decide) (by kernel_rfl) (fun own' a' w' ha hb => ⟨_, (ha 7).trans f_7, hb⟩))
    refine steps_cons (fun own a wx hf hsl hE => ?_) ?_
    · obtain ⟨(f_20 : a.eval (.tmp 20) = .bool r99.2), -⟩ := hf
      exact sg_plain rfl rfl (or_assign f_20)
    exact steps_nil
  intro own103 a103 w103 hd103 hz103 hk103 hf103 hE103
  have e103_2 : a103.eval (.tmp 2) = .slice A97 x96.length cA97 := (hk103 2 rfl).trans e98_2
  have e103_3 : a103.eval (.tmp 3) = .pointer (some ⟨g91, 0, none⟩) := (hk103 3 rfl).trans e98_3
  have e103_4 : a103.eval (.tmp 4) = .pointer (some ⟨g93, 0, none⟩) := (hk103 4 rfl).trans e98_4
  obtain ⟨⟨g100, (f_7 : a103.eval (.tmp 7) = .pointer (some ⟨g100, 0, none⟩)), (b_g100 : BlkO own103 102 w103 g100 26 #[.int .i64 r99.1.1.1, .int .i64 r99.1.1.2, .int .i64 r99.1.2.1, .int .i64 r99.1.2.2])⟩, (f_8 : a103.eval (.tmp 8) = .bool r99.2), -⟩ := hf103 [6, 7] rfl
  have e103_7 := f_7
  have e103_8 := f_8
  have hX103 := Evo.step hX98 (fun _ => Nat.le_refl 0) hE103 rfl
  have b103_g91 := BlkO.evo (by decide) hE103 b98_g91
  have b103_g93 := BlkO.evo (by decide) hE103 b98_g93
  have b103_A97 := RdO.evo rfl hE103 b98_A97
  have b103_g100 := b_g100
  obtain ⟨r104, hr104, hs⟩ := obind hs
  refine rg_plain_seq (n := 91) (rs := []) (own0 := own103) (K := [])
      (bs := [0, 1, 3])
      (ds := [⟨[], [2], [], Fct.val 21 (.slice A97 x96.length cA97)⟩,
      ⟨[0], [], [], Fct.row 106 [] 22 43 R43 r104⟩,
      ⟨[1], [], [], Fct.rel [9, 22] (fun l => ∀ (A105 : Option Addr) (cA105 : Nat), l.getD 1 undef = .slice A105 r104.length cA105 → l.getD 0 undef = .slice A105 r104.length cA105)⟩]) (by kernel_rfl) hz103 hd103 (fun _ h => nomatch h) ?_ ?_
  · refine steps_cons (fun own a wx hf hsl hE => ?_) ?_
    · obtain ⟨s_2, -⟩ := hsl
      exact sg_plain rfl rfl (or_move (s_2.trans e103_2))
    refine steps_cons (fun own a wx hf hsl hE => ?_) ?_
    · obtain ⟨(f_21 : a.eval (.tmp 21) = .slice A97 x96.length cA97), -⟩ := hf
      exact sg_plain rfl rfl (or_call cf22 (args1 f_21) (law01_Ofs_w _ x96 A97 cA97 (RdO.zero (RdO.evo rfl hE b103_A97)) r104 hr104) (post_row (m' := (look0 [(1, 106)])) (.inl (Rep.fl_flat _)) rfl rfl (fun _ => rfl)))
    refine steps_cons (fun own a wx hf hsl hE => ?_) ?_
    · obtain ⟨⟨⟨A105, cA105⟩, (f_22 : a.eval (.tmp 22) = .slice A105 r104.length cA105), (b_A105 : RwO own 106 [] wx 43 R43 A105 cA105 r104)⟩, -⟩ := hf
      exact sg_plain rfl rfl (or_mono (f := Fct.val 9 (.slice A105 r104.length cA105)) (or_assign f_22) (fun own' a' w' v' hp h => fun _ _ h0' => by cases (f_22.symm.trans ((hp.2 22 (by decide)).symm.trans h0')); exact h))
    exact steps_nil
  intro own107 a107 w107 hd107 hz107 hk107 hf107 hE107
  have e107_2 : a107.eval (.tmp 2) = .slice A97 x96.length cA97 := (hk107 2 rfl).trans e103_2
  have e107_3 : a107.eval (.tmp 3) = .pointer (some ⟨g91, 0, none⟩) := (hk107 3 rfl).trans e103_3
  have e107_4 : a107.eval (.tmp 4) = .pointer (some ⟨g93, 0, none⟩) := (hk107 4 rfl).trans e103_4
  have e107_7 : a107.eval (.tmp 7) = .pointer (some ⟨g100, 0, none⟩) := (hk107 7 rfl).trans e103_7
  have e107_8 : a107.eval (.tmp 8) = .bool r99.2 := (hk107 8 rfl).trans e103_8
  obtain ⟨⟨⟨A105, cA105⟩, (f_22 : a107.eval (.tmp 22) = .slice A105 r104.length cA105), (b_A105 : RwO own107 106 [] w107 43 R43 A105 cA105 r104)⟩, (q_9 : ∀ (A105 : Option Addr) (cA105 : Nat), a107.eval (.tmp 22) = .slice A105 r104.length cA105 → a107.eval (.tmp 9) = .slice A105 r104.length cA105), -⟩ := hf107 [1, 2] rfl
  have f_9 := q_9 _ _ f_22
  have e107_9 := f_9
  have hX107 := Evo.step hX103 (fun _ => Nat.le_refl 0) hE107 rfl
  have b107_g91 := BlkO.evo (by decide) hE107 b103_g91
  have b107_g93 := BlkO.evo (by decide) hE107 b103_g93
  have b107_A97 := RdO.evo rfl hE107 b103_A97
  have b107_g100 := BlkO.evo (by decide) hE107 b103_g100
  have b107_A105 := b_A105
  refine fl_seq (fun Q108 hn108 hp108 => ?_)
  obtain ⟨r109, hr109, hs⟩ := obind hs
  obtain ⟨x110, hx110, hs⟩ := obind hs
  obtain ⟨x111, hx111, hs⟩ := obind hs
  refine rg_plain_seq (n := 91) (rs := []) (own0 := own107) (K := [])
      (bs := [0, 0, 2, 6, 14, 30, 62, 126, 255, 511, 1023, 2047, 4095, 8191, 8191, 32767, 65535, 131071])
      (ds := [⟨[], [8], [], Fct.val 23 (.bool r99.2)⟩,
      ⟨[], [9], [], Fct.val 24 (.slice A105 r104.length cA105)⟩,
      ⟨[1], [], [], Fct.val 25 (.int .i64 (r104.length : Int))⟩,
      ⟨[2], [], [], Fct.val 26 (.bool (decide (0 < (r104.length : Int))))⟩,
      ⟨[3], [], [], Fct.val 27 (.bool (decide (0 < (r104.length : Int))))⟩,
      ⟨[4], [9], [], Fct.cond (decide (0 < (r104.length : Int))) (some 28) (Fct.val 28 (.slice A105 r104.length cA105))⟩,
      ⟨[4, 5], [], [], Fct.cond (decide (0 < (r104.length : Int))) (some 29) (Fct.val 29 (.bool r109))⟩,
      ⟨[4, 6], [], [], Fct.val 30 (.bool x110)⟩,
      ⟨[0, 7], [], [], Fct.val 31 (.bool (!(r99.2 == x110)))⟩,
      ⟨[8], [], [], Fct.val 32 (.bool (!(r99.2 == x110)))⟩,
      ⟨[9], [8], [], Fct.cond (!(!(r99.2 == x110))) (some 33) (Fct.val 33 (.bool r99.2))⟩,
      ⟨[9, 10], [], [], Fct.cond (!(!(r99.2 == x110))) (some 34) (Fct.val 34 (.bool (!r99.2)))⟩,
      ⟨[9, 11], [], [], Fct.cond (!(!(r99.2 == x110))) (some 35) (Fct.val 35 (.bool (!r99.2)))⟩,
      ⟨[12], [7], [], Fct.cond ((!(!(r99.2 == x110))) && (!r99.2)) (some 36) (Fct.val 36 (.agg #[.int .i64 r99.1.1.1, .int .i64 r99.1.1.2, .int .i64 r99.1.2.1, .int .i64 r99.1.2.2]))⟩,
      ⟨[12], [], [], Fct.cond ((!(!(r99.2 == x110))) && (!r99.2)) (some 37) (Fct.val 37 (.agg #[.int .i64 0, .int .i64 0, .int .i64 0, .int .i64 0]))⟩,
      ⟨[12, 13, 14], [], [], Fct.cond ((!(!(r99.2 == x110))) && (!r99.2)) (some 38) (Fct.val 38 (.bool (!decide (r99.1 = ((0, 0), (0, 0))))))⟩,
      ⟨[9, 12, 15], [], [], Fct.cond (!(!(r99.2 == x110))) (some 39) (Fct.val 39 (.bool x111))⟩,
      ⟨[9, 16], [], [], Fct.val 40 (.bool ((!(r99.2 == x110)) || x111))⟩]) (by kernel_rfl) hz107 hd107 (fun _ h => nomatch h) ?_ ?_
  · refine steps_cons (fun own a wx hf hsl hE => ?_) ?_
    · obtain ⟨s_8, -⟩ := hsl
      exact sg_plain rfl rfl (or_move (s_8.trans e107_8))
    refine steps_cons (fun own a wx hf hsl hE => ?_) ?_
    · obtain ⟨s_9, -⟩ := hsl
      exact sg_plain rfl rfl (or_move (s_9.trans e107_9))
    refine steps_cons (fun own a wx hf hsl hE => ?_) ?_
    · obtain ⟨(f_24 : a.eval (.tmp 24) = .slice A105 r104.length cA105), -⟩ := hf
      exact sg_plain rfl rfl (or_len tu55 f_24 rfl)
    refine steps_cons (fun own a wx hf hsl hE => ?_) ?_
    · obtain ⟨(f_25 : a.eval (.tmp 25) = .int .i64 (r104.length : Int)), -⟩ := hf
      exact sg_plain rfl rfl (or_gtr f_25 rfl rfl)
    refine steps_cons (fun own a wx hf hsl hE => ?_) ?_
    · obtain ⟨(f_26 : a.eval (.tmp 26) = .bool (decide (0 < (r104.length : Int)))), -⟩ := hf
      exact sg_plain rfl rfl (or_move f_26)
    refine steps_cons (fun own a wx hf hsl hE => ?_) ?_
    · obtain ⟨(f_27 : a.eval (.tmp 27) = .bool (decide (0 < (r104.length : Int)))), -⟩ := hf
      obtain ⟨s_9, -⟩ := hsl
      refine sg_t rfl rfl rfl f_27 (fun hg => ?_)
      exact or_move (s_9.trans e107_9)
    refine steps_cons (fun own a wx hf hsl hE => ?_) ?_
    · obtain ⟨(f_27 : a.eval (.tmp 27) = .bool (decide (0 < (r104.length : Int)))), c_28, -⟩ := hf
      refine sg_t rfl rfl rfl f_27 (fun hg => ?_)
      have f_28 : a.eval (.tmp 28) = .slice A105 r104.length cA105 := c_28.1 hg
      exact or_call cf23 (args1 f_28) (ref01_All_w _ r104 A105 cA105 (RdO.zero (RwO.rd (RwO.evo rfl hE b107_A105))) r109 (gd_t hr109 hg)) post_val
    refine steps_cons (fun own a wx hf hsl hE => ?_) ?_
    · obtain ⟨(f_27 : a.eval (.tmp 27) = .bool (decide (0 < (r104.length : Int)))), c_29, -⟩ := hf
      exact sg_plain rfl rfl (or_and f_27 (fun hx => c_29.1 hx) rfl (osome hx110).symm)
    refine steps_cons (fun own a wx hf hsl hE => ?_) ?_
    · obtain ⟨(f_23 : a.eval (.tmp 23) = .bool r99.2), (f_30 : a.eval (.tmp 30) = .bool x110), -⟩ := hf
      exact sg_plain rfl rfl (or_neqb tb4 f_23 f_30 rfl)
    refine steps_cons (fun own a wx hf hsl hE => ?_) ?_
    · obtain ⟨(f_31 : a.eval (.tmp 31) = .bool (!(r99.2 == x110))), -⟩ := hf
      exact sg_plain rfl rfl (or_move f_31)
    refine steps_cons (fun own a wx hf hsl hE => ?_) ?_
    · obtain ⟨(f_32 : a.eval (.tmp 32) = .bool (!(r99.2 == x110))), -⟩ := hf
      obtain ⟨s_8, -⟩ := hsl
      refine sg_f rfl rfl rfl f_32 (fun hg => ?_)
      exact or_move (s_8.trans e107_8)
    refine steps_cons (fun own a wx hf hsl hE => ?_) ?_
    · obtain ⟨(f_32 : a.eval (.tmp 32) = .bool (!(r99.2 == x110))), c_33, -⟩ := hf
      refine sg_f rfl rfl rfl f_32 (fun hg => ?_)
      have f_33 : a.eval (.tmp 33) = .bool r99.2 := c_33.1 hg
      exact or_not f_33 rfl
    refine steps_cons (fun own a wx hf hsl hE => ?_) ?_
    · obtain ⟨(f_32 : a.eval (.tmp 32) = .bool (!(r99.2 == x110))), c_34, -⟩ := hf
      refine sg_f rfl rfl rfl f_32 (fun hg => ?_)
      have f_34 : a.eval (.tmp 34) = .bool (!r99.2) := c_34.1 hg
      exact or_move f_34
    refine steps_cons (fun own a wx hf hsl hE => ?_) ?_
    · obtain ⟨c_35, -⟩ := hf
      obtain ⟨s_7, -⟩ := hsl
      refine sg_tc rfl rfl rfl c_35 (fun hg => ?_)
      have f_35 : a.eval (.tmp 35) = .bool (!r99.2) := c_35.1 (gL hg)
      exact or_load (l := [.int .i64 r99.1.1.1, .int .i64 r99.1.1.2, .int .i64 r99.1.2.1, .int .i64 r99.1.2.2]) ta26 (s_7.trans e107_7) (Blk.cellsFrom (BlkO.evo (by decide) hE b107_g100).2 0 rfl) rfl
    refine steps_cons (fun own a wx hf hsl hE => ?_) ?_
    · obtain ⟨c_35, -⟩ := hf
      refine sg_tc rfl rfl rfl c_35 (fun hg => ?_)
      have f_35 : a.eval (.tmp 35) = .bool (!r99.2) := c_35.1 (gL hg)
      exact or_k [] rfl rfl trivial (by kernel_rfl)
    refine steps_cons (fun own a wx hf hsl hE => ?_) ?_
    · obtain ⟨c_35, c_36, c_37, -⟩ := hf
      refine sg_tc rfl rfl rfl c_35 (fun hg => ?_)
      have f_35 : a.eval (.tmp 35) = .bool (!r99.2) := c_35.1 (gL hg)
      have f_36 : a.eval (.tmp 36) = .agg #[.int .i64 r99.1.1.1, .int .i64 r99.1.1.2, .int .i64 r99.1.2.1, .int .i64 r99.1.2.2] := c_36.1 hg
      have f_37 : a.eval (.tmp 37) = .agg #[.int .i64 0, .int .i64 0, .int .i64 0, .int .i64 0] := c_37.1 hg
      exact or_neqA sg26 f_36 f_37 (sn26 r99.1.1.1 r99.1.1.2 r99.1.2.1 r99.1.2.2 0 0 0 0 _) rfl
    refine steps_cons (fun own a wx hf hsl hE => ?_) ?_
    · obtain ⟨(f_32 : a.eval (.tmp 32) = .bool (!(r99.2 == x110))), c_35, c_38, -⟩ := hf
      refine sg_f rfl rfl rfl f_32 (fun hg => ?_)
      have f_35 : a.eval (.tmp 35) = .bool (!r99.2) := c_35.1 hg
      exact or_and f_35 (fun hx => c_38.1 (gI hg hx)) rfl (osome hx111).symm
    refine steps_cons (fun own a wx hf hsl hE => ?_) ?_
    · obtain ⟨(f_32 : a.eval (.tmp 32) = .bool (!(r99.2 == x110))), c_39, -⟩ := hf
      exact sg_plain rfl rfl (or_or f_32 rfl (fun hx => c_39.1 hx) rfl)
    exact steps_nil
  intro own112 a112 w112 hd112 hz112 hk112 hf112 hE112
  have e112_2 : a112.eval (.tmp 2) = .slice A97 x96.length cA97 := (hk112 2 rfl).trans e107_2
  have e112_3 : a112.eval (.tmp 3) = .pointer (some ⟨g91, 0, none⟩) := (hk112 3 rfl).trans e107_3
  have e112_4 : a112.eval (.tmp 4) = .pointer (some ⟨g93, 0, none⟩) := (hk112 4 rfl).trans e107_4
  have e112_7 : a112.eval (.tmp 7) = .pointer (some ⟨g100, 0, none⟩) := (hk112 7 rfl).trans e107_7
  have e112_8 : a112.eval (.tmp 8) = .bool r99.2 := (hk112 8 rfl).trans e107_8
  obtain ⟨(f_40 : a112.eval (.tmp 40) = .bool ((!(r99.2 == x110)) || x111)), -⟩ := hf112 [17] rfl
  have e112_40 := f_40
  have hX112 := Evo.step hX107 (fun _ => Nat.le_refl 0) hE112 rfl
  have b112_g91 := BlkO.evo (by decide) hE112 b107_g91
  have b112_g93 := BlkO.evo (by decide) hE112 b107_g93
  have b112_A97 := RdO.evo rfl hE112 b107_A97
  have b112_g100 := BlkO.evo (by decide) hE112 b107_g100
  refine fl_cond e112_40 hs (fun c113 hs => ?_) (fun c113 hs => ?_)
  · refine rg_plain_seq (n := 91) (rs := []) (own0 := own112) (K := [])
        (bs := [0])
        (ds := [⟨[], [], [], Fct.val 6 (.bool false)⟩]) (by kernel_rfl) hz112 hd112 (fun _ h => nomatch h) ?_ ?_
    · refine steps_cons (fun own a wx hf hsl hE => ?_) ?_
      · exact sg_plain rfl rfl (or_assign rfl)
      exact steps_nil
    intro own114 a114 w114 hd114 hz114 hk114 hf114 hE114
    obtain ⟨(f_6 : a114.eval (.tmp 6) = .bool false), -⟩ := hf114 [0] rfl
    have e114_6 := f_6
    have hX114 := Evo.step hX112 (fun _ => Nat.le_refl 0) hE114 rfl
    refine fl_ret ?_
    refine hp108 _ _ _ rfl ?_
    obtain rfl := osome hs
    exact hret _ _ _ _ (.inl rfl) hd114 (results1_ rfl (RVal.tmp_ e114_6)) ⟨own114, rfl, hX114⟩
  refine fl_skip ?_
  refine hn108 _ _ ?_
  refine fl_seq (fun Q115 hn115 hp115 => ?_)
  refine rg_plain_seq (n := 91) (rs := []) (own0 := own112) (K := [])
      (bs := [0])
      (ds := [⟨[], [], [], Fct.val 10 (.int .i64 0)⟩]) (by kernel_rfl) hz112 hd112 (fun _ h => nomatch h) ?_ ?_
  · refine steps_cons (fun own a wx hf hsl hE => ?_) ?_
    · exact sg_plain rfl rfl (or_assign rfl)
    exact steps_nil
  intro own116 a116 w116 hd116 hz116 hk116 hf116 hE116
  have e116_2 : a116.eval (.tmp 2) = .slice A97 x96.length cA97 := (hk116 2 rfl).trans e112_2
  have e116_3 : a116.eval (.tmp 3) = .pointer (some ⟨g91, 0, none⟩) := (hk116 3 rfl).trans e112_3
  have e116_4 : a116.eval (.tmp 4) = .pointer (some ⟨g93, 0, none⟩) := (hk116 4 rfl).trans e112_4
  have e116_7 : a116.eval (.tmp 7) = .pointer (some ⟨g100, 0, none⟩) := (hk116 7 rfl).trans e112_7
  have e116_8 : a116.eval (.tmp 8) = .bool r99.2 := (hk116 8 rfl).trans e112_8
  obtain ⟨(f_10 : a116.eval (.tmp 10) = .int .i64 0), -⟩ := hf116 [0] rfl
  have e116_10 := f_10
  have hX116 := Evo.step hX112 (fun _ => Nat.le_refl 0) hE116 rfl
  have b116_g91 := BlkO.evo (by decide) hE116 b112_g91
  have b116_g93 := BlkO.evo (by decide) hE116 b112_g93
  have b116_A97 := RdO.evo rfl hE116 b112_A97
  have b116_g100 := BlkO.evo (by decide) hE116 b112_g100
  refine fl_block (fun Q117 hn117 hx117 hp117 => ?_)
  refine fl_loop (body := (fun s => law06_RowsMeet_b1 x1 b2 x96 r99 s)) (z := r) (show loopO _ _ = _ from hs) (fun (i131 : Int) a wx => ∃ (ox : Own), a.defers = [] ∧ a.tmps.size = 91 ∧ a.eval (.tmp 2) = .slice A97 x96.length cA97 ∧ a.eval (.tmp 3) = .pointer (some ⟨g91, 0, none⟩) ∧ a.eval (.tmp 4) = .pointer (some ⟨g93, 0, none⟩) ∧ a.eval (.tmp 7) = .pointer (some ⟨g100, 0, none⟩) ∧ a.eval (.tmp 8) = .bool r99.2 ∧ a.eval (.tmp 10) = .int .i64 i131 ∧ Evo [] (fun _ => 0) ox w wx ∧ RdO ox [0] wx R24 A97 cA97 x96 ∧ BlkO ox 92 wx g91 26 #[.int .i64 x1.1.1, .int .i64 x1.1.2, .int .i64 x1.2.1, .int .i64 x1.2.2] ∧ BlkO ox 94 wx g93 26 #[.int .i64 b2.1.1, .int .i64 b2.1.2, .int .i64 b2.2.1, .int .i64 b2.2.2] ∧ BlkO ox 102 wx g100 26 #[.int .i64 r99.1.1.1, .int .i64 r99.1.1.2, .int .i64 r99.1.2.1, .int .i64 r99.1.2.2]) ?_ ?_
  · exact ⟨own116, hd116, hz116, e116_2, e116_3, e116_4, e116_7, e116_8, e116_10, hX116, b116_A97, b116_g91, b116_g93, b116_g100⟩
  · rintro i131 zz145 a145 w145 ⟨own145, hd146, hz146, e146_2, e146_3, e146_4, e146_7, e146_8, e146_10, hE146, b146_A97, b146_g91, b146_g93, b146_g100⟩ hs Q145 hn145 hp145 hz145
    have hs : law06_RowsMeet_b1 x1 b2 x96 r99 i131 = some zz145 := hs
    refine fl_seq (fun Q147 hn147 hp147 => ?_)
    refine rg_plain_seq (n := 91) (rs := []) (own0 := own145) (K := [])
        (bs := [0, 0, 2, 7])
        (ds := [⟨[], [10], [], Fct.val 41 (.int .i64 i131)⟩,
        ⟨[], [2], [], Fct.val 42 (.slice A97 x96.length cA97)⟩,
        ⟨[1], [], [], Fct.val 43 (.int .i64 (x96.length : Int))⟩,
        ⟨[0, 2], [], [], Fct.val 44 (.bool (decide (i131 < (x96.length : Int))))⟩]) (by kernel_rfl) hz146 hd146 (fun _ h => nomatch h) ?_ ?_
    · refine steps_cons (fun own a wx hf hsl hE => ?_) ?_
      · obtain ⟨s_10, -⟩ := hsl
        exact sg_plain rfl rfl (or_move (s_10.trans e146_10))
      refine steps_cons (fun own a wx hf hsl hE => ?_) ?_
      · obtain ⟨s_2, -⟩ := hsl
        exact sg_plain rfl rfl (or_move (s_2.trans e146_2))
      refine steps_cons (fun own a wx hf hsl hE => ?_) ?_
      · obtain ⟨(f_42 : a.eval (.tmp 42) = .slice A97 x96.length cA97), -⟩ := hf
        exact sg_plain rfl rfl (or_len tu53 f_42 rfl)
      refine steps_cons (fun own a wx hf hsl hE => ?_) ?_
      · obtain ⟨(f_41 : a.eval (.tmp 41) = .int .i64 i131), (f_43 : a.eval (.tmp 43) = .int .i64 (x96.length : Int)), -⟩ := hf
        exact sg_plain rfl rfl (or_lss f_41 f_43 rfl)
      exact steps_nil
    intro own148 a148 w148 hd148 hz148 hk148 hf148 hE148
    have e148_2 : a148.eval (.tmp 2) = .slice A97 x96.length cA97 := (hk148 2 rfl).trans e146_2
    have e148_3 : a148.eval (.tmp 3) = .pointer (some ⟨g91, 0, none⟩) := (hk148 3 rfl).trans e146_3
    have e148_4 : a148.eval (.tmp 4) = .pointer (some ⟨g93, 0, none⟩) := (hk148 4 rfl).trans e146_4
    have e148_7 : a148.eval (.tmp 7) = .pointer (some ⟨g100, 0, none⟩) := (hk148 7 rfl).trans e146_7
    have e148_8 : a148.eval (.tmp 8) = .bool r99.2 := (hk148 8 rfl).trans e146_8
    have e148_10 : a148.eval (.tmp 10) = .int .i64 i131 := (hk148 10 rfl).trans e146_10
    obtain ⟨(f_44 : a148.eval (.tmp 44) = .bool (decide (i131 < (x96.length : Int)))), -⟩ := hf148 [3] rfl
    have e148_44 := f_44
    have hX148 := Evo.step hE146 (fun _ => Nat.le_refl 0) hE148 rfl
    have b148_A97 := RdO.evo rfl hE148 b146_A97
    have b148_g91 := BlkO.evo (by decide) hE148 b146_g91
    have b148_g93 := BlkO.evo (by decide) hE148 b146_g93
    have b148_g100 := BlkO.evo (by decide) hE148 b146_g100
    refine fl_cond e148_44 hs (fun c149 hs => ?_) (fun c149 hs => ?_)
    · refine fl_skip ?_
      refine hn147 _ _ ?_
      refine fl_seq (fun Q150 hn150 hp150 => ?_)
      refine fl_block (fun Q151 hn151 hx151 hp151 => ?_)
      obtain ⟨x152, hx152, hs⟩ := obind hs
      obtain ⟨x153, hx153, hs⟩ := obind hs
      obtain ⟨r154, hr154, hs⟩ := obind hs
      refine rg_draw_seq g_mixed (n := 91) (rs := []) (own0 := own148) (K := [])
          (bs := [0, 1, 3, 3, 3, 27, 59, 3, 3, 387, 899, 2043, 4095, 8191, 16383])
          (ds := [⟨[], [8], [], Fct.val 47 (.bool r99.2)⟩,
          ⟨[0], [], [], Fct.val 48 (.bool r99.2)⟩,
          ⟨[1], [7], [], Fct.cond r99.2 (some 49) (Fct.val 49 (.agg #[.int .i64 r99.1.1.1, .int .i64 r99.1.1.2, .int .i64 r99.1.2.1, .int .i64 r99.1.2.2]))⟩,
          ⟨[1], [2], [], Fct.cond r99.2 (some 50) (Fct.val 50 (.slice A97 x96.length cA97))⟩,
          ⟨[1], [10], [], Fct.cond r99.2 (some 51) (Fct.val 51 (.int .i64 i131))⟩,
          ⟨[1, 3, 4], [], [], Fct.cond r99.2 (some 52) (Fct.val 52 (.pointer (some ((adr A97).add ((i131 : Int).toNat * R24.s)))))⟩,
          ⟨[1, 5], [], [], Fct.cond r99.2 (some 53) (Fct.val 53 (.agg #[.int .i64 x152.1, .int .i64 x152.2]))⟩,
          ⟨[1], [2], [], Fct.cond r99.2 (some 54) (Fct.val 54 (.slice A97 x96.length cA97))⟩,
          ⟨[1], [10], [], Fct.cond r99.2 (some 55) (Fct.val 55 (.int .i64 i131))⟩,
          ⟨[1, 7, 8], [], [], Fct.cond r99.2 (some 56) (Fct.val 56 (.pointer (some ((adr A97).add ((i131 : Int).toNat * R24.s)))))⟩,
          ⟨[1, 9], [], [], Fct.cond r99.2 (some 57) (Fct.val 57 (.agg #[.int .i64 x153.1, .int .i64 x153.2]))⟩,
          ⟨[1, 6, 10], [], [], Fct.cond r99.2 (some 58) (Fct.val 58 (.agg #[.int .i64 x152.1, .int .i64 x152.2, .int .i64 x153.1, .int .i64 x153.2]))⟩,
          ⟨[1, 2, 11], [], [], Fct.cond r99.2 (some 59) (Fct.val 59 (.bool r154))⟩,
          ⟨[1, 12], [], [], Fct.cond r99.2 (some 60) (Fct.val 60 (.bool (!r154)))⟩,
          ⟨[1, 13], [], [], Fct.val 61 (.bool (r99.2 && (!r154)))⟩]) (by kernel_rfl) hz148 hd148 (fun _ h => nomatch h) ?_ ?_
      · refine steps_cons (fun own a wx hf hsl hE => ?_) ?_
        · obtain ⟨s_8, -⟩ := hsl
          exact sg_plain rfl rfl (or_move (s_8.trans e148_8))
        refine steps_cons (fun own a wx hf hsl hE => ?_) ?_
        · obtain ⟨(f_47 : a.eval (.tmp 47) = .bool r99.2), -⟩ := hf
          exact sg_plain rfl rfl (or_move f_47)
        refine steps_cons (fun own a wx hf hsl hE => ?_) ?_
        · obtain ⟨(f_48 : a.eval (.tmp 48) = .bool r99.2), -⟩ := hf
          obtain ⟨s_7, -⟩ := hsl
          refine sg_t rfl rfl rfl f_48 (fun hg => ?_)
          exact or_load (l := [.int .i64 r99.1.1.1, .int .i64 r99.1.1.2, .int .i64 r99.1.2.1, .int .i64 r99.1.2.2]) ta26 (s_7.trans e148_7) (Blk.cellsFrom (BlkO.evo (by decide) hE b148_g100).2 0 rfl) rfl
        refine steps_cons (fun own a wx hf hsl hE => ?_) ?_
        · obtain ⟨(f_48 : a.eval (.tmp 48) = .bool r99.2), -⟩ := hf
          obtain ⟨s_2, -⟩ := hsl
          refine sg_t rfl rfl rfl f_48 (fun hg => ?_)
          exact or_move (s_2.trans e148_2)
        refine steps_cons (fun own a wx hf hsl hE => ?_) ?_
        · obtain ⟨(f_48 : a.eval (.tmp 48) = .bool r99.2), -⟩ := hf
          obtain ⟨s_10, -⟩ := hsl
          refine sg_t rfl rfl rfl f_48 (fun hg => ?_)
          exact or_move (s_10.trans e148_10)
        refine steps_cons (fun own a wx hf hsl hE => ?_) ?_
        · obtain ⟨(f_48 : a.eval (.tmp 48) = .bool r99.2), c_50, c_51, -⟩ := hf
          refine sg_t rfl rfl rfl f_48 (fun hg => ?_)
          have f_50 : a.eval (.tmp 50) = .slice A97 x96.length cA97 := c_50.1 hg
          have f_51 : a.eval (.tmp 51) = .int .i64 i131 := c_51.1 hg
          exact or_index (R := R24) (l := x96) tl53 f_50 f_51 (RdO.some_ b148_A97 (gd_t hx152 hg)) (gd_t hx152 hg)
        refine steps_cons (fun own a wx hf hsl hE => ?_) ?_
        · obtain ⟨(f_48 : a.eval (.tmp 48) = .bool r99.2), c_52, -⟩ := hf
          refine sg_t rfl rfl rfl f_48 (fun hg => ?_)
          have f_52 : a.eval (.tmp 52) = .pointer (some ((adr A97).add ((i131 : Int).toNat * R24.s))) := c_52.1 hg
          exact or_load (l := E24.f x152) ta24 f_52 (RdO.cells (F := E24) (RdO.evo rfl hE b148_A97) (gd_t hx152 hg)) rfl
        refine steps_cons (fun own a wx hf hsl hE => ?_) ?_
        · obtain ⟨(f_48 : a.eval (.tmp 48) = .bool r99.2), -⟩ := hf
          obtain ⟨s_2, -⟩ := hsl
          refine sg_t rfl rfl rfl f_48 (fun hg => ?_)
          exact or_move (s_2.trans e148_2)
        refine steps_cons (fun own a wx hf hsl hE => ?_) ?_
        · obtain ⟨(f_48 : a.eval (.tmp 48) = .bool r99.2), -⟩ := hf
          obtain ⟨s_10, -⟩ := hsl
          refine sg_t rfl rfl rfl f_48 (fun hg => ?_)
          exact or_move (s_10.trans e148_10)
        refine steps_cons (fun own a wx hf hsl hE => ?_) ?_
        · obtain ⟨(f_48 : a.eval (.tmp 48) = .bool r99.2), c_54, c_55, -⟩ := hf
          refine sg_t rfl rfl rfl f_48 (fun hg => ?_)
          have f_54 : a.eval (.tmp 54) = .slice A97 x96.length cA97 := c_54.1 hg
          have f_55 : a.eval (.tmp 55) = .int .i64 i131 := c_55.1 hg
          exact or_index (R := R24) (l := x96) tl53 f_54 f_55 (RdO.some_ b148_A97 (gd_t hx153 hg)) (gd_t hx153 hg)
        refine steps_cons (fun own a wx hf hsl hE => ?_) ?_
        · obtain ⟨(f_48 : a.eval (.tmp 48) = .bool r99.2), c_56, -⟩ := hf
          refine sg_t rfl rfl rfl f_48 (fun hg => ?_)
          have f_56 : a.eval (.tmp 56) = .pointer (some ((adr A97).add ((i131 : Int).toNat * R24.s))) := c_56.1 hg
          exact or_load (l := E24.f x153) ta24 f_56 (RdO.cells (F := E24) (RdO.evo rfl hE b148_A97) (gd_t hx153 hg)) rfl
        refine steps_cons (fun own a wx hf hsl hE => ?_) ?_
        · obtain ⟨(f_48 : a.eval (.tmp 48) = .bool r99.2), c_53, c_57, -⟩ := hf
          refine sg_t rfl rfl rfl f_48 (fun hg => ?_)
          have f_53 : a.eval (.tmp 53) = .agg #[.int .i64 x152.1, .int .i64 x152.2] := c_53.1 hg
          have f_57 : a.eval (.tmp 57) = .agg #[.int .i64 x153.1, .int .i64 x153.2] := c_57.1 hg
          exact or_k [(53, .agg #[.int .i64 x152.1, .int .i64 x152.2]), (57, .agg #[.int .i64 x153.1, .int .i64 x153.2])] rfl rfl ⟨f_53, f_57, trivial⟩ (by kernel_rfl)
        refine steps_cons (fun own a wx hf hsl hE => ?_) ?_
        · obtain ⟨(f_48 : a.eval (.tmp 48) = .bool r99.2), c_49, c_58, -⟩ := hf
          refine sg_t rfl rfl rfl f_48 (fun hg => ?_)
          have f_49 : a.eval (.tmp 49) = .agg #[.int .i64 r99.1.1.1, .int .i64 r99.1.1.2, .int .i64 r99.1.2.1, .int .i64 r99.1.2.2] := c_49.1 hg
          have f_58 : a.eval (.tmp 58) = .agg #[.int .i64 x152.1, .int .i64 x152.2, .int .i64 x153.1, .int .i64 x153.2] := c_58.1 hg
          exact or_call cf12 (args2 f_49 f_58) (rows_Meet_w _ r99.1 (x152, x153)  r154 (gd_t hr154 hg)) post_val
        refine steps_cons (fun own a wx hf hsl hE => ?_) ?_
        · obtain ⟨(f_48 : a.eval (.tmp 48) = .bool r99.2), c_59, -⟩ := hf
          refine sg_t rfl rfl rfl f_48 (fun hg => ?_)
          have f_59 : a.eval (.tmp 59) = .bool r154 := c_59.1 hg
          exact or_not f_59 rfl
        refine steps_cons (fun own a wx hf hsl hE => ?_) ?_
        · obtain ⟨(f_48 : a.eval (.tmp 48) = .bool r99.2), c_60, -⟩ := hf
          exact sg_plain rfl rfl (or_and f_48 (fun hx => c_60.1 hx) rfl rfl)
        exact steps_nil
      intro own155 a155 w155 hd155 hz155 hk155 hf155 hE155
      have e155_2 : a155.eval (.tmp 2) = .slice A97 x96.length cA97 := (hk155 2 rfl).trans e148_2
      have e155_3 : a155.eval (.tmp 3) = .pointer (some ⟨g91, 0, none⟩) := (hk155 3 rfl).trans e148_3
      have e155_4 : a155.eval (.tmp 4) = .pointer (some ⟨g93, 0, none⟩) := (hk155 4 rfl).trans e148_4
      have e155_7 : a155.eval (.tmp 7) = .pointer (some ⟨g100, 0, none⟩) := (hk155 7 rfl).trans e148_7
      have e155_8 : a155.eval (.tmp 8) = .bool r99.2 := (hk155 8 rfl).trans e148_8
      have e155_10 : a155.eval (.tmp 10) = .int .i64 i131 := (hk155 10 rfl).trans e148_10
      obtain ⟨(f_61 : a155.eval (.tmp 61) = .bool (r99.2 && (!r154))), -⟩ := hf155 [14] rfl
      have e155_61 := f_61
      have hX155 := Evo.step hX148 (fun _ => Nat.le_refl 0) hE155 rfl
      have b155_A97 := RdO.evo rfl hE155 b148_A97
      have b155_g91 := BlkO.evo (by decide) hE155 b148_g91
      have b155_g93 := BlkO.evo (by decide) hE155 b148_g93
      have b155_g100 := BlkO.evo (by decide) hE155 b148_g100
      refine fl_cond e155_61 hs (fun c156 hs => ?_) (fun c156 hs => ?_)
      · refine rg_plain_seq (n := 91) (rs := []) (own0 := own155) (K := [])
            (bs := [0])
            (ds := [⟨[], [], [], Fct.val 6 (.bool false)⟩]) (by kernel_rfl) hz155 hd155 (fun _ h => nomatch h) ?_ ?_
        · refine steps_cons (fun own a wx hf hsl hE => ?_) ?_
          · exact sg_plain rfl rfl (or_assign rfl)
          exact steps_nil
        intro own157 a157 w157 hd157 hz157 hk157 hf157 hE157
        obtain ⟨(f_6 : a157.eval (.tmp 6) = .bool false), -⟩ := hf157 [0] rfl
        have e157_6 := f_6
        have hX157 := Evo.step hX155 (fun _ => Nat.le_refl 0) hE157 rfl
        refine fl_ret ?_
        refine hp151 _ _ _ rfl ?_
        refine hp150 _ _ _ rfl ?_
        replace hs := hz145 _ hs
        refine hp145 _ _ _ rfl ?_
        refine hp117 _ _ _ rfl ?_
        refine hp115 _ _ _ rfl ?_
        obtain rfl := osome hs
        exact hret _ _ _ _ (.inl rfl) hd157 (results1_ rfl (RVal.tmp_ e157_6)) ⟨own157, rfl, hX157⟩
      refine fl_skip ?_
      refine hn151 _ _ ?_
      refine hn150 _ _ ?_
      refine rg_plain (n := 91) (rs := []) (own0 := own155) (K := [])
          (bs := [0, 1, 3])
          (ds := [⟨[], [10], [], Fct.val 45 (.int .i64 i131)⟩,
          ⟨[0], [], [], Fct.val 46 (.int .i64 (ad i131 1))⟩,
          ⟨[1], [], [], Fct.val 10 (.int .i64 (ad i131 1))⟩]) (by kernel_rfl) hz155 hd155 (fun _ h => nomatch h) ?_ ?_
      · refine steps_cons (fun own a wx hf hsl hE => ?_) ?_
        · obtain ⟨s_10, -⟩ := hsl
          exact sg_plain rfl rfl (or_move (s_10.trans e155_10))
        refine steps_cons (fun own a wx hf hsl hE => ?_) ?_
        · obtain ⟨(f_45 : a.eval (.tmp 45) = .int .i64 i131), -⟩ := hf
          exact sg_plain rfl rfl (or_add f_45 rfl rfl)
        refine steps_cons (fun own a wx hf hsl hE => ?_) ?_
        · obtain ⟨(f_46 : a.eval (.tmp 46) = .int .i64 (ad i131 1)), -⟩ := hf
          exact sg_plain rfl rfl (or_assign f_46)
        exact steps_nil
      intro own158 a158 w158 hd158 hz158 hk158 hf158 hE158
      have e158_2 : a158.eval (.tmp 2) = .slice A97 x96.length cA97 := (hk158 2 rfl).trans e155_2
      have e158_3 : a158.eval (.tmp 3) = .pointer (some ⟨g91, 0, none⟩) := (hk158 3 rfl).trans e155_3
      have e158_4 : a158.eval (.tmp 4) = .pointer (some ⟨g93, 0, none⟩) := (hk158 4 rfl).trans e155_4
      have e158_7 : a158.eval (.tmp 7) = .pointer (some ⟨g100, 0, none⟩) := (hk158 7 rfl).trans e155_7
      have e158_8 : a158.eval (.tmp 8) = .bool r99.2 := (hk158 8 rfl).trans e155_8
      obtain ⟨(f_10 : a158.eval (.tmp 10) = .int .i64 (ad i131 1)), -⟩ := hf158 [2] rfl
      have e158_10 := f_10
      have hX158 := Evo.step hX155 (fun _ => Nat.le_refl 0) hE158 rfl
      have b158_A97 := RdO.evo rfl hE158 b155_A97
      have b158_g91 := BlkO.evo (by decide) hE158 b155_g91
      have b158_g93 := BlkO.evo (by decide) hE158 b155_g93
      have b158_g100 := BlkO.evo (by decide) hE158 b155_g100
      exact hn145 _ _ _ hs ⟨own158, hd158, hz158, e158_2, e158_3, e158_4, e158_7, e158_8, e158_10, hX158, b158_A97, b158_g91, b158_g93, b158_g100⟩
    refine fl_exit ?_
    refine hp147 _ _ _ rfl ?_
    replace hs := hz145 _ hs
    refine hp145 _ _ _ rfl ?_
    refine hx117 _ _ ?_
    refine hn115 _ _ ?_
    obtain ⟨r159, hr159, hs⟩ := obind hs
    obtain ⟨r160, hr160, hs⟩ := obind hs
    obtain ⟨r161, hr161, hs⟩ := obind hs
    obtain ⟨r162, hr162, hs⟩ := obind hs
    obtain ⟨r163, hr163, hs⟩ := obind hs
    obtain ⟨r164, hr164, hs⟩ := obind hs
    obtain ⟨r165, hr165, hs⟩ := obind hs
    obtain ⟨r166, hr166, hs⟩ := obind hs
    obtain ⟨x167, hx167, hs⟩ := obind hs
    obtain ⟨r168, hr168, hs⟩ := obind hs
    obtain ⟨r169, hr169, hs⟩ := obind hs
    refine rg_draw_seq g_mixed (n := 91) (rs := []) (own0 := own148) (K := [])
        (bs := [0, 1, 3, 7, 3, 31, 63, 127, 255, 511, 1023, 1023, 4095, 1023, 16383, 1023, 65535, 131071, 262143, 524287, 1048575, 2097151, 2097151, 8388607, 2097151, 2097151, 67108863, 134217727, 268435455, 536870911])
        (ds := [⟨[], [], [], Fct.val 62 (.bool r159)⟩,
        ⟨[0], [], [], Fct.val 63 (.bool r159)⟩,
        ⟨[1], [3], [], Fct.cond r159 (some 64) (Fct.val 64 (.agg #[.int .i64 x1.1.1, .int .i64 x1.1.2, .int .i64 x1.2.1, .int .i64 x1.2.2]))⟩,
        ⟨[1, 2], [], [], Fct.cond r159 (some 65) (Fct.val 65 (.bool r160))⟩,
        ⟨[1], [3], [], Fct.cond r159 (some 66) (Fct.val 66 (.agg #[.int .i64 x1.1.1, .int .i64 x1.1.2, .int .i64 x1.2.1, .int .i64 x1.2.2]))⟩,
        ⟨[1, 4], [], [], Fct.cond r159 (some 67) (Fct.val 67 (.agg #[.int .i64 r161.1.1, .int .i64 r161.1.2, .int .i64 r161.2.1, .int .i64 r161.2.2]))⟩,
        ⟨[1, 5], [], [], Fct.cond r159 (some 68) (Fct.val 68 (.bool r162))⟩,
        ⟨[1, 3, 6], [], [], Fct.cond r159 (some 69) (Fct.val 69 (.bool (r160 == r162)))⟩,
        ⟨[1, 7], [], [], Fct.val 70 (.bool (r159 && (r160 == r162)))⟩,
        ⟨[8], [], [], Fct.val 71 (.bool (r159 && (r160 == r162)))⟩,
        ⟨[9], [3], [], Fct.cond (r159 && (r160 == r162)) (some 72) (Fct.val 72 (.agg #[.int .i64 x1.1.1, .int .i64 x1.1.2, .int .i64 x1.2.1, .int .i64 x1.2.2]))⟩,
        ⟨[9], [4], [], Fct.cond (r159 && (r160 == r162)) (some 73) (Fct.val 73 (.agg #[.int .i64 b2.1.1, .int .i64 b2.1.2, .int .i64 b2.2.1, .int .i64 b2.2.2]))⟩,
        ⟨[9, 10, 11], [], [], Fct.cond (r159 && (r160 == r162)) (some 74) (Fct.val 74 (.bool r163))⟩,
        ⟨[9], [3], [], Fct.cond (r159 && (r160 == r162)) (some 75) (Fct.val 75 (.agg #[.int .i64 x1.1.1, .int .i64 x1.1.2, .int .i64 x1.2.1, .int .i64 x1.2.2]))⟩,
        ⟨[9, 13], [], [], Fct.cond (r159 && (r160 == r162)) (some 76) (Fct.val 76 (.agg #[.int .i64 r164.1.1, .int .i64 r164.1.2, .int .i64 r164.2.1, .int .i64 r164.2.2]))⟩,
        ⟨[9], [4], [], Fct.cond (r159 && (r160 == r162)) (some 77) (Fct.val 77 (.agg #[.int .i64 b2.1.1, .int .i64 b2.1.2, .int .i64 b2.2.1, .int .i64 b2.2.2]))⟩,
        ⟨[9, 15], [], [], Fct.cond (r159 && (r160 == r162)) (some 78) (Fct.val 78 (.agg #[.int .i64 r165.1.1, .int .i64 r165.1.2, .int .i64 r165.2.1, .int .i64 r165.2.2]))⟩,
        ⟨[9, 14, 16], [], [], Fct.cond (r159 && (r160 == r162)) (some 79) (Fct.val 79 (.bool r166))⟩,
        ⟨[9, 12, 17], [], [], Fct.cond (r159 && (r160 == r162)) (some 80) (Fct.val 80 (.bool (r163 == r166)))⟩,
        ⟨[9, 18], [], [], Fct.val 81 (.bool x167)⟩,
        ⟨[19], [], [], Fct.val 82 (.bool x167)⟩,
        ⟨[20], [4], [], Fct.cond x167 (some 83) (Fct.val 83 (.agg #[.int .i64 b2.1.1, .int .i64 b2.1.2, .int .i64 b2.2.1, .int .i64 b2.2.2]))⟩,
        ⟨[20], [3], [], Fct.cond x167 (some 84) (Fct.val 84 (.agg #[.int .i64 x1.1.1, .int .i64 x1.1.2, .int .i64 x1.2.1, .int .i64 x1.2.2]))⟩,
        ⟨[20, 21, 22], [], [], Fct.cond x167 (some 85) (Fct.val 85 (.bool r168))⟩,
        ⟨[20], [3], [], Fct.cond x167 (some 86) (Fct.val 86 (.agg #[.int .i64 x1.1.1, .int .i64 x1.1.2, .int .i64 x1.2.1, .int .i64 x1.2.2]))⟩,
        ⟨[20], [4], [], Fct.cond x167 (some 87) (Fct.val 87 (.agg #[.int .i64 b2.1.1, .int .i64 b2.1.2, .int .i64 b2.2.1, .int .i64 b2.2.2]))⟩,
        ⟨[20, 24, 25], [], [], Fct.cond x167 (some 88) (Fct.val 88 (.bool r169))⟩,
        ⟨[20, 23, 26], [], [], Fct.cond x167 (some 89) (Fct.val 89 (.bool (r168 == r169)))⟩,
        ⟨[20, 27], [], [], Fct.val 90 (.bool (x167 && (r168 == r169)))⟩,
        ⟨[28], [], [], Fct.val 6 (.bool (x167 && (r168 == r169)))⟩]) (by kernel_rfl) hz148 hd148 (fun _ h => nomatch h) ?_ ?_
    · refine steps_cons (fun own a wx hf hsl hE => ?_) ?_
      · exact sg_plain rfl rfl (or_call cf14 (args0) (law06_known_w _   r159 hr159) post_val)
      refine steps_cons (fun own a wx hf hsl hE => ?_) ?_
      · obtain ⟨(f_62 : a.eval (.tmp 62) = .bool r159), -⟩ := hf
        exact sg_plain rfl rfl (or_move f_62)
      refine steps_cons (fun own a wx hf hsl hE => ?_) ?_
      · obtain ⟨(f_63 : a.eval (.tmp 63) = .bool r159), -⟩ := hf
        obtain ⟨s_3, -⟩ := hsl
        refine sg_t rfl rfl rfl f_63 (fun hg => ?_)
        exact or_load (l := [.int .i64 x1.1.1, .int .i64 x1.1.2, .int .i64 x1.2.1, .int .i64 x1.2.2]) ta26 (s_3.trans e148_3) (Blk.cellsFrom (BlkO.evo (by decide) hE b148_g91).2 0 rfl) rfl
      refine steps_cons (fun own a wx hf hsl hE => ?_) ?_
      · obtain ⟨(f_63 : a.eval (.tmp 63) = .bool r159), c_64, -⟩ := hf
        refine sg_t rfl rfl rfl f_63 (fun hg => ?_)
        have f_64 : a.eval (.tmp 64) = .agg #[.int .i64 x1.1.1, .int .i64 x1.1.2, .int .i64 x1.2.1, .int .i64 x1.2.2] := c_64.1 hg
        exact or_call cf13 (args1 f_64) (rows_Right_w _ x1  r160 (gd_t hr160 hg)) post_val
      refine steps_cons (fun own a wx hf hsl hE => ?_) ?_
      · obtain ⟨(f_63 : a.eval (.tmp 63) = .bool r159), -⟩ := hf
        obtain ⟨s_3, -⟩ := hsl
        refine sg_t rfl rfl rfl f_63 (fun hg => ?_)
        exact or_load (l := [.int .i64 x1.1.1, .int .i64 x1.1.2, .int .i64 x1.2.1, .int .i64 x1.2.2]) ta26 (s_3.trans e148_3) (Blk.cellsFrom (BlkO.evo (by decide) hE b148_g91).2 0 rfl) rfl
      refine steps_cons (fun own a wx hf hsl hE => ?_) ?_
      · obtain ⟨(f_63 : a.eval (.tmp 63) = .bool r159), c_66, -⟩ := hf
        refine sg_t rfl rfl rfl f_63 (fun hg => ?_)
        have f_66 : a.eval (.tmp 66) = .agg #[.int .i64 x1.1.1, .int .i64 x1.1.2, .int .i64 x1.2.1, .int .i64 x1.2.2] := c_66.1 hg
        exact or_call cf17 (args1 f_66) (law06_of_w _ x1  r161 (gd_t hr161 hg)) post_val
      refine steps_cons (fun own a wx hf hsl hE => ?_) ?_
      · obtain ⟨(f_63 : a.eval (.tmp 63) = .bool r159), c_67, -⟩ := hf
        refine sg_t rfl rfl rfl f_63 (fun hg => ?_)
        have f_67 : a.eval (.tmp 67) = .agg #[.int .i64 r161.1.1, .int .i64 r161.1.2, .int .i64 r161.2.1, .int .i64 r161.2.2] := c_67.1 hg
        exact or_call cf24 (args1 f_67) (ref06_Right_w _ r161  r162 (gd_t hr162 hg)) post_val
      refine steps_cons (fun own a wx hf hsl hE => ?_) ?_
      · obtain ⟨(f_63 : a.eval (.tmp 63) = .bool r159), c_65, c_68, -⟩ := hf
        refine sg_t rfl rfl rfl f_63 (fun hg => ?_)
        have f_65 : a.eval (.tmp 65) = .bool r160 := c_65.1 hg
        have f_68 : a.eval (.tmp 68) = .bool r162 := c_68.1 hg
        exact or_eqlb tb4 f_65 f_68 rfl
      refine steps_cons (fun own a wx hf hsl hE => ?_) ?_
      · obtain ⟨(f_63 : a.eval (.tmp 63) = .bool r159), c_69, -⟩ := hf
        exact sg_plain rfl rfl (or_and f_63 (fun hx => c_69.1 hx) rfl rfl)
      refine steps_cons (fun own a wx hf hsl hE => ?_) ?_
      · obtain ⟨(f_70 : a.eval (.tmp 70) = .bool (r159 && (r160 == r162))), -⟩ := hf
        exact sg_plain rfl rfl (or_move f_70)
      refine steps_cons (fun own a wx hf hsl hE => ?_) ?_
      · obtain ⟨(f_71 : a.eval (.tmp 71) = .bool (r159 && (r160 == r162))), -⟩ := hf
        obtain ⟨s_3, -⟩ := hsl
        refine sg_t rfl rfl rfl f_71 (fun hg => ?_)
        exact or_load (l := [.int .i64 x1.1.1, .int .i64 x1.1.2, .int .i64 x1.2.1, .int .i64 x1.2.2]) ta26 (s_3.trans e148_3) (Blk.cellsFrom (BlkO.evo (by decide) hE b148_g91).2 0 rfl) rfl
      refine steps_cons (fun own a wx hf hsl hE => ?_) ?_
      · obtain ⟨(f_71 : a.eval (.tmp 71) = .bool (r159 && (r160 == r162))), -⟩ := hf
        obtain ⟨s_4, -⟩ := hsl
        refine sg_t rfl rfl rfl f_71 (fun hg => ?_)
        exact or_load (l := [.int .i64 b2.1.1, .int .i64 b2.1.2, .int .i64 b2.2.1, .int .i64 b2.2.2]) ta26 (s_4.trans e148_4) (Blk.cellsFrom (BlkO.evo (by decide) hE b148_g93).2 0 rfl) rfl
      refine steps_cons (fun own a wx hf hsl hE => ?_) ?_
      · obtain ⟨(f_71 : a.eval (.tmp 71) = .bool (r159 && (r160 == r162))), c_72, c_73, -⟩ := hf
        refine sg_t rfl rfl rfl f_71 (fun hg => ?_)
        have f_72 : a.eval (.tmp 72) = .agg #[.int .i64 x1.1.1, .int .i64 x1.1.2, .int .i64 x1.2.1, .int .i64 x1.2.2] := c_72.1 hg
        have f_73 : a.eval (.tmp 73) = .agg #[.int .i64 b2.1.1, .int .i64 b2.1.2, .int .i64 b2.2.1, .int .i64 b2.2.2] := c_73.1 hg
        exact or_call cf12 (args2 f_72 f_73) (rows_Meet_w _ x1 b2  r163 (gd_t hr163 hg)) post_val
      refine steps_cons (fun own a wx hf hsl hE => ?_) ?_
      · obtain ⟨(f_71 : a.eval (.tmp 71) = .bool (r159 && (r160 == r162))), -⟩ := hf
        obtain ⟨s_3, -⟩ := hsl
        refine sg_t rfl rfl rfl f_71 (fun hg => ?_)
        exact or_load (l := [.int .i64 x1.1.1, .int .i64 x1.1.2, .int .i64 x1.2.1, .int .i64 x1.2.2]) ta26 (s_3.trans e148_3) (Blk.cellsFrom (BlkO.evo (by decide) hE b148_g91).2 0 rfl) rfl
      refine steps_cons (fun own a wx hf hsl hE => ?_) ?_
      · obtain ⟨(f_71 : a.eval (.tmp 71) = .bool (r159 && (r160 == r162))), c_75, -⟩ := hf
        refine sg_t rfl rfl rfl f_71 (fun hg => ?_)
        have f_75 : a.eval (.tmp 75) = .agg #[.int .i64 x1.1.1, .int .i64 x1.1.2, .int .i64 x1.2.1, .int .i64 x1.2.2] := c_75.1 hg
        exact or_call cf17 (args1 f_75) (law06_of_w _ x1  r164 (gd_t hr164 hg)) post_val
      refine steps_cons (fun own a wx hf hsl hE => ?_) ?_
      · obtain ⟨(f_71 : a.eval (.tmp 71) = .bool (r159 && (r160 == r162))), -⟩ := hf
        obtain ⟨s_4, -⟩ := hsl
        refine sg_t rfl rfl rfl f_71 (fun hg => ?_)
        exact or_load (l := [.int .i64 b2.1.1, .int .i64 b2.1.2, .int .i64 b2.2.1, .int .i64 b2.2.2]) ta26 (s_4.trans e148_4) (Blk.cellsFrom (BlkO.evo (by decide) hE b148_g93).2 0 rfl) rfl
      refine steps_cons (fun own a wx hf hsl hE => ?_) ?_
      · obtain ⟨(f_71 : a.eval (.tmp 71) = .bool (r159 && (r160 == r162))), c_77, -⟩ := hf
        refine sg_t rfl rfl rfl f_71 (fun hg => ?_)
        have f_77 : a.eval (.tmp 77) = .agg #[.int .i64 b2.1.1, .int .i64 b2.1.2, .int .i64 b2.2.1, .int .i64 b2.2.2] := c_77.1 hg
        exact or_call cf17 (args1 f_77) (law06_of_w _ b2  r165 (gd_t hr165 hg)) post_val
      refine steps_cons (fun own a wx hf hsl hE => ?_) ?_
      · obtain ⟨(f_71 : a.eval (.tmp 71) = .bool (r159 && (r160 == r162))), c_76, c_78, -⟩ := hf
        refine sg_t rfl rfl rfl f_71 (fun hg => ?_)
        have f_76 : a.eval (.tmp 76) = .agg #[.int .i64 r164.1.1, .int .i64 r164.1.2, .int .i64 r164.2.1, .int .i64 r164.2.2] := c_76.1 hg
        have f_78 : a.eval (.tmp 78) = .agg #[.int .i64 r165.1.1, .int .i64 r165.1.2, .int .i64 r165.2.1, .int .i64 r165.2.2] := c_78.1 hg
        exact or_call cf16 (args2 f_76 f_78) (ref06_Meet_w _ r164 r165  r166 (gd_t hr166 hg)) post_val
      refine steps_cons (fun own a wx hf hsl hE => ?_) ?_
      · obtain ⟨(f_71 : a.eval (.tmp 71) = .bool (r159 && (r160 == r162))), c_74, c_79, -⟩ := hf
        refine sg_t rfl rfl rfl f_71 (fun hg => ?_)
        have f_74 : a.eval (.tmp 74) = .bool r163 := c_74.1 hg
        have f_79 : a.eval (.tmp 79) = .bool r166 := c_79.1 hg
        exact or_eqlb tb4 f_74 f_79 rfl
      refine steps_cons (fun own a wx hf hsl hE => ?_) ?_
      · obtain ⟨(f_71 : a.eval (.tmp 71) = .bool (r159 && (r160 == r162))), c_80, -⟩ := hf
        exact sg_plain rfl rfl (or_and f_71 (fun hx => c_80.1 hx) rfl (osome hx167).symm)
      refine steps_cons (fun own a wx hf hsl hE => ?_) ?_
      · obtain ⟨(f_81 : a.eval (.tmp 81) = .bool x167), -⟩ := hf
        exact sg_plain rfl rfl (or_move f_81)
      refine steps_cons (fun own a wx hf hsl hE => ?_) ?_
      · obtain ⟨(f_82 : a.eval (.tmp 82) = .bool x167), -⟩ := hf
        obtain ⟨s_4, -⟩ := hsl
        refine sg_t rfl rfl rfl f_82 (fun hg => ?_)
        exact or_load (l := [.int .i64 b2.1.1, .int .i64 b2.1.2, .int .i64 b2.2.1, .int .i64 b2.2.2]) ta26 (s_4.trans e148_4) (Blk.cellsFrom (BlkO.evo (by decide) hE b148_g93).2 0 rfl) rfl
      refine steps_cons (fun own a wx hf hsl hE => ?_) ?_
      · obtain ⟨(f_82 : a.eval (.tmp 82) = .bool x167), -⟩ := hf
        obtain ⟨s_3, -⟩ := hsl
        refine sg_t rfl rfl rfl f_82 (fun hg => ?_)
        exact or_load (l := [.int .i64 x1.1.1, .int .i64 x1.1.2, .int .i64 x1.2.1, .int .i64 x1.2.2]) ta26 (s_3.trans e148_3) (Blk.cellsFrom (BlkO.evo (by decide) hE b148_g91).2 0 rfl) rfl
      refine steps_cons (fun own a wx hf hsl hE => ?_) ?_
      · obtain ⟨(f_82 : a.eval (.tmp 82) = .bool x167), c_83, c_84, -⟩ := hf
        refine sg_t rfl rfl rfl f_82 (fun hg => ?_)
        have f_83 : a.eval (.tmp 83) = .agg #[.int .i64 b2.1.1, .int .i64 b2.1.2, .int .i64 b2.2.1, .int .i64 b2.2.2] := c_83.1 hg
        have f_84 : a.eval (.tmp 84) = .agg #[.int .i64 x1.1.1, .int .i64 x1.1.2, .int .i64 x1.2.1, .int .i64 x1.2.2] := c_84.1 hg
        exact or_call cf12 (args2 f_83 f_84) (rows_Meet_w _ b2 x1  r168 (gd_t hr168 hg)) post_val
      refine steps_cons (fun own a wx hf hsl hE => ?_) ?_
      · obtain ⟨(f_82 : a.eval (.tmp 82) = .bool x167), -⟩ := hf
        obtain ⟨s_3, -⟩ := hsl
        refine sg_t rfl rfl rfl f_82 (fun hg => ?_)
        exact or_load (l := [.int .i64 x1.1.1, .int .i64 x1.1.2, .int .i64 x1.2.1, .int .i64 x1.2.2]) ta26 (s_3.trans e148_3) (Blk.cellsFrom (BlkO.evo (by decide) hE b148_g91).2 0 rfl) rfl
      refine steps_cons (fun own a wx hf hsl hE => ?_) ?_
      · obtain ⟨(f_82 : a.eval (.tmp 82) = .bool x167), -⟩ := hf
        obtain ⟨s_4, -⟩ := hsl
        refine sg_t rfl rfl rfl f_82 (fun hg => ?_)
        exact or_load (l := [.int .i64 b2.1.1, .int .i64 b2.1.2, .int .i64 b2.2.1, .int .i64 b2.2.2]) ta26 (s_4.trans e148_4) (Blk.cellsFrom (BlkO.evo (by decide) hE b148_g93).2 0 rfl) rfl
      refine steps_cons (fun own a wx hf hsl hE => ?_) ?_
      · obtain ⟨(f_82 : a.eval (.tmp 82) = .bool x167), c_86, c_87, -⟩ := hf
        refine sg_t rfl rfl rfl f_82 (fun hg => ?_)
        have f_86 : a.eval (.tmp 86) = .agg #[.int .i64 x1.1.1, .int .i64 x1.1.2, .int .i64 x1.2.1, .int .i64 x1.2.2] := c_86.1 hg
        have f_87 : a.eval (.tmp 87) = .agg #[.int .i64 b2.1.1, .int .i64 b2.1.2, .int .i64 b2.2.1, .int .i64 b2.2.2] := c_87.1 hg
        exact or_call cf12 (args2 f_86 f_87) (rows_Meet_w _ x1 b2  r169 (gd_t hr169 hg)) post_val
      refine steps_cons (fun own a wx hf hsl hE => ?_) ?_
      · obtain ⟨(f_82 : a.eval (.tmp 82) = .bool x167), c_85, c_88, -⟩ := hf
        refine sg_t rfl rfl rfl f_82 (fun hg => ?_)
        have f_85 : a.eval (.tmp 85) = .bool r168 := c_85.1 hg
        have f_88 : a.eval (.tmp 88) = .bool r169 := c_88.1 hg
        exact or_eqlb tb4 f_85 f_88 rfl
      refine steps_cons (fun own a wx hf hsl hE => ?_) ?_
      · obtain ⟨(f_82 : a.eval (.tmp 82) = .bool x167), c_89, -⟩ := hf
        exact sg_plain rfl rfl (or_and f_82 (fun hx => c_89.1 hx) rfl rfl)
      refine steps_cons (fun own a wx hf hsl hE => ?_) ?_
      · obtain ⟨(f_90 : a.eval (.tmp 90) = .bool (x167 && (r168 == r169))), -⟩ := hf
        exact sg_plain rfl rfl (or_assign f_90)
      exact steps_nil
    intro own170 a170 w170 hd170 hz170 hk170 hf170 hE170
    obtain ⟨(f_6 : a170.eval (.tmp 6) = .bool (x167 && (r168 == r169))), -⟩ := hf170 [29] rfl
    have e170_6 := f_6
    have hX170 := Evo.step hX148 (fun _ => Nat.le_refl 0) hE170 rfl
    refine fl_ret ?_
    obtain rfl := osome hs
    exact hret _ _ _ _ (.inl rfl) hd170 (results1_ rfl (RVal.tmp_ e170_6)) ⟨own170, rfl, hX170⟩

end Go.Proofs.Ytajbjhcnppiloaa
