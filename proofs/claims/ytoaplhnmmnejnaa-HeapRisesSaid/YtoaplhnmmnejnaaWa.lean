/-
  The heap, and the document of it. The walks.
-/
import Derived.Test.YtoaplhnmmnejnaaRop
import Derived.Test.YtoaplhnmmnejnaaTy
import Derived.Test.YtoaplhnmmnejnaaSa
namespace Go.Proofs.Ytoaplhnmmnejnaa
open Go.RowKit
set_option linter.unusedVariables false
theorem heap_Less_w (w : World) (x1 : Int × Int × Int) (b2 : Int × Int × Int) (r : Bool) (hs : heap_Less x1 b2 = some r) :
    Calls Try.prog 9 #[.agg #[.int .i64 x1.1, .int .i64 x1.2.1, .int .i64 x1.2.2], .agg #[.int .i64 b2.1, .int .i64 b2.2.1, .int .i64 b2.2.2]] w fun e w' => ∃ own' : Own, e = .returned (.bool r) ∧ Evo [] (fun _ => 0) own' w w' := by
  refine fl_enter (n := 32) rfl rfl rfl (Nat.le_of_ble_eq_true rfl) ?_
  intro a0 Q hd0 hz0 harg hret
  have ha0 := harg 0 _ rfl
  have ha1 := harg 1 _ rfl
  clear harg
  have hE0 : Evo [] (fun _ => 0) (fun _ => 0) w w := Evo.refl _ _ _
  refine rg_plain_seq (n := 32) (rs := []) (own0 := (fun _ => 0)) (K := [])
      (bs := [0, 0, 0])
      (ds := [⟨[], [0], [], Fct.blk 26 2 (fun g => .pointer (some ⟨g, 0, none⟩)) 30 #[.int .i64 x1.1, .int .i64 x1.2.1, .int .i64 x1.2.2]⟩,
      ⟨[], [1], [], Fct.blk 28 3 (fun g => .pointer (some ⟨g, 0, none⟩)) 30 #[.int .i64 b2.1, .int .i64 b2.2.1, .int .i64 b2.2.2]⟩,
      ⟨[], [], [], Fct.val 4 (.bool false)⟩]) (by kernel_rfl) hz0 hd0 (fun _ h => nomatch h) ?_ ?_
  · refine steps_cons (fun own a wx hf hsl hE => ?_) ?_
    · obtain ⟨s_0, -⟩ := hsl
      exact sg_plain rfl rfl (or_new [(0, .agg #[.int .i64 x1.1, .int .i64 x1.2.1, .int .i64 x1.2.2])] rfl rfl ⟨(s_0.trans ha0), trivial⟩ (by kernel_rfl))
    refine steps_cons (fun own a wx hf hsl hE => ?_) ?_
    · obtain ⟨s_1, -⟩ := hsl
      exact sg_plain rfl rfl (or_new [(1, .agg #[.int .i64 b2.1, .int .i64 b2.2.1, .int .i64 b2.2.2])] rfl rfl ⟨(s_1.trans ha1), trivial⟩ (by kernel_rfl))
    refine steps_cons (fun own a wx hf hsl hE => ?_) ?_
    · exact sg_plain rfl rfl (or_assign rfl)
    exact steps_nil
  intro own29 a29 w29 hd29 hz29 hk29 hf29 hE29
  obtain ⟨⟨g25, (f_2 : a29.eval (.tmp 2) = .pointer (some ⟨g25, 0, none⟩)), (b_g25 : BlkO own29 26 w29 g25 30 #[.int .i64 x1.1, .int .i64 x1.2.1, .int .i64 x1.2.2])⟩, ⟨g27, (f_3 : a29.eval (.tmp 3) = .pointer (some ⟨g27, 0, none⟩)), (b_g27 : BlkO own29 28 w29 g27 30 #[.int .i64 b2.1, .int .i64 b2.2.1, .int .i64 b2.2.2])⟩, -⟩ := hf29 [0, 1] rfl
  have e29_2 := f_2
  have e29_3 := f_3
  have hX29 := Evo.step hE0 (fun _ => Nat.le_refl 0) hE29 rfl
  have b29_g25 := b_g25
  have b29_g27 := b_g27
  refine fl_seq (fun Q30 hn30 hp30 => ?_)
  refine fl_block (fun Q31 hn31 hx31 hp31 => ?_)
  refine rg_plain_seq (n := 32) (rs := []) (own0 := own29) (K := [])
      (bs := [0, 1, 0, 4, 15, 31])
      (ds := [⟨[], [2], [], Fct.val 6 (.pointer (some ⟨g25, 0, none⟩))⟩,
      ⟨[0], [], [], Fct.val 7 (.int .i64 x1.1)⟩,
      ⟨[], [3], [], Fct.val 8 (.pointer (some ⟨g27, 0, none⟩))⟩,
      ⟨[2], [], [], Fct.val 9 (.int .i64 b2.1)⟩,
      ⟨[1, 3], [], [], Fct.val 10 (.bool (!decide (x1.1 = b2.1)))⟩,
      ⟨[4], [], [], Fct.val 5 (.bool (!decide (x1.1 = b2.1)))⟩]) (by kernel_rfl) hz29 hd29 (fun _ h => nomatch h) ?_ ?_
  · refine steps_cons (fun own a wx hf hsl hE => ?_) ?_
    · obtain ⟨s_2, -⟩ := hsl
      exact sg_plain rfl rfl (or_field fo30_0 (s_2.trans e29_2) (by rfl))
    refine steps_cons (fun own a wx hf hsl hE => ?_) ?_
    · obtain ⟨(f_6 : a.eval (.tmp 6) = .pointer (some ⟨g25, 0, none⟩)), -⟩ := hf
      exact sg_plain rfl rfl (or_load1 to3 f_6 (Blk.at_ (BlkO.evo (by decide) hE b29_g25).2 0 rfl))
    refine steps_cons (fun own a wx hf hsl hE => ?_) ?_
    · obtain ⟨s_3, -⟩ := hsl
      exact sg_plain rfl rfl (or_field fo30_0 (s_3.trans e29_3) (by rfl))
    refine steps_cons (fun own a wx hf hsl hE => ?_) ?_
    · obtain ⟨(f_8 : a.eval (.tmp 8) = .pointer (some ⟨g27, 0, none⟩)), -⟩ := hf
      exact sg_plain rfl rfl (or_load1 to3 f_8 (Blk.at_ (BlkO.evo (by decide) hE b29_g27).2 0 rfl))
    refine steps_cons (fun own a wx hf hsl hE => ?_) ?_
    · obtain ⟨(f_7 : a.eval (.tmp 7) = .int .i64 x1.1), (f_9 : a.eval (.tmp 9) = .int .i64 b2.1), -⟩ := hf
      exact sg_plain rfl rfl (or_neq f_7 f_9 rfl)
    refine steps_cons (fun own a wx hf hsl hE => ?_) ?_
    · obtain ⟨(f_10 : a.eval (.tmp 10) = .bool (!decide (x1.1 = b2.1))), -⟩ := hf
      exact sg_plain rfl rfl (or_assign f_10)
    exact steps_nil
  intro own32 a32 w32 hd32 hz32 hk32 hf32 hE32
  have e32_2 : a32.eval (.tmp 2) = .pointer (some ⟨g25, 0, none⟩) := (hk32 2 rfl).trans e29_2
  have e32_3 : a32.eval (.tmp 3) = .pointer (some ⟨g27, 0, none⟩) := (hk32 3 rfl).trans e29_3
  obtain ⟨(f_5 : a32.eval (.tmp 5) = .bool (!decide (x1.1 = b2.1))), -⟩ := hf32 [5] rfl
  have e32_5 := f_5
  have hX32 := Evo.step hX29 (fun _ => Nat.le_refl 0) hE32 rfl
  have b32_g25 := BlkO.evo (by decide) hE32 b29_g25
  have b32_g27 := BlkO.evo (by decide) hE32 b29_g27
  refine fl_cond e32_5 hs (fun c33 hs => ?_) (fun c33 hs => ?_)
  · refine rg_plain_seq (n := 32) (rs := []) (own0 := own32) (K := [])
        (bs := [0, 1, 0, 4, 15, 31])
        (ds := [⟨[], [2], [], Fct.val 11 (.pointer (some ⟨g25, 0, none⟩))⟩,
        ⟨[0], [], [], Fct.val 12 (.int .i64 x1.1)⟩,
        ⟨[], [3], [], Fct.val 13 (.pointer (some ⟨g27, 0, none⟩))⟩,
        ⟨[2], [], [], Fct.val 14 (.int .i64 b2.1)⟩,
        ⟨[1, 3], [], [], Fct.val 15 (.bool (decide (x1.1 < b2.1)))⟩,
        ⟨[4], [], [], Fct.val 4 (.bool (decide (x1.1 < b2.1)))⟩]) (by kernel_rfl) hz32 hd32 (fun _ h => nomatch h) ?_ ?_
    · refine steps_cons (fun own a wx hf hsl hE => ?_) ?_
      · obtain ⟨s_2, -⟩ := hsl
        exact sg_plain rfl rfl (or_field fo30_0 (s_2.trans e32_2) (by rfl))
      refine steps_cons (fun own a wx hf hsl hE => ?_) ?_
      · obtain ⟨(f_11 : a.eval (.tmp 11) = .pointer (some ⟨g25, 0, none⟩)), -⟩ := hf
        exact sg_plain rfl rfl (or_load1 to3 f_11 (Blk.at_ (BlkO.evo (by decide) hE b32_g25).2 0 rfl))
      refine steps_cons (fun own a wx hf hsl hE => ?_) ?_
      · obtain ⟨s_3, -⟩ := hsl
        exact sg_plain rfl rfl (or_field fo30_0 (s_3.trans e32_3) (by rfl))
      refine steps_cons (fun own a wx hf hsl hE => ?_) ?_
      · obtain ⟨(f_13 : a.eval (.tmp 13) = .pointer (some ⟨g27, 0, none⟩)), -⟩ := hf
        exact sg_plain rfl rfl (or_load1 to3 f_13 (Blk.at_ (BlkO.evo (by decide) hE b32_g27).2 0 rfl))
      refine steps_cons (fun own a wx hf hsl hE => ?_) ?_
      · obtain ⟨(f_12 : a.eval (.tmp 12) = .int .i64 x1.1), (f_14 : a.eval (.tmp 14) = .int .i64 b2.1), -⟩ := hf
        exact sg_plain rfl rfl (or_lss f_12 f_14 rfl)
      refine steps_cons (fun own a wx hf hsl hE => ?_) ?_
      · obtain ⟨(f_15 : a.eval (.tmp 15) = .bool (decide (x1.1 < b2.1))), -⟩ := hf
        exact sg_plain rfl rfl (or_assign f_15)
      exact steps_nil
    intro own34 a34 w34 hd34 hz34 hk34 hf34 hE34
    obtain ⟨(f_4 : a34.eval (.tmp 4) = .bool (decide (x1.1 < b2.1))), -⟩ := hf34 [5] rfl
    have e34_4 := f_4
    have hX34 := Evo.step hX32 (fun _ => Nat.le_refl 0) hE34 rfl
    refine fl_ret ?_
    refine hp31 _ _ _ rfl ?_
    refine hp30 _ _ _ rfl ?_
    obtain rfl := osome hs
    exact hret _ _ _ _ (.inl rfl) hd34 (results1_ rfl (RVal.tmp_ e34_4)) ⟨own34, rfl, hX34⟩
  refine rg_plain_seq (n := 32) (rs := []) (own0 := own32) (K := [])
      (bs := [0, 1, 0, 4, 15, 31])
      (ds := [⟨[], [2], [], Fct.val 17 (.pointer (some ⟨g25, 1, none⟩))⟩,
      ⟨[0], [], [], Fct.val 18 (.int .i64 x1.2.1)⟩,
      ⟨[], [3], [], Fct.val 19 (.pointer (some ⟨g27, 1, none⟩))⟩,
      ⟨[2], [], [], Fct.val 20 (.int .i64 b2.2.1)⟩,
      ⟨[1, 3], [], [], Fct.val 21 (.bool (!decide (x1.2.1 = b2.2.1)))⟩,
      ⟨[4], [], [], Fct.val 16 (.bool (!decide (x1.2.1 = b2.2.1)))⟩]) (by kernel_rfl) hz32 hd32 (fun _ h => nomatch h) ?_ ?_
  · refine steps_cons (fun own a wx hf hsl hE => ?_) ?_
    · obtain ⟨s_2, -⟩ := hsl
      exact sg_plain rfl rfl (or_field fo30_1 (s_2.trans e32_2) (by rfl))
    refine steps_cons (fun own a wx hf hsl hE => ?_) ?_
    · obtain ⟨(f_17 : a.eval (.tmp 17) = .pointer (some ⟨g25, 1, none⟩)), -⟩ := hf
      exact sg_plain rfl rfl (or_load1 to3 f_17 (Blk.at_ (BlkO.evo (by decide) hE b32_g25).2 1 rfl))
    refine steps_cons (fun own a wx hf hsl hE => ?_) ?_
    · obtain ⟨s_3, -⟩ := hsl
      exact sg_plain rfl rfl (or_field fo30_1 (s_3.trans e32_3) (by rfl))
    refine steps_cons (fun own a wx hf hsl hE => ?_) ?_
    · obtain ⟨(f_19 : a.eval (.tmp 19) = .pointer (some ⟨g27, 1, none⟩)), -⟩ := hf
      exact sg_plain rfl rfl (or_load1 to3 f_19 (Blk.at_ (BlkO.evo (by decide) hE b32_g27).2 1 rfl))
    refine steps_cons (fun own a wx hf hsl hE => ?_) ?_
    · obtain ⟨(f_18 : a.eval (.tmp 18) = .int .i64 x1.2.1), (f_20 : a.eval (.tmp 20) = .int .i64 b2.2.1), -⟩ := hf
      exact sg_plain rfl rfl (or_neq f_18 f_20 rfl)
    refine steps_cons (fun own a wx hf hsl hE => ?_) ?_
    · obtain ⟨(f_21 : a.eval (.tmp 21) = .bool (!decide (x1.2.1 = b2.2.1))), -⟩ := hf
      exact sg_plain rfl rfl (or_assign f_21)
    exact steps_nil
  intro own35 a35 w35 hd35 hz35 hk35 hf35 hE35
  have e35_2 : a35.eval (.tmp 2) = .pointer (some ⟨g25, 0, none⟩) := (hk35 2 rfl).trans e32_2
  have e35_3 : a35.eval (.tmp 3) = .pointer (some ⟨g27, 0, none⟩) := (hk35 3 rfl).trans e32_3
  obtain ⟨(f_16 : a35.eval (.tmp 16) = .bool (!decide (x1.2.1 = b2.2.1))), -⟩ := hf35 [5] rfl
  have e35_16 := f_16
  have hX35 := Evo.step hX32 (fun _ => Nat.le_refl 0) hE35 rfl
  have b35_g25 := BlkO.evo (by decide) hE35 b32_g25
  have b35_g27 := BlkO.evo (by decide) hE35 b32_g27
  refine fl_cond e35_16 hs (fun c36 hs => ?_) (fun c36 hs => ?_)
  · refine rg_plain_seq (n := 32) (rs := []) (own0 := own35) (K := [])
        (bs := [0, 1, 0, 4, 15, 31])
        (ds := [⟨[], [2], [], Fct.val 22 (.pointer (some ⟨g25, 1, none⟩))⟩,
        ⟨[0], [], [], Fct.val 23 (.int .i64 x1.2.1)⟩,
        ⟨[], [3], [], Fct.val 24 (.pointer (some ⟨g27, 1, none⟩))⟩,
        ⟨[2], [], [], Fct.val 25 (.int .i64 b2.2.1)⟩,
        ⟨[1, 3], [], [], Fct.val 26 (.bool (decide (x1.2.1 < b2.2.1)))⟩,
        ⟨[4], [], [], Fct.val 4 (.bool (decide (x1.2.1 < b2.2.1)))⟩]) (by kernel_rfl) hz35 hd35 (fun _ h => nomatch h) ?_ ?_
    · refine steps_cons (fun own a wx hf hsl hE => ?_) ?_
      · obtain ⟨s_2, -⟩ := hsl
        exact sg_plain rfl rfl (or_field fo30_1 (s_2.trans e35_2) (by rfl))
      refine steps_cons (fun own a wx hf hsl hE => ?_) ?_
      · obtain ⟨(f_22 : a.eval (.tmp 22) = .pointer (some ⟨g25, 1, none⟩)), -⟩ := hf
        exact sg_plain rfl rfl (or_load1 to3 f_22 (Blk.at_ (BlkO.evo (by decide) hE b35_g25).2 1 rfl))
      refine steps_cons (fun own a wx hf hsl hE => ?_) ?_
      · obtain ⟨s_3, -⟩ := hsl
        exact sg_plain rfl rfl (or_field fo30_1 (s_3.trans e35_3) (by rfl))
      refine steps_cons (fun own a wx hf hsl hE => ?_) ?_
      · obtain ⟨(f_24 : a.eval (.tmp 24) = .pointer (some ⟨g27, 1, none⟩)), -⟩ := hf
        exact sg_plain rfl rfl (or_load1 to3 f_24 (Blk.at_ (BlkO.evo (by decide) hE b35_g27).2 1 rfl))
      refine steps_cons (fun own a wx hf hsl hE => ?_) ?_
      · obtain ⟨(f_23 : a.eval (.tmp 23) = .int .i64 x1.2.1), (f_25 : a.eval (.tmp 25) = .int .i64 b2.2.1), -⟩ := hf
        exact sg_plain rfl rfl (or_lss f_23 f_25 rfl)
      refine steps_cons (fun own a wx hf hsl hE => ?_) ?_
      · obtain ⟨(f_26 : a.eval (.tmp 26) = .bool (decide (x1.2.1 < b2.2.1))), -⟩ := hf
        exact sg_plain rfl rfl (or_assign f_26)
      exact steps_nil
    intro own37 a37 w37 hd37 hz37 hk37 hf37 hE37
    obtain ⟨(f_4 : a37.eval (.tmp 4) = .bool (decide (x1.2.1 < b2.2.1))), -⟩ := hf37 [5] rfl
    have e37_4 := f_4
    have hX37 := Evo.step hX35 (fun _ => Nat.le_refl 0) hE37 rfl
    refine fl_ret ?_
    refine hp31 _ _ _ rfl ?_
    refine hp30 _ _ _ rfl ?_
    obtain rfl := osome hs
    exact hret _ _ _ _ (.inl rfl) hd37 (results1_ rfl (RVal.tmp_ e37_4)) ⟨own37, rfl, hX37⟩
  refine fl_skip ?_
  refine hn31 _ _ ?_
  refine hn30 _ _ ?_
  refine rg_plain_seq (n := 32) (rs := []) (own0 := own35) (K := [])
      (bs := [0, 1, 0, 4, 15, 31])
      (ds := [⟨[], [2], [], Fct.val 27 (.pointer (some ⟨g25, 2, none⟩))⟩,
      ⟨[0], [], [], Fct.val 28 (.int .i64 x1.2.2)⟩,
      ⟨[], [3], [], Fct.val 29 (.pointer (some ⟨g27, 2, none⟩))⟩,
      ⟨[2], [], [], Fct.val 30 (.int .i64 b2.2.2)⟩,
      ⟨[1, 3], [], [], Fct.val 31 (.bool (decide (x1.2.2 < b2.2.2)))⟩,
      ⟨[4], [], [], Fct.val 4 (.bool (decide (x1.2.2 < b2.2.2)))⟩]) (by kernel_rfl) hz35 hd35 (fun _ h => nomatch h) ?_ ?_
  · refine steps_cons (fun own a wx hf hsl hE => ?_) ?_
    · obtain ⟨s_2, -⟩ := hsl
      exact sg_plain rfl rfl (or_field fo30_2 (s_2.trans e35_2) (by rfl))
    refine steps_cons (fun own a wx hf hsl hE => ?_) ?_
    · obtain ⟨(f_27 : a.eval (.tmp 27) = .pointer (some ⟨g25, 2, none⟩)), -⟩ := hf
      exact sg_plain rfl rfl (or_load1 to3 f_27 (Blk.at_ (BlkO.evo (by decide) hE b35_g25).2 2 rfl))
    refine steps_cons (fun own a wx hf hsl hE => ?_) ?_
    · obtain ⟨s_3, -⟩ := hsl
      exact sg_plain rfl rfl (or_field fo30_2 (s_3.trans e35_3) (by rfl))
    refine steps_cons (fun own a wx hf hsl hE => ?_) ?_
    · obtain ⟨(f_29 : a.eval (.tmp 29) = .pointer (some ⟨g27, 2, none⟩)), -⟩ := hf
      exact sg_plain rfl rfl (or_load1 to3 f_29 (Blk.at_ (BlkO.evo (by decide) hE b35_g27).2 2 rfl))
    refine steps_cons (fun own a wx hf hsl hE => ?_) ?_
    · obtain ⟨(f_28 : a.eval (.tmp 28) = .int .i64 x1.2.2), (f_30 : a.eval (.tmp 30) = .int .i64 b2.2.2), -⟩ := hf
      exact sg_plain rfl rfl (or_lss f_28 f_30 rfl)
    refine steps_cons (fun own a wx hf hsl hE => ?_) ?_
    · obtain ⟨(f_31 : a.eval (.tmp 31) = .bool (decide (x1.2.2 < b2.2.2))), -⟩ := hf
      exact sg_plain rfl rfl (or_assign f_31)
    exact steps_nil
  intro own38 a38 w38 hd38 hz38 hk38 hf38 hE38
  obtain ⟨(f_4 : a38.eval (.tmp 4) = .bool (decide (x1.2.2 < b2.2.2))), -⟩ := hf38 [5] rfl
  have e38_4 := f_4
  have hX38 := Evo.step hX35 (fun _ => Nat.le_refl 0) hE38 rfl
  refine fl_ret ?_
  obtain rfl := osome hs
  exact hret _ _ _ _ (.inl rfl) hd38 (results1_ rfl (RVal.tmp_ e38_4)) ⟨own38, rfl, hX38⟩

theorem ref05_Less_w (w : World) (x1 : Int × Int × Int) (b2 : Int × Int × Int) (r : Bool) (hs : ref05_Less x1 b2 = some r) :
    Calls Try.prog 18 #[.agg #[.int .i64 x1.1, .int .i64 x1.2.1, .int .i64 x1.2.2], .agg #[.int .i64 b2.1, .int .i64 b2.2.1, .int .i64 b2.2.2]] w fun e w' => ∃ own' : Own, e = .returned (.bool r) ∧ Evo [] (fun _ => 0) own' w w' := by
  refine fl_enter (n := 38) rfl rfl rfl (Nat.le_of_ble_eq_true rfl) ?_
  intro a0 Q hd0 hz0 harg hret
  have ha0 := harg 0 _ rfl
  have ha1 := harg 1 _ rfl
  clear harg
  have hE0 : Evo [] (fun _ => 0) (fun _ => 0) w w := Evo.refl _ _ _
  refine rg_plain_seq (n := 38) (rs := []) (own0 := (fun _ => 0)) (K := [])
      (bs := [0, 0, 0])
      (ds := [⟨[], [0], [], Fct.blk 20 2 (fun g => .pointer (some ⟨g, 0, none⟩)) 41 #[.int .i64 x1.1, .int .i64 x1.2.1, .int .i64 x1.2.2]⟩,
      ⟨[], [1], [], Fct.blk 22 3 (fun g => .pointer (some ⟨g, 0, none⟩)) 41 #[.int .i64 b2.1, .int .i64 b2.2.1, .int .i64 b2.2.2]⟩,
      ⟨[], [], [], Fct.val 4 (.bool false)⟩]) (by kernel_rfl) hz0 hd0 (fun _ h => nomatch h) ?_ ?_
  · refine steps_cons (fun own a wx hf hsl hE => ?_) ?_
    · obtain ⟨s_0, -⟩ := hsl
      exact sg_plain rfl rfl (or_new [(0, .agg #[.int .i64 x1.1, .int .i64 x1.2.1, .int .i64 x1.2.2])] rfl rfl ⟨(s_0.trans ha0), trivial⟩ (by kernel_rfl))
    refine steps_cons (fun own a wx hf hsl hE => ?_) ?_
    · obtain ⟨s_1, -⟩ := hsl
      exact sg_plain rfl rfl (or_new [(1, .agg #[.int .i64 b2.1, .int .i64 b2.2.1, .int .i64 b2.2.2])] rfl rfl ⟨(s_1.trans ha1), trivial⟩ (by kernel_rfl))
    refine steps_cons (fun own a wx hf hsl hE => ?_) ?_
    · exact sg_plain rfl rfl (or_assign rfl)
    exact steps_nil
  intro own23 a23 w23 hd23 hz23 hk23 hf23 hE23
  obtain ⟨⟨g19, (f_2 : a23.eval (.tmp 2) = .pointer (some ⟨g19, 0, none⟩)), (b_g19 : BlkO own23 20 w23 g19 41 #[.int .i64 x1.1, .int .i64 x1.2.1, .int .i64 x1.2.2])⟩, ⟨g21, (f_3 : a23.eval (.tmp 3) = .pointer (some ⟨g21, 0, none⟩)), (b_g21 : BlkO own23 22 w23 g21 41 #[.int .i64 b2.1, .int .i64 b2.2.1, .int .i64 b2.2.2])⟩, -⟩ := hf23 [0, 1] rfl
  have e23_2 := f_2
  have e23_3 := f_3
  have hX23 := Evo.step hE0 (fun _ => Nat.le_refl 0) hE23 rfl
  have b23_g19 := b_g19
  have b23_g21 := b_g21
  obtain ⟨x24, hx24, hs⟩ := obind hs
  obtain ⟨x25, hx25, hs⟩ := obind hs
  refine rg_plain_seq (n := 38) (rs := []) (own0 := own23) (K := [])
      (bs := [0, 1, 0, 4, 15, 31, 63, 127, 63, 319, 1023, 2047, 4095, 8191, 4095, 20479, 65535, 131071, 262143, 524287, 262143, 1310719, 4194303, 8388607, 16777215, 33554431, 16777215, 83886079, 268435455, 536870911, 1073741823, 2147483647, 4294967295, 8589934591])
      (ds := [⟨[], [2], [], Fct.val 5 (.pointer (some ⟨g19, 0, none⟩))⟩,
      ⟨[0], [], [], Fct.val 6 (.int .i64 x1.1)⟩,
      ⟨[], [3], [], Fct.val 7 (.pointer (some ⟨g21, 0, none⟩))⟩,
      ⟨[2], [], [], Fct.val 8 (.int .i64 b2.1)⟩,
      ⟨[1, 3], [], [], Fct.val 9 (.bool (decide (x1.1 < b2.1)))⟩,
      ⟨[4], [], [], Fct.val 10 (.bool (decide (x1.1 < b2.1)))⟩,
      ⟨[5], [2], [], Fct.cond (!(decide (x1.1 < b2.1))) (some 11) (Fct.val 11 (.pointer (some ⟨g19, 0, none⟩)))⟩,
      ⟨[5, 6], [], [], Fct.cond (!(decide (x1.1 < b2.1))) (some 12) (Fct.val 12 (.int .i64 x1.1))⟩,
      ⟨[5], [3], [], Fct.cond (!(decide (x1.1 < b2.1))) (some 13) (Fct.val 13 (.pointer (some ⟨g21, 0, none⟩)))⟩,
      ⟨[5, 8], [], [], Fct.cond (!(decide (x1.1 < b2.1))) (some 14) (Fct.val 14 (.int .i64 b2.1))⟩,
      ⟨[5, 7, 9], [], [], Fct.cond (!(decide (x1.1 < b2.1))) (some 15) (Fct.val 15 (.bool (decide (x1.1 = b2.1))))⟩,
      ⟨[5, 10], [], [], Fct.cond (!(decide (x1.1 < b2.1))) (some 16) (Fct.val 16 (.bool (decide (x1.1 = b2.1))))⟩,
      ⟨[11], [2], [], Fct.cond ((!(decide (x1.1 < b2.1))) && (decide (x1.1 = b2.1))) (some 17) (Fct.val 17 (.pointer (some ⟨g19, 1, none⟩)))⟩,
      ⟨[11, 12], [], [], Fct.cond ((!(decide (x1.1 < b2.1))) && (decide (x1.1 = b2.1))) (some 18) (Fct.val 18 (.int .i64 x1.2.1))⟩,
      ⟨[11], [3], [], Fct.cond ((!(decide (x1.1 < b2.1))) && (decide (x1.1 = b2.1))) (some 19) (Fct.val 19 (.pointer (some ⟨g21, 1, none⟩)))⟩,
      ⟨[11, 14], [], [], Fct.cond ((!(decide (x1.1 < b2.1))) && (decide (x1.1 = b2.1))) (some 20) (Fct.val 20 (.int .i64 b2.2.1))⟩,
      ⟨[11, 13, 15], [], [], Fct.cond ((!(decide (x1.1 < b2.1))) && (decide (x1.1 = b2.1))) (some 21) (Fct.val 21 (.bool (decide (x1.2.1 < b2.2.1))))⟩,
      ⟨[11, 16], [], [], Fct.cond ((!(decide (x1.1 < b2.1))) && (decide (x1.1 = b2.1))) (some 22) (Fct.val 22 (.bool (decide (x1.2.1 < b2.2.1))))⟩,
      ⟨[17], [2], [], Fct.cond (((!(decide (x1.1 < b2.1))) && (decide (x1.1 = b2.1))) && (!(decide (x1.2.1 < b2.2.1)))) (some 23) (Fct.val 23 (.pointer (some ⟨g19, 1, none⟩)))⟩,
      ⟨[17, 18], [], [], Fct.cond (((!(decide (x1.1 < b2.1))) && (decide (x1.1 = b2.1))) && (!(decide (x1.2.1 < b2.2.1)))) (some 24) (Fct.val 24 (.int .i64 x1.2.1))⟩,
      ⟨[17], [3], [], Fct.cond (((!(decide (x1.1 < b2.1))) && (decide (x1.1 = b2.1))) && (!(decide (x1.2.1 < b2.2.1)))) (some 25) (Fct.val 25 (.pointer (some ⟨g21, 1, none⟩)))⟩,
      ⟨[17, 20], [], [], Fct.cond (((!(decide (x1.1 < b2.1))) && (decide (x1.1 = b2.1))) && (!(decide (x1.2.1 < b2.2.1)))) (some 26) (Fct.val 26 (.int .i64 b2.2.1))⟩,
      ⟨[17, 19, 21], [], [], Fct.cond (((!(decide (x1.1 < b2.1))) && (decide (x1.1 = b2.1))) && (!(decide (x1.2.1 < b2.2.1)))) (some 27) (Fct.val 27 (.bool (decide (x1.2.1 = b2.2.1))))⟩,
      ⟨[17, 22], [], [], Fct.cond (((!(decide (x1.1 < b2.1))) && (decide (x1.1 = b2.1))) && (!(decide (x1.2.1 < b2.2.1)))) (some 28) (Fct.val 28 (.bool (decide (x1.2.1 = b2.2.1))))⟩,
      ⟨[23], [2], [], Fct.cond ((((!(decide (x1.1 < b2.1))) && (decide (x1.1 = b2.1))) && (!(decide (x1.2.1 < b2.2.1)))) && (decide (x1.2.1 = b2.2.1))) (some 29) (Fct.val 29 (.pointer (some ⟨g19, 2, none⟩)))⟩,
      ⟨[23, 24], [], [], Fct.cond ((((!(decide (x1.1 < b2.1))) && (decide (x1.1 = b2.1))) && (!(decide (x1.2.1 < b2.2.1)))) && (decide (x1.2.1 = b2.2.1))) (some 30) (Fct.val 30 (.int .i64 x1.2.2))⟩,
      ⟨[23], [3], [], Fct.cond ((((!(decide (x1.1 < b2.1))) && (decide (x1.1 = b2.1))) && (!(decide (x1.2.1 < b2.2.1)))) && (decide (x1.2.1 = b2.2.1))) (some 31) (Fct.val 31 (.pointer (some ⟨g21, 2, none⟩)))⟩,
      ⟨[23, 26], [], [], Fct.cond ((((!(decide (x1.1 < b2.1))) && (decide (x1.1 = b2.1))) && (!(decide (x1.2.1 < b2.2.1)))) && (decide (x1.2.1 = b2.2.1))) (some 32) (Fct.val 32 (.int .i64 b2.2.2))⟩,
      ⟨[23, 25, 27], [], [], Fct.cond ((((!(decide (x1.1 < b2.1))) && (decide (x1.1 = b2.1))) && (!(decide (x1.2.1 < b2.2.1)))) && (decide (x1.2.1 = b2.2.1))) (some 33) (Fct.val 33 (.bool (decide (x1.2.2 < b2.2.2))))⟩,
      ⟨[17, 23, 28], [], [], Fct.cond (((!(decide (x1.1 < b2.1))) && (decide (x1.1 = b2.1))) && (!(decide (x1.2.1 < b2.2.1)))) (some 34) (Fct.val 34 (.bool x24))⟩,
      ⟨[11, 17, 29], [], [], Fct.cond ((!(decide (x1.1 < b2.1))) && (decide (x1.1 = b2.1))) (some 35) (Fct.val 35 (.bool ((decide (x1.2.1 < b2.2.1)) || x24)))⟩,
      ⟨[5, 11, 30], [], [], Fct.cond (!(decide (x1.1 < b2.1))) (some 36) (Fct.val 36 (.bool x25))⟩,
      ⟨[5, 31], [], [], Fct.val 37 (.bool ((decide (x1.1 < b2.1)) || x25))⟩,
      ⟨[32], [], [], Fct.val 4 (.bool ((decide (x1.1 < b2.1)) || x25))⟩]) (by kernel_rfl) hz23 hd23 (fun _ h => nomatch h) ?_ ?_
  · refine steps_cons (fun own a wx hf hsl hE => ?_) ?_
    · obtain ⟨s_2, -⟩ := hsl
      exact sg_plain rfl rfl (or_field fo41_0 (s_2.trans e23_2) (by rfl))
    refine steps_cons (fun own a wx hf hsl hE => ?_) ?_
    · obtain ⟨(f_5 : a.eval (.tmp 5) = .pointer (some ⟨g19, 0, none⟩)), -⟩ := hf
      exact sg_plain rfl rfl (or_load1 to3 f_5 (Blk.at_ (BlkO.evo (by decide) hE b23_g19).2 0 rfl))
    refine steps_cons (fun own a wx hf hsl hE => ?_) ?_
    · obtain ⟨s_3, -⟩ := hsl
      exact sg_plain rfl rfl (or_field fo41_0 (s_3.trans e23_3) (by rfl))
    refine steps_cons (fun own a wx hf hsl hE => ?_) ?_
    · obtain ⟨(f_7 : a.eval (.tmp 7) = .pointer (some ⟨g21, 0, none⟩)), -⟩ := hf
      exact sg_plain rfl rfl (or_load1 to3 f_7 (Blk.at_ (BlkO.evo (by decide) hE b23_g21).2 0 rfl))
    refine steps_cons (fun own a wx hf hsl hE => ?_) ?_
    · obtain ⟨(f_6 : a.eval (.tmp 6) = .int .i64 x1.1), (f_8 : a.eval (.tmp 8) = .int .i64 b2.1), -⟩ := hf
      exact sg_plain rfl rfl (or_lss f_6 f_8 rfl)
    refine steps_cons (fun own a wx hf hsl hE => ?_) ?_
    · obtain ⟨(f_9 : a.eval (.tmp 9) = .bool (decide (x1.1 < b2.1))), -⟩ := hf
      exact sg_plain rfl rfl (or_move f_9)
    refine steps_cons (fun own a wx hf hsl hE => ?_) ?_
    · obtain ⟨(f_10 : a.eval (.tmp 10) = .bool (decide (x1.1 < b2.1))), -⟩ := hf
      obtain ⟨s_2, -⟩ := hsl
      refine sg_f rfl rfl rfl f_10 (fun hg => ?_)
      exact or_field fo41_0 (s_2.trans e23_2) (by rfl)
    refine steps_cons (fun own a wx hf hsl hE => ?_) ?_
    · obtain ⟨(f_10 : a.eval (.tmp 10) = .bool (decide (x1.1 < b2.1))), c_11, -⟩ := hf
      refine sg_f rfl rfl rfl f_10 (fun hg => ?_)
      have f_11 : a.eval (.tmp 11) = .pointer (some ⟨g19, 0, none⟩) := c_11.1 hg
      exact or_load1 to3 f_11 (Blk.at_ (BlkO.evo (by decide) hE b23_g19).2 0 rfl)
    refine steps_cons (fun own a wx hf hsl hE => ?_) ?_
    · obtain ⟨(f_10 : a.eval (.tmp 10) = .bool (decide (x1.1 < b2.1))), -⟩ := hf
      obtain ⟨s_3, -⟩ := hsl
      refine sg_f rfl rfl rfl f_10 (fun hg => ?_)
      exact or_field fo41_0 (s_3.trans e23_3) (by rfl)
    refine steps_cons (fun own a wx hf hsl hE => ?_) ?_
    · obtain ⟨(f_10 : a.eval (.tmp 10) = .bool (decide (x1.1 < b2.1))), c_13, -⟩ := hf
      refine sg_f rfl rfl rfl f_10 (fun hg => ?_)
      have f_13 : a.eval (.tmp 13) = .pointer (some ⟨g21, 0, none⟩) := c_13.1 hg
      exact or_load1 to3 f_13 (Blk.at_ (BlkO.evo (by decide) hE b23_g21).2 0 rfl)
    refine steps_cons (fun own a wx hf hsl hE => ?_) ?_
    · obtain ⟨(f_10 : a.eval (.tmp 10) = .bool (decide (x1.1 < b2.1))), c_12, c_14, -⟩ := hf
      refine sg_f rfl rfl rfl f_10 (fun hg => ?_)
      have f_12 : a.eval (.tmp 12) = .int .i64 x1.1 := c_12.1 hg
      have f_14 : a.eval (.tmp 14) = .int .i64 b2.1 := c_14.1 hg
      exact or_eql f_12 f_14 rfl
    refine steps_cons (fun own a wx hf hsl hE => ?_) ?_
    · obtain ⟨(f_10 : a.eval (.tmp 10) = .bool (decide (x1.1 < b2.1))), c_15, -⟩ := hf
      refine sg_f rfl rfl rfl f_10 (fun hg => ?_)
      have f_15 : a.eval (.tmp 15) = .bool (decide (x1.1 = b2.1)) := c_15.1 hg
      exact or_move f_15
    refine steps_cons (fun own a wx hf hsl hE => ?_) ?_
    · obtain ⟨c_16, -⟩ := hf
      obtain ⟨s_2, -⟩ := hsl
      refine sg_tc rfl rfl rfl c_16 (fun hg => ?_)
      have f_16 : a.eval (.tmp 16) = .bool (decide (x1.1 = b2.1)) := c_16.1 (gL hg)
      exact or_field fo41_1 (s_2.trans e23_2) (by rfl)
    refine steps_cons (fun own a wx hf hsl hE => ?_) ?_
    · obtain ⟨c_16, c_17, -⟩ := hf
      refine sg_tc rfl rfl rfl c_16 (fun hg => ?_)
      have f_16 : a.eval (.tmp 16) = .bool (decide (x1.1 = b2.1)) := c_16.1 (gL hg)
      have f_17 : a.eval (.tmp 17) = .pointer (some ⟨g19, 1, none⟩) := c_17.1 hg
      exact or_load1 to3 f_17 (Blk.at_ (BlkO.evo (by decide) hE b23_g19).2 1 rfl)
    refine steps_cons (fun own a wx hf hsl hE => ?_) ?_
    · obtain ⟨c_16, -⟩ := hf
      obtain ⟨s_3, -⟩ := hsl
      refine sg_tc rfl rfl rfl c_16 (fun hg => ?_)
      have f_16 : a.eval (.tmp 16) = .bool (decide (x1.1 = b2.1)) := c_16.1 (gL hg)
      exact or_field fo41_1 (s_3.trans e23_3) (by rfl)
    refine steps_cons (fun own a wx hf hsl hE => ?_) ?_
    · obtain ⟨c_16, c_19, -⟩ := hf
      refine sg_tc rfl rfl rfl c_16 (fun hg => ?_)
      have f_16 : a.eval (.tmp 16) = .bool (decide (x1.1 = b2.1)) := c_16.1 (gL hg)
      have f_19 : a.eval (.tmp 19) = .pointer (some ⟨g21, 1, none⟩) := c_19.1 hg
      exact or_load1 to3 f_19 (Blk.at_ (BlkO.evo (by decide) hE b23_g21).2 1 rfl)
    refine steps_cons (fun own a wx hf hsl hE => ?_) ?_
    · obtain ⟨c_16, c_18, c_20, -⟩ := hf
      refine sg_tc rfl rfl rfl c_16 (fun hg => ?_)
      have f_16 : a.eval (.tmp 16) = .bool (decide (x1.1 = b2.1)) := c_16.1 (gL hg)
      have f_18 : a.eval (.tmp 18) = .int .i64 x1.2.1 := c_18.1 hg
      have f_20 : a.eval (.tmp 20) = .int .i64 b2.2.1 := c_20.1 hg
      exact or_lss f_18 f_20 rfl
    refine steps_cons (fun own a wx hf hsl hE => ?_) ?_
    · obtain ⟨c_16, c_21, -⟩ := hf
      refine sg_tc rfl rfl rfl c_16 (fun hg => ?_)
      have f_16 : a.eval (.tmp 16) = .bool (decide (x1.1 = b2.1)) := c_16.1 (gL hg)
      have f_21 : a.eval (.tmp 21) = .bool (decide (x1.2.1 < b2.2.1)) := c_21.1 hg
      exact or_move f_21
    refine steps_cons (fun own a wx hf hsl hE => ?_) ?_
    · obtain ⟨c_22, -⟩ := hf
      obtain ⟨s_2, -⟩ := hsl
      refine sg_fc rfl rfl rfl c_22 (fun hg => ?_)
      have f_22 : a.eval (.tmp 22) = .bool (decide (x1.2.1 < b2.2.1)) := c_22.1 (gL hg)
      exact or_field fo41_1 (s_2.trans e23_2) (by rfl)
    refine steps_cons (fun own a wx hf hsl hE => ?_) ?_
    · obtain ⟨c_22, c_23, -⟩ := hf
      refine sg_fc rfl rfl rfl c_22 (fun hg => ?_)
      have f_22 : a.eval (.tmp 22) = .bool (decide (x1.2.1 < b2.2.1)) := c_22.1 (gL hg)
      have f_23 : a.eval (.tmp 23) = .pointer (some ⟨g19, 1, none⟩) := c_23.1 hg
      exact or_load1 to3 f_23 (Blk.at_ (BlkO.evo (by decide) hE b23_g19).2 1 rfl)
    refine steps_cons (fun own a wx hf hsl hE => ?_) ?_
    · obtain ⟨c_22, -⟩ := hf
      obtain ⟨s_3, -⟩ := hsl
      refine sg_fc rfl rfl rfl c_22 (fun hg => ?_)
      have f_22 : a.eval (.tmp 22) = .bool (decide (x1.2.1 < b2.2.1)) := c_22.1 (gL hg)
      exact or_field fo41_1 (s_3.trans e23_3) (by rfl)
    refine steps_cons (fun own a wx hf hsl hE => ?_) ?_
    · obtain ⟨c_22, c_25, -⟩ := hf
      refine sg_fc rfl rfl rfl c_22 (fun hg => ?_)
      have f_22 : a.eval (.tmp 22) = .bool (decide (x1.2.1 < b2.2.1)) := c_22.1 (gL hg)
      have f_25 : a.eval (.tmp 25) = .pointer (some ⟨g21, 1, none⟩) := c_25.1 hg
      exact or_load1 to3 f_25 (Blk.at_ (BlkO.evo (by decide) hE b23_g21).2 1 rfl)
    refine steps_cons (fun own a wx hf hsl hE => ?_) ?_
    · obtain ⟨c_22, c_24, c_26, -⟩ := hf
      refine sg_fc rfl rfl rfl c_22 (fun hg => ?_)
      have f_22 : a.eval (.tmp 22) = .bool (decide (x1.2.1 < b2.2.1)) := c_22.1 (gL hg)
      have f_24 : a.eval (.tmp 24) = .int .i64 x1.2.1 := c_24.1 hg
      have f_26 : a.eval (.tmp 26) = .int .i64 b2.2.1 := c_26.1 hg
      exact or_eql f_24 f_26 rfl
    refine steps_cons (fun own a wx hf hsl hE => ?_) ?_
    · obtain ⟨c_22, c_27, -⟩ := hf
      refine sg_fc rfl rfl rfl c_22 (fun hg => ?_)
      have f_22 : a.eval (.tmp 22) = .bool (decide (x1.2.1 < b2.2.1)) := c_22.1 (gL hg)
      have f_27 : a.eval (.tmp 27) = .bool (decide (x1.2.1 = b2.2.1)) := c_27.1 hg
      exact or_move f_27
    refine steps_cons (fun own a wx hf hsl hE => ?_) ?_
    · obtain ⟨c_28, -⟩ := hf
      obtain ⟨s_2, -⟩ := hsl
      refine sg_tc rfl rfl rfl c_28 (fun hg => ?_)
      have f_28 : a.eval (.tmp 28) = .bool (decide (x1.2.1 = b2.2.1)) := c_28.1 (gL hg)
      exact or_field fo41_2 (s_2.trans e23_2) (by rfl)
    refine steps_cons (fun own a wx hf hsl hE => ?_) ?_
    · obtain ⟨c_28, c_29, -⟩ := hf
      refine sg_tc rfl rfl rfl c_28 (fun hg => ?_)
      have f_28 : a.eval (.tmp 28) = .bool (decide (x1.2.1 = b2.2.1)) := c_28.1 (gL hg)
      have f_29 : a.eval (.tmp 29) = .pointer (some ⟨g19, 2, none⟩) := c_29.1 hg
      exact or_load1 to3 f_29 (Blk.at_ (BlkO.evo (by decide) hE b23_g19).2 2 rfl)
    refine steps_cons (fun own a wx hf hsl hE => ?_) ?_
    · obtain ⟨c_28, -⟩ := hf
      obtain ⟨s_3, -⟩ := hsl
      refine sg_tc rfl rfl rfl c_28 (fun hg => ?_)
      have f_28 : a.eval (.tmp 28) = .bool (decide (x1.2.1 = b2.2.1)) := c_28.1 (gL hg)
      exact or_field fo41_2 (s_3.trans e23_3) (by rfl)
    refine steps_cons (fun own a wx hf hsl hE => ?_) ?_
    · obtain ⟨c_28, c_31, -⟩ := hf
      refine sg_tc rfl rfl rfl c_28 (fun hg => ?_)
      have f_28 : a.eval (.tmp 28) = .bool (decide (x1.2.1 = b2.2.1)) := c_28.1 (gL hg)
      have f_31 : a.eval (.tmp 31) = .pointer (some ⟨g21, 2, none⟩) := c_31.1 hg
      exact or_load1 to3 f_31 (Blk.at_ (BlkO.evo (by decide) hE b23_g21).2 2 rfl)
    refine steps_cons (fun own a wx hf hsl hE => ?_) ?_
    · obtain ⟨c_28, c_30, c_32, -⟩ := hf
      refine sg_tc rfl rfl rfl c_28 (fun hg => ?_)
      have f_28 : a.eval (.tmp 28) = .bool (decide (x1.2.1 = b2.2.1)) := c_28.1 (gL hg)
      have f_30 : a.eval (.tmp 30) = .int .i64 x1.2.2 := c_30.1 hg
      have f_32 : a.eval (.tmp 32) = .int .i64 b2.2.2 := c_32.1 hg
      exact or_lss f_30 f_32 rfl
    refine steps_cons (fun own a wx hf hsl hE => ?_) ?_
    · obtain ⟨c_22, c_28, c_33, -⟩ := hf
      refine sg_fc rfl rfl rfl c_22 (fun hg => ?_)
      have f_22 : a.eval (.tmp 22) = .bool (decide (x1.2.1 < b2.2.1)) := c_22.1 (gL hg)
      have f_28 : a.eval (.tmp 28) = .bool (decide (x1.2.1 = b2.2.1)) := c_28.1 hg
      exact or_and f_28 (fun hx => c_33.1 (gI hg hx)) rfl (osome hx24).symm
    refine steps_cons (fun own a wx hf hsl hE => ?_) ?_
    · obtain ⟨c_16, c_22, c_34, -⟩ := hf
      refine sg_tc rfl rfl rfl c_16 (fun hg => ?_)
      have f_16 : a.eval (.tmp 16) = .bool (decide (x1.1 = b2.1)) := c_16.1 (gL hg)
      have f_22 : a.eval (.tmp 22) = .bool (decide (x1.2.1 < b2.2.1)) := c_22.1 hg
      exact or_or f_22 rfl (fun hx => c_34.1 (gI hg hx)) rfl
    refine steps_cons (fun own a wx hf hsl hE => ?_) ?_
    · obtain ⟨(f_10 : a.eval (.tmp 10) = .bool (decide (x1.1 < b2.1))), c_16, c_35, -⟩ := hf
      refine sg_f rfl rfl rfl f_10 (fun hg => ?_)
      have f_16 : a.eval (.tmp 16) = .bool (decide (x1.1 = b2.1)) := c_16.1 hg
      exact or_and f_16 (fun hx => c_35.1 (gI hg hx)) rfl (osome hx25).symm
    refine steps_cons (fun own a wx hf hsl hE => ?_) ?_
    · obtain ⟨(f_10 : a.eval (.tmp 10) = .bool (decide (x1.1 < b2.1))), c_36, -⟩ := hf
      exact sg_plain rfl rfl (or_or f_10 rfl (fun hx => c_36.1 hx) rfl)
    refine steps_cons (fun own a wx hf hsl hE => ?_) ?_
    · obtain ⟨(f_37 : a.eval (.tmp 37) = .bool ((decide (x1.1 < b2.1)) || x25)), -⟩ := hf
      exact sg_plain rfl rfl (or_assign f_37)
    exact steps_nil
  intro own26 a26 w26 hd26 hz26 hk26 hf26 hE26
  obtain ⟨(f_4 : a26.eval (.tmp 4) = .bool ((decide (x1.1 < b2.1)) || x25)), -⟩ := hf26 [33] rfl
  have e26_4 := f_4
  have hX26 := Evo.step hX23 (fun _ => Nat.le_refl 0) hE26 rfl
  refine fl_ret ?_
  obtain rfl := osome hs
  exact hret _ _ _ _ (.inl rfl) hd26 (results1_ rfl (RVal.tmp_ e26_4)) ⟨own26, rfl, hX26⟩

theorem heap_list_count_w (w : World) (x1 : (List (Int × Int × Int))) (gx1 : Nat) (tx1 : TypeId) (Ax1_0 : Option Addr) (cx1_0 : Nat) (hgx1 : BlkO (fun _ => 0) 0 w gx1 tx1 #[.slice Ax1_0 x1.length cx1_0]) (hAx1_0 : RdO (fun _ => 0) [0] w R30 Ax1_0 cx1_0 x1) (r : Int) (hs : heap_list_count x1 = some r) :
    Calls Try.prog 20 #[.pointer (some ⟨gx1, 0, none⟩)] w fun e w' => ∃ own' : Own, e = .returned (.int .i64 r) ∧ Evo [] (fun _ => 0) own' w w' := by
  refine fl_enter (n := 8) rfl rfl rfl (Nat.le_of_ble_eq_true rfl) ?_
  intro a0 Q hd0 hz0 harg hret
  have ha0 := harg 0 _ rfl
  clear harg
  have hE0 : Evo [] (fun _ => 0) (fun _ => 0) w w := Evo.refl _ _ _
  refine rg_plain_seq (n := 8) (rs := []) (own0 := (fun _ => 0)) (K := [])
      (bs := [0])
      (ds := [⟨[], [], [], Fct.val 2 (.int .i64 0)⟩]) (by kernel_rfl) hz0 hd0 (fun _ h => nomatch h) ?_ ?_
  · refine steps_cons (fun own a wx hf hsl hE => ?_) ?_
    · exact sg_plain rfl rfl (or_assign rfl)
    exact steps_nil
  intro own13 a13 w13 hd13 hz13 hk13 hf13 hE13
  have e13_0 : a13.eval (.tmp 0) = .pointer (some ⟨gx1, 0, none⟩) := (hk13 0 rfl).trans ha0
  have hX13 := Evo.step hE0 (fun _ => Nat.le_refl 0) hE13 rfl
  have b13_Ax1_0 := RdO.evo rfl hE13 hAx1_0
  have b13_gx1 := BlkO.evo (by decide) hE13 hgx1
  refine rg_plain_seq (n := 8) (rs := []) (own0 := own13) (K := [])
      (bs := [0, 1, 3, 7, 15, 31])
      (ds := [⟨[], [0], [], Fct.val 3 (.pointer (some ⟨gx1, 0, none⟩))⟩,
      ⟨[0], [], [], Fct.val 4 (.pointer (some ⟨gx1, 0, none⟩))⟩,
      ⟨[1], [], [], Fct.val 5 (.pointer (some ⟨gx1, 0, none⟩))⟩,
      ⟨[2], [], [], Fct.val 6 (.slice Ax1_0 x1.length cx1_0)⟩,
      ⟨[3], [], [], Fct.val 7 (.int .i64 (x1.length : Int))⟩,
      ⟨[4], [], [], Fct.val 2 (.int .i64 (x1.length : Int))⟩]) (by kernel_rfl) hz13 hd13 (fun _ h => nomatch h) ?_ ?_
  · refine steps_cons (fun own a wx hf hsl hE => ?_) ?_
    · obtain ⟨s_0, -⟩ := hsl
      exact sg_plain rfl rfl (or_move (s_0.trans e13_0))
    refine steps_cons (fun own a wx hf hsl hE => ?_) ?_
    · obtain ⟨(f_3 : a.eval (.tmp 3) = .pointer (some ⟨gx1, 0, none⟩)), -⟩ := hf
      exact sg_plain rfl rfl (or_k [(3, .pointer (some ⟨gx1, 0, none⟩))] rfl rfl ⟨f_3, trivial⟩ (by kernel_rfl))
    refine steps_cons (fun own a wx hf hsl hE => ?_) ?_
    · obtain ⟨(f_4 : a.eval (.tmp 4) = .pointer (some ⟨gx1, 0, none⟩)), -⟩ := hf
      exact sg_plain rfl rfl (or_field fo24_0 f_4 (by rfl))
    refine steps_cons (fun own a wx hf hsl hE => ?_) ?_
    · obtain ⟨(f_5 : a.eval (.tmp 5) = .pointer (some ⟨gx1, 0, none⟩)), -⟩ := hf
      exact sg_plain rfl rfl (or_load1 to22 f_5 (Blk.at_ (BlkO.evo (by decide) hE b13_gx1).2 0 rfl))
    refine steps_cons (fun own a wx hf hsl hE => ?_) ?_
    · obtain ⟨(f_6 : a.eval (.tmp 6) = .slice Ax1_0 x1.length cx1_0), -⟩ := hf
      exact sg_plain rfl rfl (or_len tu22 f_6 rfl)
    refine steps_cons (fun own a wx hf hsl hE => ?_) ?_
    · obtain ⟨(f_7 : a.eval (.tmp 7) = .int .i64 (x1.length : Int)), -⟩ := hf
      exact sg_plain rfl rfl (or_assign f_7)
    exact steps_nil
  intro own14 a14 w14 hd14 hz14 hk14 hf14 hE14
  obtain ⟨(f_2 : a14.eval (.tmp 2) = .int .i64 (x1.length : Int)), -⟩ := hf14 [5] rfl
  have e14_2 := f_2
  have hX14 := Evo.step hX13 (fun _ => Nat.le_refl 0) hE14 rfl
  refine fl_ret ?_
  obtain rfl := osome hs
  exact hret _ _ _ _ (.inl rfl) hd14 (results1_ rfl (RVal.tmp_ e14_2)) ⟨own14, rfl, hX14⟩

theorem heap_list_swap_w (w : World) (own : Own) (x1 : (List (Int × Int × Int))) (gx1 : Nat) (tx1 : TypeId) (Ax1_0 : Option Addr) (cx1_0 : Nat) (i2 : Int) (k3 : Int) (hown : ∀ b, own b ≤ 2) (hgx1 : BlkO own 1 w gx1 tx1 #[.slice Ax1_0 x1.length cx1_0]) (hAx1_0 : RwO own 2 [] w 30 R30 Ax1_0 cx1_0 x1) (r : (List (Int × Int × Int))) (hs : heap_list_swap x1 i2 k3 = some r) :
    Calls Try.prog 22 #[.pointer (some ⟨gx1, 0, none⟩), .int .i64 i2, .int .i64 k3] w fun e w' => ∃ (own' : Own) (x : Option Addr × Nat), e = .returned (.tuple #[]) ∧ Evo [1, 2] own own' w w' ∧ RwO own' 2 [] w' 30 R30 x.1 x.2 r ∧ BlkO own' 1 w' gx1 tx1 #[.slice x.1 r.length x.2] := by
  refine fl_enter (n := 32) rfl rfl rfl (Nat.le_of_ble_eq_true rfl) ?_
  intro a0 Q hd0 hz0 harg hret
  have ha0 := harg 0 _ rfl
  have ha1 := harg 1 _ rfl
  have ha2 := harg 2 _ rfl
  clear harg
  have hE0 : Evo [1, 2] own own w w := Evo.refl _ _ _
  obtain ⟨x30, hx30, hs⟩ := obind hs
  obtain ⟨x31, hx31, hs⟩ := obind hs
  obtain ⟨x32, hx32, hs⟩ := obind hs
  obtain ⟨l33, hl33, hs⟩ := obind hs
  obtain ⟨x35, hx35, hs⟩ := obind hs
  obtain ⟨l36, hl36, hs⟩ := obind hs
  refine rg_draw g_mixed (n := 32) (rs := [Fct.rowAt 2 [] 30 R30 Ax1_0 cx1_0 x1]) (own0 := own) (K := [2, 34])
      (bs := [0, 1, 3, 7, 0, 0, 32, 96, 224, 0, 0, 1024, 3072, 7168, 0, 31744, 64512, 0, 131072, 393216, 917504, 0, 4063232, 8257536, 16776703, 33553919, 67108863, 134217727])
      (ds := [⟨[], [0], [], Fct.val 6 (.pointer (some ⟨gx1, 0, none⟩))⟩,
      ⟨[0], [], [], Fct.val 7 (.pointer (some ⟨gx1, 0, none⟩))⟩,
      ⟨[1], [], [], Fct.val 8 (.pointer (some ⟨gx1, 0, none⟩))⟩,
      ⟨[2], [], [], Fct.val 9 (.slice Ax1_0 x1.length cx1_0)⟩,
      ⟨[], [1], [], Fct.val 10 (.int .i64 i2)⟩,
      ⟨[], [0], [], Fct.val 11 (.pointer (some ⟨gx1, 0, none⟩))⟩,
      ⟨[5], [], [], Fct.val 12 (.pointer (some ⟨gx1, 0, none⟩))⟩,
      ⟨[6], [], [], Fct.val 13 (.pointer (some ⟨gx1, 0, none⟩))⟩,
      ⟨[7], [], [], Fct.val 14 (.slice Ax1_0 x1.length cx1_0)⟩,
      ⟨[], [2], [], Fct.val 15 (.int .i64 k3)⟩,
      ⟨[], [0], [], Fct.val 16 (.pointer (some ⟨gx1, 0, none⟩))⟩,
      ⟨[10], [], [], Fct.val 17 (.pointer (some ⟨gx1, 0, none⟩))⟩,
      ⟨[11], [], [], Fct.val 18 (.pointer (some ⟨gx1, 0, none⟩))⟩,
      ⟨[12], [], [], Fct.val 19 (.slice Ax1_0 x1.length cx1_0)⟩,
      ⟨[], [2], [], Fct.val 20 (.int .i64 k3)⟩,
      ⟨[13, 14], [], [], Fct.val 21 (.pointer (some ((adr Ax1_0).add ((k3 : Int).toNat * R30.s))))⟩,
      ⟨[15, 28], [], [], Fct.val 22 (.agg #[.int .i64 x30.1, .int .i64 x30.2.1, .int .i64 x30.2.2])⟩,
      ⟨[], [0], [], Fct.val 23 (.pointer (some ⟨gx1, 0, none⟩))⟩,
      ⟨[17], [], [], Fct.val 24 (.pointer (some ⟨gx1, 0, none⟩))⟩,
      ⟨[18], [], [], Fct.val 25 (.pointer (some ⟨gx1, 0, none⟩))⟩,
      ⟨[19], [], [], Fct.val 26 (.slice Ax1_0 x1.length cx1_0)⟩,
      ⟨[], [1], [], Fct.val 27 (.int .i64 i2)⟩,
      ⟨[20, 21], [], [], Fct.val 28 (.pointer (some ((adr Ax1_0).add ((i2 : Int).toNat * R30.s))))⟩,
      ⟨[22, 28], [], [], Fct.val 29 (.agg #[.int .i64 x31.1, .int .i64 x31.2.1, .int .i64 x31.2.2])⟩,
      ⟨[3, 4], [], [], Fct.val 30 (.pointer (some ((adr Ax1_0).add ((i2 : Int).toNat * R30.s))))⟩,
      ⟨[24, 16, 28], [], [2], Fct.rowAt 34 [] 30 R30 Ax1_0 cx1_0 l33⟩,
      ⟨[8, 9], [], [], Fct.val 31 (.pointer (some ((adr Ax1_0).add ((k3 : Int).toNat * R30.s))))⟩,
      ⟨[26, 23, 25], [], [34], Fct.rowAt 37 [] 30 R30 Ax1_0 cx1_0 l36⟩]) (by kernel_rfl) hz0 hd0 (by simp only [List.forall_mem_cons]; exact ⟨hAx1_0, fun _ h => nomatch h⟩) ?_ ?_
  · refine steps_cons (fun own a wx hf hsl hE => ?_) ?_
    · obtain ⟨s_0, -⟩ := hsl
      exact sg_plain rfl rfl (or_move (s_0.trans ha0))
    refine steps_cons (fun own a wx hf hsl hE => ?_) ?_
    · obtain ⟨(f_6 : a.eval (.tmp 6) = .pointer (some ⟨gx1, 0, none⟩)), -⟩ := hf
      exact sg_plain rfl rfl (or_k [(6, .pointer (some ⟨gx1, 0, none⟩))] rfl rfl ⟨f_6, trivial⟩ (by kernel_rfl))
    refine steps_cons (fun own a wx hf hsl hE => ?_) ?_
    · obtain ⟨(f_7 : a.eval (.tmp 7) = .pointer (some ⟨gx1, 0, none⟩)), -⟩ := hf
      exact sg_plain rfl rfl (or_field fo24_0 f_7 (by rfl))
    refine steps_cons (fun own a wx hf hsl hE => ?_) ?_
    · obtain ⟨(f_8 : a.eval (.tmp 8) = .pointer (some ⟨gx1, 0, none⟩)), -⟩ := hf
      exact sg_plain rfl rfl (or_load1 to22 f_8 (Blk.at_ (BlkO.evo (by decide) hE hgx1).2 0 rfl))
    refine steps_cons (fun own a wx hf hsl hE => ?_) ?_
    · obtain ⟨s_1, -⟩ := hsl
      exact sg_plain rfl rfl (or_move (s_1.trans ha1))
    refine steps_cons (fun own a wx hf hsl hE => ?_) ?_
    · obtain ⟨s_0, -⟩ := hsl
      exact sg_plain rfl rfl (or_move (s_0.trans ha0))
    refine steps_cons (fun own a wx hf hsl hE => ?_) ?_
    · obtain ⟨(f_11 : a.eval (.tmp 11) = .pointer (some ⟨gx1, 0, none⟩)), -⟩ := hf
      exact sg_plain rfl rfl (or_k [(11, .pointer (some ⟨gx1, 0, none⟩))] rfl rfl ⟨f_11, trivial⟩ (by kernel_rfl))
    refine steps_cons (fun own a wx hf hsl hE => ?_) ?_
    · obtain ⟨(f_12 : a.eval (.tmp 12) = .pointer (some ⟨gx1, 0, none⟩)), -⟩ := hf
      exact sg_plain rfl rfl (or_field fo24_0 f_12 (by rfl))
    refine steps_cons (fun own a wx hf hsl hE => ?_) ?_
    · obtain ⟨(f_13 : a.eval (.tmp 13) = .pointer (some ⟨gx1, 0, none⟩)), -⟩ := hf
      exact sg_plain rfl rfl (or_load1 to22 f_13 (Blk.at_ (BlkO.evo (by decide) hE hgx1).2 0 rfl))
    refine steps_cons (fun own a wx hf hsl hE => ?_) ?_
    · obtain ⟨s_2, -⟩ := hsl
      exact sg_plain rfl rfl (or_move (s_2.trans ha2))
    refine steps_cons (fun own a wx hf hsl hE => ?_) ?_
    · obtain ⟨s_0, -⟩ := hsl
      exact sg_plain rfl rfl (or_move (s_0.trans ha0))
    refine steps_cons (fun own a wx hf hsl hE => ?_) ?_
    · obtain ⟨(f_16 : a.eval (.tmp 16) = .pointer (some ⟨gx1, 0, none⟩)), -⟩ := hf
      exact sg_plain rfl rfl (or_k [(16, .pointer (some ⟨gx1, 0, none⟩))] rfl rfl ⟨f_16, trivial⟩ (by kernel_rfl))
    refine steps_cons (fun own a wx hf hsl hE => ?_) ?_
    · obtain ⟨(f_17 : a.eval (.tmp 17) = .pointer (some ⟨gx1, 0, none⟩)), -⟩ := hf
      exact sg_plain rfl rfl (or_field fo24_0 f_17 (by rfl))
    refine steps_cons (fun own a wx hf hsl hE => ?_) ?_
    · obtain ⟨(f_18 : a.eval (.tmp 18) = .pointer (some ⟨gx1, 0, none⟩)), -⟩ := hf
      exact sg_plain rfl rfl (or_load1 to22 f_18 (Blk.at_ (BlkO.evo (by decide) hE hgx1).2 0 rfl))
    refine steps_cons (fun own a wx hf hsl hE => ?_) ?_
    · obtain ⟨s_2, -⟩ := hsl
      exact sg_plain rfl rfl (or_move (s_2.trans ha2))
    refine steps_cons (fun own a wx hf hsl hE => ?_) ?_
    · obtain ⟨(f_19 : a.eval (.tmp 19) = .slice Ax1_0 x1.length cx1_0), (f_20 : a.eval (.tmp 20) = .int .i64 k3), -⟩ := hf
      exact sg_plain rfl rfl (or_index (R := R30) (l := x1) tl22 f_19 f_20 (RdO.some_ (RwO.rd hAx1_0) hx30) hx30)
    refine steps_cons (fun own a wx hf hsl hE => ?_) ?_
    · obtain ⟨(f_21 : a.eval (.tmp 21) = .pointer (some ((adr Ax1_0).add ((k3 : Int).toNat * R30.s)))), (b_Ax1_0 : RwO own 2 [] wx 30 R30 Ax1_0 cx1_0 x1), -⟩ := hf
      exact sg_plain rfl rfl (or_load (l := E30.f x30) ta30 f_21 (RdO.cells (F := E30) (RwO.rd b_Ax1_0) hx30) rfl)
    refine steps_cons (fun own a wx hf hsl hE => ?_) ?_
    · obtain ⟨s_0, -⟩ := hsl
      exact sg_plain rfl rfl (or_move (s_0.trans ha0))
    refine steps_cons (fun own a wx hf hsl hE => ?_) ?_
    · obtain ⟨(f_23 : a.eval (.tmp 23) = .pointer (some ⟨gx1, 0, none⟩)), -⟩ := hf
      exact sg_plain rfl rfl (or_k [(23, .pointer (some ⟨gx1, 0, none⟩))] rfl rfl ⟨f_23, trivial⟩ (by kernel_rfl))
    refine steps_cons (fun own a wx hf hsl hE => ?_) ?_
    · obtain ⟨(f_24 : a.eval (.tmp 24) = .pointer (some ⟨gx1, 0, none⟩)), -⟩ := hf
      exact sg_plain rfl rfl (or_field fo24_0 f_24 (by rfl))
    refine steps_cons (fun own a wx hf hsl hE => ?_) ?_
    · obtain ⟨(f_25 : a.eval (.tmp 25) = .pointer (some ⟨gx1, 0, none⟩)), -⟩ := hf
      exact sg_plain rfl rfl (or_load1 to22 f_25 (Blk.at_ (BlkO.evo (by decide) hE hgx1).2 0 rfl))
    refine steps_cons (fun own a wx hf hsl hE => ?_) ?_
    · obtain ⟨s_1, -⟩ := hsl
      exact sg_plain rfl rfl (or_move (s_1.trans ha1))
    refine steps_cons (fun own a wx hf hsl hE => ?_) ?_
    · obtain ⟨(f_26 : a.eval (.tmp 26) = .slice Ax1_0 x1.length cx1_0), (f_27 : a.eval (.tmp 27) = .int .i64 i2), -⟩ := hf
      exact sg_plain rfl rfl (or_index (R := R30) (l := x1) tl22 f_26 f_27 (RdO.some_ (RwO.rd hAx1_0) hx31) hx31)
    refine steps_cons (fun own a wx hf hsl hE => ?_) ?_
    · obtain ⟨(f_28 : a.eval (.tmp 28) = .pointer (some ((adr Ax1_0).add ((i2 : Int).toNat * R30.s)))), (b_Ax1_0 : RwO own 2 [] wx 30 R30 Ax1_0 cx1_0 x1), -⟩ := hf
      exact sg_plain rfl rfl (or_load (l := E30.f x31) ta30 f_28 (RdO.cells (F := E30) (RwO.rd b_Ax1_0) hx31) rfl)
    refine steps_cons (fun own a wx hf hsl hE => ?_) ?_
    · obtain ⟨(f_9 : a.eval (.tmp 9) = .slice Ax1_0 x1.length cx1_0), (f_10 : a.eval (.tmp 10) = .int .i64 i2), -⟩ := hf
      exact sg_plain rfl rfl (or_index (R := R30) (l := x1) tl22 f_9 f_10 (RdO.some_ (RwO.rd hAx1_0) hx32) hx32)
    refine steps_cons (fun own a wx hf hsl hE => ?_) ?_
    · obtain ⟨(f_30 : a.eval (.tmp 30) = .pointer (some ((adr Ax1_0).add ((i2 : Int).toNat * R30.s)))), (f_22 : a.eval (.tmp 22) = .agg #[.int .i64 x30.1, .int .i64 x30.2.1, .int .i64 x30.2.2]), (b_Ax1_0 : RwO own 2 [] wx 30 R30 Ax1_0 cx1_0 x1), -⟩ := hf
      exact sg_plain rfl rfl (or_storeIx (R := R30) (lab := 2) (lab2 := 34) (cs := [.int .i64 x30.1, .int .i64 x30.2.1, .int .i64 x30.2.2]) (v := x30) ts30 f_30 f_22 rfl (Rep.fl_flat _) (fun _ _ => rfl) b_Ax1_0 hl33 (mem_of rfl) (by decide) (fun own' a' w' ha hb => hb))
    refine steps_cons (fun own a wx hf hsl hE => ?_) ?_
    · obtain ⟨(f_14 : a.eval (.tmp 14) = .slice Ax1_0 x1.length cx1_0), (f_15 : a.eval (.tmp 15) = .int .i64 k3), -⟩ := hf
      exact sg_plain rfl rfl (or_index (R := R30) (l := x1) tl22 f_14 f_15 (RdO.some_ (RwO.rd hAx1_0) hx35) hx35)
    refine steps_cons (fun own a wx hf hsl hE => ?_) ?_
    · obtain ⟨(f_31 : a.eval (.tmp 31) = .pointer (some ((adr Ax1_0).add ((k3 : Int).toNat * R30.s)))), (f_29 : a.eval (.tmp 29) = .agg #[.int .i64 x31.1, .int .i64 x31.2.1, .int .i64 x31.2.2]), (b_Ax1_0 : RwO own 34 [] wx 30 R30 Ax1_0 cx1_0 l33), -⟩ := hf
      exact sg_plain rfl rfl (or_storeIx (R := R30) (lab := 34) (lab2 := 37) (cs := [.int .i64 x31.1, .int .i64 x31.2.1, .int .i64 x31.2.2]) (v := x31) ts30 f_31 f_29 rfl (Rep.fl_flat _) (fun _ _ => rfl) b_Ax1_0 hl36 (mem_of rfl) (by decide) (fun own' a' w' ha hb => hb))
    exact steps_nil
  intro own38 a38 w38 hd38 hz38 hk38 hf38 hE38
  have e38_0 : a38.eval (.tmp 0) = .pointer (some ⟨gx1, 0, none⟩) := (hk38 0 rfl).trans ha0
  obtain ⟨(b_Ax1_0 : RwO own38 37 [] w38 30 R30 Ax1_0 cx1_0 l36), -⟩ := hf38 [27] rfl
  have hX38 := Evo.step hE0 hown hE38 rfl
  have b38_gx1 := BlkO.evo (by decide) hE38 hgx1
  have b38_Ax1_0 := b_Ax1_0
  have m39_gx1 : BlkO own38 1 w38 gx1 tx1 #[.slice Ax1_0 l33.length cx1_0] := BlkO.cs_ b38_gx1 (by rw [put_len hl33])
  have m40_gx1 : BlkO own38 1 w38 gx1 tx1 #[.slice Ax1_0 l36.length cx1_0] := BlkO.cs_ m39_gx1 (by rw [put_len hl36])
  obtain rfl := osome hs
  exact hret _ _ _ _ (.inr rfl) hd38 (results0_ rfl ) ⟨(rl [(37, 2)] own38), (Ax1_0, cx1_0), rfl, (Evo.rl_ hX38 hown rfl), (RwO.rl_ (mm := [(37, 2)]) b38_Ax1_0), (BlkO.rl_ (mm := [(37, 2)]) m40_gx1)⟩

theorem law05_same_w (w : World) (l1 : List (Int × Int × Int)) (Al1 : Option Addr) (cl1 : Nat) (x2 : List (Int × Int × Int)) (Ax2 : Option Addr) (cx2 : Nat) (hl1 : RdO (fun _ => 0) [0] w R30 Al1 cl1 l1) (hx2 : RdO (fun _ => 0) [0] w R41 Ax2 cx2 x2) (r : Bool) (hs : law05_same l1 x2 = some r) :
    Calls Try.prog 16 #[.slice Al1 l1.length cl1, .slice Ax2 x2.length cx2] w fun e w' => ∃ own' : Own, e = .returned (.bool r) ∧ Evo [] (fun _ => 0) own' w w' := by
  refine fl_enter (n := 26) rfl rfl rfl (Nat.le_of_ble_eq_true rfl) ?_
  intro a0 Q hd0 hz0 harg hret
  have ha0 := harg 0 _ rfl
  have ha1 := harg 1 _ rfl
  clear harg
  have hE0 : Evo [] (fun _ => 0) (fun _ => 0) w w := Evo.refl _ _ _
  refine rg_plain_seq (n := 26) (rs := []) (own0 := (fun _ => 0)) (K := [])
      (bs := [0])
      (ds := [⟨[], [], [], Fct.val 4 (.bool false)⟩]) (by kernel_rfl) hz0 hd0 (fun _ h => nomatch h) ?_ ?_
  · refine steps_cons (fun own a wx hf hsl hE => ?_) ?_
    · exact sg_plain rfl rfl (or_assign rfl)
    exact steps_nil
  intro own58 a58 w58 hd58 hz58 hk58 hf58 hE58
  have e58_0 : a58.eval (.tmp 0) = .slice Al1 l1.length cl1 := (hk58 0 rfl).trans ha0
  have e58_1 : a58.eval (.tmp 1) = .slice Ax2 x2.length cx2 := (hk58 1 rfl).trans ha1
  have hX58 := Evo.step hE0 (fun _ => Nat.le_refl 0) hE58 rfl
  have b58_Al1 := RdO.evo rfl hE58 hl1
  have b58_Ax2 := RdO.evo rfl hE58 hx2
  refine fl_seq (fun Q59 hn59 hp59 => ?_)
  refine rg_plain_seq (n := 26) (rs := []) (own0 := own58) (K := [])
      (bs := [0, 1, 0, 4, 15])
      (ds := [⟨[], [0], [], Fct.val 6 (.slice Al1 l1.length cl1)⟩,
      ⟨[0], [], [], Fct.val 7 (.int .i64 (l1.length : Int))⟩,
      ⟨[], [1], [], Fct.val 8 (.slice Ax2 x2.length cx2)⟩,
      ⟨[2], [], [], Fct.val 9 (.int .i64 (x2.length : Int))⟩,
      ⟨[1, 3], [], [], Fct.val 10 (.bool (!decide ((l1.length : Int) = (x2.length : Int))))⟩]) (by kernel_rfl) hz58 hd58 (fun _ h => nomatch h) ?_ ?_
  · refine steps_cons (fun own a wx hf hsl hE => ?_) ?_
    · obtain ⟨s_0, -⟩ := hsl
      exact sg_plain rfl rfl (or_move (s_0.trans e58_0))
    refine steps_cons (fun own a wx hf hsl hE => ?_) ?_
    · obtain ⟨(f_6 : a.eval (.tmp 6) = .slice Al1 l1.length cl1), -⟩ := hf
      exact sg_plain rfl rfl (or_len tu22 f_6 rfl)
    refine steps_cons (fun own a wx hf hsl hE => ?_) ?_
    · obtain ⟨s_1, -⟩ := hsl
      exact sg_plain rfl rfl (or_move (s_1.trans e58_1))
    refine steps_cons (fun own a wx hf hsl hE => ?_) ?_
    · obtain ⟨(f_8 : a.eval (.tmp 8) = .slice Ax2 x2.length cx2), -⟩ := hf
      exact sg_plain rfl rfl (or_len tu38 f_8 rfl)
    refine steps_cons (fun own a wx hf hsl hE => ?_) ?_
    · obtain ⟨(f_7 : a.eval (.tmp 7) = .int .i64 (l1.length : Int)), (f_9 : a.eval (.tmp 9) = .int .i64 (x2.length : Int)), -⟩ := hf
      exact sg_plain rfl rfl (or_neq f_7 f_9 rfl)
    exact steps_nil
  intro own60 a60 w60 hd60 hz60 hk60 hf60 hE60
  have e60_0 : a60.eval (.tmp 0) = .slice Al1 l1.length cl1 := (hk60 0 rfl).trans e58_0
  have e60_1 : a60.eval (.tmp 1) = .slice Ax2 x2.length cx2 := (hk60 1 rfl).trans e58_1
  obtain ⟨(f_10 : a60.eval (.tmp 10) = .bool (!decide ((l1.length : Int) = (x2.length : Int)))), -⟩ := hf60 [4] rfl
  have e60_10 := f_10
  have hX60 := Evo.step hX58 (fun _ => Nat.le_refl 0) hE60 rfl
  have b60_Al1 := RdO.evo rfl hE60 b58_Al1
  have b60_Ax2 := RdO.evo rfl hE60 b58_Ax2
  refine fl_cond e60_10 hs (fun c61 hs => ?_) (fun c61 hs => ?_)
  · refine rg_plain_seq (n := 26) (rs := []) (own0 := own60) (K := [])
        (bs := [0])
        (ds := [⟨[], [], [], Fct.val 4 (.bool false)⟩]) (by kernel_rfl) hz60 hd60 (fun _ h => nomatch h) ?_ ?_
    · refine steps_cons (fun own a wx hf hsl hE => ?_) ?_
      · exact sg_plain rfl rfl (or_assign rfl)
      exact steps_nil
    intro own62 a62 w62 hd62 hz62 hk62 hf62 hE62
    obtain ⟨(f_4 : a62.eval (.tmp 4) = .bool false), -⟩ := hf62 [0] rfl
    have e62_4 := f_4
    have hX62 := Evo.step hX60 (fun _ => Nat.le_refl 0) hE62 rfl
    refine fl_ret ?_
    refine hp59 _ _ _ rfl ?_
    obtain rfl := osome hs
    exact hret _ _ _ _ (.inl rfl) hd62 (results1_ rfl (RVal.tmp_ e62_4)) ⟨own62, rfl, hX62⟩
  refine fl_skip ?_
  refine hn59 _ _ ?_
  refine fl_seq (fun Q63 hn63 hp63 => ?_)
  refine rg_plain_seq (n := 26) (rs := []) (own0 := own60) (K := [])
      (bs := [0])
      (ds := [⟨[], [], [], Fct.val 5 (.int .i64 0)⟩]) (by kernel_rfl) hz60 hd60 (fun _ h => nomatch h) ?_ ?_
  · refine steps_cons (fun own a wx hf hsl hE => ?_) ?_
    · exact sg_plain rfl rfl (or_assign rfl)
    exact steps_nil
  intro own64 a64 w64 hd64 hz64 hk64 hf64 hE64
  have e64_0 : a64.eval (.tmp 0) = .slice Al1 l1.length cl1 := (hk64 0 rfl).trans e60_0
  have e64_1 : a64.eval (.tmp 1) = .slice Ax2 x2.length cx2 := (hk64 1 rfl).trans e60_1
  obtain ⟨(f_5 : a64.eval (.tmp 5) = .int .i64 0), -⟩ := hf64 [0] rfl
  have e64_5 := f_5
  have hX64 := Evo.step hX60 (fun _ => Nat.le_refl 0) hE64 rfl
  have b64_Al1 := RdO.evo rfl hE64 b60_Al1
  have b64_Ax2 := RdO.evo rfl hE64 b60_Ax2
  refine fl_block (fun Q65 hn65 hx65 hp65 => ?_)
  refine fl_loop (body := (fun s => law05_same_b1 l1 x2 s)) (z := r) (show loopO _ _ = _ from hs) (fun (i78 : Int) a wx => ∃ (ox : Own), a.defers = [] ∧ a.tmps.size = 26 ∧ a.eval (.tmp 0) = .slice Al1 l1.length cl1 ∧ a.eval (.tmp 1) = .slice Ax2 x2.length cx2 ∧ a.eval (.tmp 5) = .int .i64 i78 ∧ Evo [] (fun _ => 0) ox w wx ∧ RdO ox [0] wx R30 Al1 cl1 l1 ∧ RdO ox [0] wx R41 Ax2 cx2 x2) ?_ ?_
  · exact ⟨own64, hd64, hz64, e64_0, e64_1, e64_5, hX64, b64_Al1, b64_Ax2⟩
  · rintro i78 zz91 a91 w91 ⟨own91, hd92, hz92, e92_0, e92_1, e92_5, hE92, b92_Al1, b92_Ax2⟩ hs Q91 hn91 hp91 hz91
    have hs : law05_same_b1 l1 x2 i78 = some zz91 := hs
    refine fl_seq (fun Q93 hn93 hp93 => ?_)
    refine rg_plain_seq (n := 26) (rs := []) (own0 := own91) (K := [])
        (bs := [0, 0, 2, 7])
        (ds := [⟨[], [5], [], Fct.val 11 (.int .i64 i78)⟩,
        ⟨[], [0], [], Fct.val 12 (.slice Al1 l1.length cl1)⟩,
        ⟨[1], [], [], Fct.val 13 (.int .i64 (l1.length : Int))⟩,
        ⟨[0, 2], [], [], Fct.val 14 (.bool (decide (i78 < (l1.length : Int))))⟩]) (by kernel_rfl) hz92 hd92 (fun _ h => nomatch h) ?_ ?_
    · refine steps_cons (fun own a wx hf hsl hE => ?_) ?_
      · obtain ⟨s_5, -⟩ := hsl
        exact sg_plain rfl rfl (or_move (s_5.trans e92_5))
      refine steps_cons (fun own a wx hf hsl hE => ?_) ?_
      · obtain ⟨s_0, -⟩ := hsl
        exact sg_plain rfl rfl (or_move (s_0.trans e92_0))
      refine steps_cons (fun own a wx hf hsl hE => ?_) ?_
      · obtain ⟨(f_12 : a.eval (.tmp 12) = .slice Al1 l1.length cl1), -⟩ := hf
        exact sg_plain rfl rfl (or_len tu22 f_12 rfl)
      refine steps_cons (fun own a wx hf hsl hE => ?_) ?_
      · obtain ⟨(f_11 : a.eval (.tmp 11) = .int .i64 i78), (f_13 : a.eval (.tmp 13) = .int .i64 (l1.length : Int)), -⟩ := hf
        exact sg_plain rfl rfl (or_lss f_11 f_13 rfl)
      exact steps_nil
    intro own94 a94 w94 hd94 hz94 hk94 hf94 hE94
    have e94_0 : a94.eval (.tmp 0) = .slice Al1 l1.length cl1 := (hk94 0 rfl).trans e92_0
    have e94_1 : a94.eval (.tmp 1) = .slice Ax2 x2.length cx2 := (hk94 1 rfl).trans e92_1
    have e94_5 : a94.eval (.tmp 5) = .int .i64 i78 := (hk94 5 rfl).trans e92_5
    obtain ⟨(f_14 : a94.eval (.tmp 14) = .bool (decide (i78 < (l1.length : Int)))), -⟩ := hf94 [3] rfl
    have e94_14 := f_14
    have hX94 := Evo.step hE92 (fun _ => Nat.le_refl 0) hE94 rfl
    have b94_Al1 := RdO.evo rfl hE94 b92_Al1
    have b94_Ax2 := RdO.evo rfl hE94 b92_Ax2
    refine fl_cond e94_14 hs (fun c95 hs => ?_) (fun c95 hs => ?_)
    · refine fl_skip ?_
      refine hn93 _ _ ?_
      refine fl_seq (fun Q96 hn96 hp96 => ?_)
      refine fl_block (fun Q97 hn97 hx97 hp97 => ?_)
      obtain ⟨x98, hx98, hs⟩ := obind hs
      obtain ⟨x99, hx99, hs⟩ := obind hs
      refine rg_draw_seq g_mixed (n := 26) (rs := []) (own0 := own94) (K := [])
          (bs := [0, 0, 3, 7, 0, 0, 48, 112, 255])
          (ds := [⟨[], [0], [], Fct.val 17 (.slice Al1 l1.length cl1)⟩,
          ⟨[], [5], [], Fct.val 18 (.int .i64 i78)⟩,
          ⟨[0, 1], [], [], Fct.val 19 (.pointer (some ((adr Al1).add ((i78 : Int).toNat * R30.s))))⟩,
          ⟨[2], [], [], Fct.val 20 (.agg #[.int .i64 x98.1, .int .i64 x98.2.1, .int .i64 x98.2.2])⟩,
          ⟨[], [1], [], Fct.val 21 (.slice Ax2 x2.length cx2)⟩,
          ⟨[], [5], [], Fct.val 22 (.int .i64 i78)⟩,
          ⟨[4, 5], [], [], Fct.val 23 (.pointer (some ((adr Ax2).add ((i78 : Int).toNat * R41.s))))⟩,
          ⟨[6], [], [], Fct.val 24 (.agg #[.int .i64 x99.1, .int .i64 x99.2.1, .int .i64 x99.2.2])⟩,
          ⟨[3, 7], [], [], Fct.val 25 (.bool (!decide (x98 = x99)))⟩]) (by kernel_rfl) hz94 hd94 (fun _ h => nomatch h) ?_ ?_
      · refine steps_cons (fun own a wx hf hsl hE => ?_) ?_
        · obtain ⟨s_0, -⟩ := hsl
          exact sg_plain rfl rfl (or_move (s_0.trans e94_0))
        refine steps_cons (fun own a wx hf hsl hE => ?_) ?_
        · obtain ⟨s_5, -⟩ := hsl
          exact sg_plain rfl rfl (or_move (s_5.trans e94_5))
        refine steps_cons (fun own a wx hf hsl hE => ?_) ?_
        · obtain ⟨(f_17 : a.eval (.tmp 17) = .slice Al1 l1.length cl1), (f_18 : a.eval (.tmp 18) = .int .i64 i78), -⟩ := hf
          exact sg_plain rfl rfl (or_index (R := R30) (l := l1) tl22 f_17 f_18 (RdO.some_ b94_Al1 hx98) hx98)
        refine steps_cons (fun own a wx hf hsl hE => ?_) ?_
        · obtain ⟨(f_19 : a.eval (.tmp 19) = .pointer (some ((adr Al1).add ((i78 : Int).toNat * R30.s)))), -⟩ := hf
          exact sg_plain rfl rfl (or_load (l := E30.f x98) ta30 f_19 (RdO.cells (F := E30) (RdO.evo rfl hE b94_Al1) hx98) rfl)
        refine steps_cons (fun own a wx hf hsl hE => ?_) ?_
        · obtain ⟨s_1, -⟩ := hsl
          exact sg_plain rfl rfl (or_move (s_1.trans e94_1))
        refine steps_cons (fun own a wx hf hsl hE => ?_) ?_
        · obtain ⟨s_5, -⟩ := hsl
          exact sg_plain rfl rfl (or_move (s_5.trans e94_5))
        refine steps_cons (fun own a wx hf hsl hE => ?_) ?_
        · obtain ⟨(f_21 : a.eval (.tmp 21) = .slice Ax2 x2.length cx2), (f_22 : a.eval (.tmp 22) = .int .i64 i78), -⟩ := hf
          exact sg_plain rfl rfl (or_index (R := R41) (l := x2) tl38 f_21 f_22 (RdO.some_ b94_Ax2 hx99) hx99)
        refine steps_cons (fun own a wx hf hsl hE => ?_) ?_
        · obtain ⟨(f_23 : a.eval (.tmp 23) = .pointer (some ((adr Ax2).add ((i78 : Int).toNat * R41.s)))), -⟩ := hf
          exact sg_plain rfl rfl (or_load (l := E41.f x99) ta41 f_23 (RdO.cells (F := E41) (RdO.evo rfl hE b94_Ax2) hx99) rfl)
        refine steps_cons (fun own a wx hf hsl hE => ?_) ?_
        · obtain ⟨(f_20 : a.eval (.tmp 20) = .agg #[.int .i64 x98.1, .int .i64 x98.2.1, .int .i64 x98.2.2]), (f_24 : a.eval (.tmp 24) = .agg #[.int .i64 x99.1, .int .i64 x99.2.1, .int .i64 x99.2.2]), -⟩ := hf
          exact sg_plain rfl rfl (or_neqA sg41 f_20 f_24 (sn41 x98.1 x98.2.1 x98.2.2 x99.1 x99.2.1 x99.2.2 _) rfl)
        exact steps_nil
      intro own100 a100 w100 hd100 hz100 hk100 hf100 hE100
      have e100_0 : a100.eval (.tmp 0) = .slice Al1 l1.length cl1 := (hk100 0 rfl).trans e94_0
      have e100_1 : a100.eval (.tmp 1) = .slice Ax2 x2.length cx2 := (hk100 1 rfl).trans e94_1
      have e100_5 : a100.eval (.tmp 5) = .int .i64 i78 := (hk100 5 rfl).trans e94_5
      obtain ⟨(f_25 : a100.eval (.tmp 25) = .bool (!decide (x98 = x99))), -⟩ := hf100 [8] rfl
      have e100_25 := f_25
      have hX100 := Evo.step hX94 (fun _ => Nat.le_refl 0) hE100 rfl
      have b100_Al1 := RdO.evo rfl hE100 b94_Al1
      have b100_Ax2 := RdO.evo rfl hE100 b94_Ax2
      refine fl_cond e100_25 hs (fun c101 hs => ?_) (fun c101 hs => ?_)
      · refine rg_plain_seq (n := 26) (rs := []) (own0 := own100) (K := [])
            (bs := [0])
            (ds := [⟨[], [], [], Fct.val 4 (.bool false)⟩]) (by kernel_rfl) hz100 hd100 (fun _ h => nomatch h) ?_ ?_
        · refine steps_cons (fun own a wx hf hsl hE => ?_) ?_
          · exact sg_plain rfl rfl (or_assign rfl)
          exact steps_nil
        intro own102 a102 w102 hd102 hz102 hk102 hf102 hE102
        obtain ⟨(f_4 : a102.eval (.tmp 4) = .bool false), -⟩ := hf102 [0] rfl
        have e102_4 := f_4
        have hX102 := Evo.step hX100 (fun _ => Nat.le_refl 0) hE102 rfl
        refine fl_ret ?_
        refine hp97 _ _ _ rfl ?_
        refine hp96 _ _ _ rfl ?_
        replace hs := hz91 _ hs
        refine hp91 _ _ _ rfl ?_
        refine hp65 _ _ _ rfl ?_
        refine hp63 _ _ _ rfl ?_
        obtain rfl := osome hs
        exact hret _ _ _ _ (.inl rfl) hd102 (results1_ rfl (RVal.tmp_ e102_4)) ⟨own102, rfl, hX102⟩
      refine fl_skip ?_
      refine hn97 _ _ ?_
      refine hn96 _ _ ?_
      refine rg_plain (n := 26) (rs := []) (own0 := own100) (K := [])
          (bs := [0, 1, 3])
          (ds := [⟨[], [5], [], Fct.val 15 (.int .i64 i78)⟩,
          ⟨[0], [], [], Fct.val 16 (.int .i64 (ad i78 1))⟩,
          ⟨[1], [], [], Fct.val 5 (.int .i64 (ad i78 1))⟩]) (by kernel_rfl) hz100 hd100 (fun _ h => nomatch h) ?_ ?_
      · refine steps_cons (fun own a wx hf hsl hE => ?_) ?_
        · obtain ⟨s_5, -⟩ := hsl
          exact sg_plain rfl rfl (or_move (s_5.trans e100_5))
        refine steps_cons (fun own a wx hf hsl hE => ?_) ?_
        · obtain ⟨(f_15 : a.eval (.tmp 15) = .int .i64 i78), -⟩ := hf
          exact sg_plain rfl rfl (or_add f_15 rfl rfl)
        refine steps_cons (fun own a wx hf hsl hE => ?_) ?_
        · obtain ⟨(f_16 : a.eval (.tmp 16) = .int .i64 (ad i78 1)), -⟩ := hf
          exact sg_plain rfl rfl (or_assign f_16)
        exact steps_nil
      intro own103 a103 w103 hd103 hz103 hk103 hf103 hE103
      have e103_0 : a103.eval (.tmp 0) = .slice Al1 l1.length cl1 := (hk103 0 rfl).trans e100_0
      have e103_1 : a103.eval (.tmp 1) = .slice Ax2 x2.length cx2 := (hk103 1 rfl).trans e100_1
      obtain ⟨(f_5 : a103.eval (.tmp 5) = .int .i64 (ad i78 1)), -⟩ := hf103 [2] rfl
      have e103_5 := f_5
      have hX103 := Evo.step hX100 (fun _ => Nat.le_refl 0) hE103 rfl
      have b103_Al1 := RdO.evo rfl hE103 b100_Al1
      have b103_Ax2 := RdO.evo rfl hE103 b100_Ax2
      exact hn91 _ _ _ hs ⟨own103, hd103, hz103, e103_0, e103_1, e103_5, hX103, b103_Al1, b103_Ax2⟩
    refine fl_exit ?_
    refine hp93 _ _ _ rfl ?_
    replace hs := hz91 _ hs
    refine hp91 _ _ _ rfl ?_
    refine hx65 _ _ ?_
    refine hn63 _ _ ?_
    refine rg_plain_seq (n := 26) (rs := []) (own0 := own94) (K := [])
        (bs := [0])
        (ds := [⟨[], [], [], Fct.val 4 (.bool true)⟩]) (by kernel_rfl) hz94 hd94 (fun _ h => nomatch h) ?_ ?_
    · refine steps_cons (fun own a wx hf hsl hE => ?_) ?_
      · exact sg_plain rfl rfl (or_assign rfl)
      exact steps_nil
    intro own104 a104 w104 hd104 hz104 hk104 hf104 hE104
    obtain ⟨(f_4 : a104.eval (.tmp 4) = .bool true), -⟩ := hf104 [0] rfl
    have e104_4 := f_4
    have hX104 := Evo.step hX94 (fun _ => Nat.le_refl 0) hE104 rfl
    refine fl_ret ?_
    obtain rfl := osome hs
    exact hret _ _ _ _ (.inl rfl) hd104 (results1_ rfl (RVal.tmp_ e104_4)) ⟨own104, rfl, hX104⟩

theorem ref05_Push_w (w : World) (l1 : List (Int × Int × Int)) (Al1 : Option Addr) (cl1 : Nat) (x2 : Int × Int × Int) (hl1 : RdO (fun _ => 0) [0] w R41 Al1 cl1 l1) (r : List (Int × Int × Int)) (hs : ref05_Push l1 x2 = some r) :
    Calls Try.prog 14 #[.slice Al1 l1.length cl1, .agg #[.int .i64 x2.1, .int .i64 x2.2.1, .int .i64 x2.2.2]] w fun e w' => ∃ (own' : Own) (x : Option Addr × Nat), e = .returned (.slice x.1 r.length x.2) ∧ Evo [] (fun _ => 0) own' w w' ∧ RwO own' 1 [] w' 41 R41 x.1 x.2 r := by
  refine fl_enter (n := 35) rfl rfl rfl (Nat.le_of_ble_eq_true rfl) ?_
  intro a0 Q hd0 hz0 harg hret
  have ha0 := harg 0 _ rfl
  have ha1 := harg 1 _ rfl
  clear harg
  have hE0 : Evo [] (fun _ => 0) (fun _ => 0) w w := Evo.refl _ _ _
  refine rg_plain_seq (n := 35) (rs := []) (own0 := (fun _ => 0)) (K := [])
      (bs := [0, 0])
      (ds := [⟨[], [1], [], Fct.blk 68 3 (fun g => .pointer (some ⟨g, 0, none⟩)) 41 #[.int .i64 x2.1, .int .i64 x2.2.1, .int .i64 x2.2.2]⟩,
      ⟨[], [], [], Fct.val 4 (.slice none 0 0)⟩]) (by kernel_rfl) hz0 hd0 (fun _ h => nomatch h) ?_ ?_
  · refine steps_cons (fun own a wx hf hsl hE => ?_) ?_
    · obtain ⟨s_1, -⟩ := hsl
      exact sg_plain rfl rfl (or_new [(1, .agg #[.int .i64 x2.1, .int .i64 x2.2.1, .int .i64 x2.2.2])] rfl rfl ⟨(s_1.trans ha1), trivial⟩ (by kernel_rfl))
    refine steps_cons (fun own a wx hf hsl hE => ?_) ?_
    · exact sg_plain rfl rfl (or_assign rfl)
    exact steps_nil
  intro own69 a69 w69 hd69 hz69 hk69 hf69 hE69
  have e69_0 : a69.eval (.tmp 0) = .slice Al1 l1.length cl1 := (hk69 0 rfl).trans ha0
  obtain ⟨⟨g67, (f_3 : a69.eval (.tmp 3) = .pointer (some ⟨g67, 0, none⟩)), (b_g67 : BlkO own69 68 w69 g67 41 #[.int .i64 x2.1, .int .i64 x2.2.1, .int .i64 x2.2.2])⟩, -⟩ := hf69 [0] rfl
  have e69_3 := f_3
  have hX69 := Evo.step hE0 (fun _ => Nat.le_refl 0) hE69 rfl
  have b69_Al1 := RdO.evo rfl hE69 hl1
  have b69_g67 := b_g67
  refine rg_plain_seq (n := 35) (rs := []) (own0 := own69) (K := [])
      (bs := [0])
      (ds := [⟨[], [], [], Fct.val 5 (.int .i64 0)⟩]) (by kernel_rfl) hz69 hd69 (fun _ h => nomatch h) ?_ ?_
  · refine steps_cons (fun own a wx hf hsl hE => ?_) ?_
    · exact sg_plain rfl rfl (or_assign rfl)
    exact steps_nil
  intro own70 a70 w70 hd70 hz70 hk70 hf70 hE70
  have e70_0 : a70.eval (.tmp 0) = .slice Al1 l1.length cl1 := (hk70 0 rfl).trans e69_0
  have e70_3 : a70.eval (.tmp 3) = .pointer (some ⟨g67, 0, none⟩) := (hk70 3 rfl).trans e69_3
  obtain ⟨(f_5 : a70.eval (.tmp 5) = .int .i64 0), -⟩ := hf70 [0] rfl
  have e70_5 := f_5
  have hX70 := Evo.step hX69 (fun _ => Nat.le_refl 0) hE70 rfl
  have b70_Al1 := RdO.evo rfl hE70 b69_Al1
  have b70_g67 := BlkO.evo (by decide) hE70 b69_g67
  refine fl_seq (fun Q71 hn71 hp71 => ?_)
  refine fl_block (fun Q72 hn72 hx72 hp72 => ?_)
  refine fl_loop (body := (fun s => ref05_Push_b1 l1 x2 s)) (z := r) (show loopO _ _ = _ from hs) (fun (x82 : Int) a wx => ∃ (ox : Own), a.defers = [] ∧ a.tmps.size = 35 ∧ a.eval (.tmp 0) = .slice Al1 l1.length cl1 ∧ a.eval (.tmp 3) = .pointer (some ⟨g67, 0, none⟩) ∧ a.eval (.tmp 5) = .int .i64 x82 ∧ Evo [] (fun _ => 0) ox w wx ∧ RdO ox [0] wx R41 Al1 cl1 l1 ∧ BlkO ox 68 wx g67 41 #[.int .i64 x2.1, .int .i64 x2.2.1, .int .i64 x2.2.2]) ?_ ?_
  · exact ⟨own70, hd70, hz70, e70_0, e70_3, e70_5, hX70, b70_Al1, b70_g67⟩
  · rintro x82 zz92 a92 w92 ⟨own92, hd93, hz93, e93_0, e93_3, e93_5, hE93, b93_Al1, b93_g67⟩ hs Q92 hn92 hp92 hz92
    have hs : ref05_Push_b1 l1 x2 x82 = some zz92 := hs
    refine fl_seq (fun Q94 hn94 hp94 => ?_)
    obtain ⟨x95, hx95, hs⟩ := obind hs
    obtain ⟨r96, hr96, hs⟩ := obind hs
    obtain ⟨x97, hx97, hs⟩ := obind hs
    refine rg_draw_seq g_mixed (n := 35) (rs := []) (own0 := own92) (K := [])
        (bs := [0, 0, 2, 7, 15, 31, 31, 31, 223, 479, 1023, 2047, 4095])
        (ds := [⟨[], [5], [], Fct.val 7 (.int .i64 x82)⟩,
        ⟨[], [0], [], Fct.val 8 (.slice Al1 l1.length cl1)⟩,
        ⟨[1], [], [], Fct.val 9 (.int .i64 (l1.length : Int))⟩,
        ⟨[0, 2], [], [], Fct.val 10 (.bool (decide (x82 < (l1.length : Int))))⟩,
        ⟨[3], [], [], Fct.val 11 (.bool (decide (x82 < (l1.length : Int))))⟩,
        ⟨[4], [3], [], Fct.cond (decide (x82 < (l1.length : Int))) (some 12) (Fct.val 12 (.agg #[.int .i64 x2.1, .int .i64 x2.2.1, .int .i64 x2.2.2]))⟩,
        ⟨[4], [0], [], Fct.cond (decide (x82 < (l1.length : Int))) (some 13) (Fct.val 13 (.slice Al1 l1.length cl1))⟩,
        ⟨[4], [5], [], Fct.cond (decide (x82 < (l1.length : Int))) (some 14) (Fct.val 14 (.int .i64 x82))⟩,
        ⟨[4, 6, 7], [], [], Fct.cond (decide (x82 < (l1.length : Int))) (some 15) (Fct.val 15 (.pointer (some ((adr Al1).add ((x82 : Int).toNat * R41.s)))))⟩,
        ⟨[4, 8], [], [], Fct.cond (decide (x82 < (l1.length : Int))) (some 16) (Fct.val 16 (.agg #[.int .i64 x95.1, .int .i64 x95.2.1, .int .i64 x95.2.2]))⟩,
        ⟨[4, 5, 9], [], [], Fct.cond (decide (x82 < (l1.length : Int))) (some 17) (Fct.val 17 (.bool r96))⟩,
        ⟨[4, 10], [], [], Fct.cond (decide (x82 < (l1.length : Int))) (some 18) (Fct.val 18 (.bool (!r96)))⟩,
        ⟨[4, 11], [], [], Fct.val 19 (.bool x97)⟩]) (by kernel_rfl) hz93 hd93 (fun _ h => nomatch h) ?_ ?_
    · refine steps_cons (fun own a wx hf hsl hE => ?_) ?_
      · obtain ⟨s_5, -⟩ := hsl
        exact sg_plain rfl rfl (or_move (s_5.trans e93_5))
      refine steps_cons (fun own a wx hf hsl hE => ?_) ?_
      · obtain ⟨s_0, -⟩ := hsl
        exact sg_plain rfl rfl (or_move (s_0.trans e93_0))
      refine steps_cons (fun own a wx hf hsl hE => ?_) ?_
      · obtain ⟨(f_8 : a.eval (.tmp 8) = .slice Al1 l1.length cl1), -⟩ := hf
        exact sg_plain rfl rfl (or_len tu38 f_8 rfl)
      refine steps_cons (fun own a wx hf hsl hE => ?_) ?_
      · obtain ⟨(f_7 : a.eval (.tmp 7) = .int .i64 x82), (f_9 : a.eval (.tmp 9) = .int .i64 (l1.length : Int)), -⟩ := hf
        exact sg_plain rfl rfl (or_lss f_7 f_9 rfl)
      refine steps_cons (fun own a wx hf hsl hE => ?_) ?_
      · obtain ⟨(f_10 : a.eval (.tmp 10) = .bool (decide (x82 < (l1.length : Int)))), -⟩ := hf
        exact sg_plain rfl rfl (or_move f_10)
      refine steps_cons (fun own a wx hf hsl hE => ?_) ?_
      · obtain ⟨(f_11 : a.eval (.tmp 11) = .bool (decide (x82 < (l1.length : Int)))), -⟩ := hf
        obtain ⟨s_3, -⟩ := hsl
        refine sg_t rfl rfl rfl f_11 (fun hg => ?_)
        exact or_load (l := [.int .i64 x2.1, .int .i64 x2.2.1, .int .i64 x2.2.2]) ta41 (s_3.trans e93_3) (Blk.cellsFrom (BlkO.evo (by decide) hE b93_g67).2 0 rfl) rfl
      refine steps_cons (fun own a wx hf hsl hE => ?_) ?_
      · obtain ⟨(f_11 : a.eval (.tmp 11) = .bool (decide (x82 < (l1.length : Int)))), -⟩ := hf
        obtain ⟨s_0, -⟩ := hsl
        refine sg_t rfl rfl rfl f_11 (fun hg => ?_)
        exact or_move (s_0.trans e93_0)
      refine steps_cons (fun own a wx hf hsl hE => ?_) ?_
      · obtain ⟨(f_11 : a.eval (.tmp 11) = .bool (decide (x82 < (l1.length : Int)))), -⟩ := hf
        obtain ⟨s_5, -⟩ := hsl
        refine sg_t rfl rfl rfl f_11 (fun hg => ?_)
        exact or_move (s_5.trans e93_5)
      refine steps_cons (fun own a wx hf hsl hE => ?_) ?_
      · obtain ⟨(f_11 : a.eval (.tmp 11) = .bool (decide (x82 < (l1.length : Int)))), c_13, c_14, -⟩ := hf
        refine sg_t rfl rfl rfl f_11 (fun hg => ?_)
        have f_13 : a.eval (.tmp 13) = .slice Al1 l1.length cl1 := c_13.1 hg
        have f_14 : a.eval (.tmp 14) = .int .i64 x82 := c_14.1 hg
        exact or_index (R := R41) (l := l1) tl38 f_13 f_14 (RdO.some_ b93_Al1 (gd_t hx95 hg)) (gd_t hx95 hg)
      refine steps_cons (fun own a wx hf hsl hE => ?_) ?_
      · obtain ⟨(f_11 : a.eval (.tmp 11) = .bool (decide (x82 < (l1.length : Int)))), c_15, -⟩ := hf
        refine sg_t rfl rfl rfl f_11 (fun hg => ?_)
        have f_15 : a.eval (.tmp 15) = .pointer (some ((adr Al1).add ((x82 : Int).toNat * R41.s))) := c_15.1 hg
        exact or_load (l := E41.f x95) ta41 f_15 (RdO.cells (F := E41) (RdO.evo rfl hE b93_Al1) (gd_t hx95 hg)) rfl
      refine steps_cons (fun own a wx hf hsl hE => ?_) ?_
      · obtain ⟨(f_11 : a.eval (.tmp 11) = .bool (decide (x82 < (l1.length : Int)))), c_12, c_16, -⟩ := hf
        refine sg_t rfl rfl rfl f_11 (fun hg => ?_)
        have f_12 : a.eval (.tmp 12) = .agg #[.int .i64 x2.1, .int .i64 x2.2.1, .int .i64 x2.2.2] := c_12.1 hg
        have f_16 : a.eval (.tmp 16) = .agg #[.int .i64 x95.1, .int .i64 x95.2.1, .int .i64 x95.2.2] := c_16.1 hg
        exact or_call cf18 (args2 f_12 f_16) (ref05_Less_w _ x2 x95  r96 (gd_t hr96 hg)) post_val
      refine steps_cons (fun own a wx hf hsl hE => ?_) ?_
      · obtain ⟨(f_11 : a.eval (.tmp 11) = .bool (decide (x82 < (l1.length : Int)))), c_17, -⟩ := hf
        refine sg_t rfl rfl rfl f_11 (fun hg => ?_)
        have f_17 : a.eval (.tmp 17) = .bool r96 := c_17.1 hg
        exact or_not f_17 rfl
      refine steps_cons (fun own a wx hf hsl hE => ?_) ?_
      · obtain ⟨(f_11 : a.eval (.tmp 11) = .bool (decide (x82 < (l1.length : Int)))), c_18, -⟩ := hf
        exact sg_plain rfl rfl (or_and f_11 (fun hx => c_18.1 hx) rfl (osome hx97).symm)
      exact steps_nil
    intro own98 a98 w98 hd98 hz98 hk98 hf98 hE98
    have e98_0 : a98.eval (.tmp 0) = .slice Al1 l1.length cl1 := (hk98 0 rfl).trans e93_0
    have e98_3 : a98.eval (.tmp 3) = .pointer (some ⟨g67, 0, none⟩) := (hk98 3 rfl).trans e93_3
    have e98_5 : a98.eval (.tmp 5) = .int .i64 x82 := (hk98 5 rfl).trans e93_5
    obtain ⟨(f_19 : a98.eval (.tmp 19) = .bool x97), -⟩ := hf98 [12] rfl
    have e98_19 := f_19
    have hX98 := Evo.step hE93 (fun _ => Nat.le_refl 0) hE98 rfl
    have b98_Al1 := RdO.evo rfl hE98 b93_Al1
    have b98_g67 := BlkO.evo (by decide) hE98 b93_g67
    refine fl_cond e98_19 hs (fun c99 hs => ?_) (fun c99 hs => ?_)
    · refine fl_skip ?_
      refine hn94 _ _ ?_
      refine fl_block (fun Q100 hn100 hx100 hp100 => ?_)
      refine rg_plain (n := 35) (rs := []) (own0 := own98) (K := [])
          (bs := [0, 1, 3])
          (ds := [⟨[], [5], [], Fct.val 20 (.int .i64 x82)⟩,
          ⟨[0], [], [], Fct.val 21 (.int .i64 (ad x82 1))⟩,
          ⟨[1], [], [], Fct.val 5 (.int .i64 (ad x82 1))⟩]) (by kernel_rfl) hz98 hd98 (fun _ h => nomatch h) ?_ ?_
      · refine steps_cons (fun own a wx hf hsl hE => ?_) ?_
        · obtain ⟨s_5, -⟩ := hsl
          exact sg_plain rfl rfl (or_move (s_5.trans e98_5))
        refine steps_cons (fun own a wx hf hsl hE => ?_) ?_
        · obtain ⟨(f_20 : a.eval (.tmp 20) = .int .i64 x82), -⟩ := hf
          exact sg_plain rfl rfl (or_add f_20 rfl rfl)
        refine steps_cons (fun own a wx hf hsl hE => ?_) ?_
        · obtain ⟨(f_21 : a.eval (.tmp 21) = .int .i64 (ad x82 1)), -⟩ := hf
          exact sg_plain rfl rfl (or_assign f_21)
        exact steps_nil
      intro own101 a101 w101 hd101 hz101 hk101 hf101 hE101
      have e101_0 : a101.eval (.tmp 0) = .slice Al1 l1.length cl1 := (hk101 0 rfl).trans e98_0
      have e101_3 : a101.eval (.tmp 3) = .pointer (some ⟨g67, 0, none⟩) := (hk101 3 rfl).trans e98_3
      obtain ⟨(f_5 : a101.eval (.tmp 5) = .int .i64 (ad x82 1)), -⟩ := hf101 [2] rfl
      have e101_5 := f_5
      have hX101 := Evo.step hX98 (fun _ => Nat.le_refl 0) hE101 rfl
      have b101_Al1 := RdO.evo rfl hE101 b98_Al1
      have b101_g67 := BlkO.evo (by decide) hE101 b98_g67
      refine hn100 _ _ ?_
      exact hn92 _ _ _ hs ⟨own101, hd101, hz101, e101_0, e101_3, e101_5, hX101, b101_Al1, b101_g67⟩
    refine fl_exit ?_
    refine hp94 _ _ _ rfl ?_
    replace hs := hz92 _ hs
    refine hp92 _ _ _ rfl ?_
    refine hx72 _ _ ?_
    refine hn71 _ _ ?_
    obtain ⟨x104, hx104, hs⟩ := obind hs
    obtain ⟨x106, hx106, hs⟩ := obind hs
    obtain ⟨x111, hx111, hs⟩ := obind hs
    refine rg_draw_seq g_mixed (n := 35) (rs := []) (own0 := own98) (K := [103, 107])
        (bs := [0, 0, 0, 6, 15, 0, 32, 127, 255])
        (ds := [⟨[], [], [], Fct.row 103 [] 22 41 R41 ([] : List (Int × Int × Int))⟩,
        ⟨[], [0], [], Fct.val 23 (.slice Al1 l1.length cl1)⟩,
        ⟨[], [5], [], Fct.val 24 (.int .i64 x82)⟩,
        ⟨[1, 2], [], [], Fct.view [0] 25 R41 x104⟩,
        ⟨[0, 3], [], [103], Fct.row 107 [] 26 41 R41 x106⟩,
        ⟨[], [3], [], Fct.val 27 (.agg #[.int .i64 x2.1, .int .i64 x2.2.1, .int .i64 x2.2.2])⟩,
        ⟨[5], [], [], Fct.row 110 [] 28 41 R41 [x2]⟩,
        ⟨[4, 6], [], [107], Fct.row 112 [] 29 41 R41 x111⟩,
        ⟨[7], [], [], Fct.rel [6, 29] (fun l => ∀ (A113 : Option Addr) (cA113 : Nat), l.getD 1 undef = .slice A113 x111.length cA113 → l.getD 0 undef = .slice A113 x111.length cA113)⟩]) (by kernel_rfl) hz98 hd98 (fun _ h => nomatch h) ?_ ?_
    · refine steps_cons (fun own a wx hf hsl hE => ?_) ?_
      · exact sg_plain rfl rfl (or_lit (lab := 103) (e := 41) (cs := #[]) (F := E41) (or_new [] rfl rfl trivial (by kernel_rfl)) rfl rfl (show 0 ≤ maxLen by decide))
      refine steps_cons (fun own a wx hf hsl hE => ?_) ?_
      · obtain ⟨s_0, -⟩ := hsl
        exact sg_plain rfl rfl (or_move (s_0.trans e98_0))
      refine steps_cons (fun own a wx hf hsl hE => ?_) ?_
      · obtain ⟨s_5, -⟩ := hsl
        exact sg_plain rfl rfl (or_move (s_5.trans e98_5))
      refine steps_cons (fun own a wx hf hsl hE => ?_) ?_
      · obtain ⟨(f_23 : a.eval (.tmp 23) = .slice Al1 l1.length cl1), (f_24 : a.eval (.tmp 24) = .int .i64 x82), -⟩ := hf
        exact sg_plain rfl rfl (or_view (R := R41) (l := l1) (L := [0]) tu38 ts41 f_23 Bnd.none_ (Bnd.some_ f_24) Bnd.none_ (RdO.evo rfl hE b98_Al1) hx104 (.inl rfl) (by simp))
      refine steps_cons (fun own a wx hf hsl hE => ?_) ?_
      · obtain ⟨⟨⟨A102, cA102⟩, (f_22 : a.eval (.tmp 22) = .slice A102 ([] : List (Int × Int × Int)).length cA102), (b_A102 : RwO own 103 [] wx 41 R41 A102 cA102 ([] : List (Int × Int × Int)))⟩, ⟨⟨A105, cA105⟩, (f_25 : a.eval (.tmp 25) = .slice A105 x104.length cA105), (b_A105 : RdO own [0] wx R41 A105 cA105 x104)⟩, -⟩ := hf
        exact sg_plain rfl rfl (or_append (R := R41) (lab := 103) (lab2 := 107) (L := []) (L3 := []) tp38 f_22 b_A102 (by decide) f_25 b_A105 hx106 (by decide) (by decide) (mem_of rfl) (.inl (Rep.fl_flat _)))
      refine steps_cons (fun own a wx hf hsl hE => ?_) ?_
      · obtain ⟨s_3, -⟩ := hsl
        exact sg_plain rfl rfl (or_load (l := [.int .i64 x2.1, .int .i64 x2.2.1, .int .i64 x2.2.2]) ta41 (s_3.trans e98_3) (Blk.cellsFrom (BlkO.evo (by decide) hE b98_g67).2 0 rfl) rfl)
      refine steps_cons (fun own a wx hf hsl hE => ?_) ?_
      · obtain ⟨(f_27 : a.eval (.tmp 27) = .agg #[.int .i64 x2.1, .int .i64 x2.2.1, .int .i64 x2.2.2]), -⟩ := hf
        exact sg_plain rfl rfl (or_lit (lab := 110) (e := 41) (cs := #[.int .i64 x2.1, .int .i64 x2.2.1, .int .i64 x2.2.2]) (F := E41) (or_new [(27, .agg #[.int .i64 x2.1, .int .i64 x2.2.1, .int .i64 x2.2.2])] rfl rfl ⟨f_27, trivial⟩ (by kernel_rfl)) rfl rfl (show 1 ≤ maxLen by decide))
      refine steps_cons (fun own a wx hf hsl hE => ?_) ?_
      · obtain ⟨⟨⟨A108, cA108⟩, (f_26 : a.eval (.tmp 26) = .slice A108 x106.length cA108), (b_A108 : RwO own 107 [] wx 41 R41 A108 cA108 x106)⟩, ⟨⟨A109, cA109⟩, (f_28 : a.eval (.tmp 28) = .slice A109 [x2].length cA109), (b_A109 : RwO own 110 [] wx 41 R41 A109 cA109 [x2])⟩, -⟩ := hf
        exact sg_plain rfl rfl (or_append (R := R41) (lab := 107) (lab2 := 112) (L := []) (L3 := []) tp38 f_26 b_A108 (by decide) f_28 (RwO.rd b_A109) hx111 (by decide) (by decide) (mem_of rfl) (.inl (Rep.fl_flat _)))
      refine steps_cons (fun own a wx hf hsl hE => ?_) ?_
      · obtain ⟨⟨⟨A113, cA113⟩, (f_29 : a.eval (.tmp 29) = .slice A113 x111.length cA113), (b_A113 : RwO own 112 [] wx 41 R41 A113 cA113 x111)⟩, -⟩ := hf
        exact sg_plain rfl rfl (or_mono (f := Fct.val 6 (.slice A113 x111.length cA113)) (or_assign f_29) (fun own' a' w' v' hp h => fun _ _ h0' => by cases (f_29.symm.trans ((hp.2 29 (by decide)).symm.trans h0')); exact h))
      exact steps_nil
    intro own114 a114 w114 hd114 hz114 hk114 hf114 hE114
    have e114_0 : a114.eval (.tmp 0) = .slice Al1 l1.length cl1 := (hk114 0 rfl).trans e98_0
    have e114_5 : a114.eval (.tmp 5) = .int .i64 x82 := (hk114 5 rfl).trans e98_5
    obtain ⟨⟨⟨A113, cA113⟩, (f_29 : a114.eval (.tmp 29) = .slice A113 x111.length cA113), (b_A113 : RwO own114 112 [] w114 41 R41 A113 cA113 x111)⟩, (q_6 : ∀ (A113 : Option Addr) (cA113 : Nat), a114.eval (.tmp 29) = .slice A113 x111.length cA113 → a114.eval (.tmp 6) = .slice A113 x111.length cA113), -⟩ := hf114 [7, 8] rfl
    have f_6 := q_6 _ _ f_29
    have e114_6 := f_6
    have hX114 := Evo.step hX98 (fun _ => Nat.le_refl 0) hE114 rfl
    have b114_Al1 := RdO.evo rfl hE114 b98_Al1
    have b114_A113 := b_A113
    obtain ⟨x117, hx117, hs⟩ := obind hs
    obtain ⟨x119, hx119, hs⟩ := obind hs
    refine rg_plain_seq (n := 35) (rs := [Fct.rowAt 112 [] 41 R41 A113 cA113 x111]) (own0 := own114) (K := [112])
        (bs := [0, 0, 0, 6, 15, 31])
        (ds := [⟨[], [6], [], Fct.val 30 (.slice A113 x111.length cA113)⟩,
        ⟨[], [0], [], Fct.val 31 (.slice Al1 l1.length cl1)⟩,
        ⟨[], [5], [], Fct.val 32 (.int .i64 x82)⟩,
        ⟨[1, 2], [], [], Fct.view [0] 33 R41 x117⟩,
        ⟨[0, 3, 6], [], [112], Fct.row 120 [] 34 41 R41 x119⟩,
        ⟨[4], [], [], Fct.rel [4, 34] (fun l => ∀ (A121 : Option Addr) (cA121 : Nat), l.getD 1 undef = .slice A121 x119.length cA121 → l.getD 0 undef = .slice A121 x119.length cA121)⟩]) (by kernel_rfl) hz114 hd114 (by simp only [List.forall_mem_cons]; exact ⟨b114_A113, fun _ h => nomatch h⟩) ?_ ?_
    · refine steps_cons (fun own a wx hf hsl hE => ?_) ?_
      · obtain ⟨s_6, -⟩ := hsl
        exact sg_plain rfl rfl (or_move (s_6.trans e114_6))
      refine steps_cons (fun own a wx hf hsl hE => ?_) ?_
      · obtain ⟨s_0, -⟩ := hsl
        exact sg_plain rfl rfl (or_move (s_0.trans e114_0))
      refine steps_cons (fun own a wx hf hsl hE => ?_) ?_
      · obtain ⟨s_5, -⟩ := hsl
        exact sg_plain rfl rfl (or_move (s_5.trans e114_5))
      refine steps_cons (fun own a wx hf hsl hE => ?_) ?_
      · obtain ⟨(f_31 : a.eval (.tmp 31) = .slice Al1 l1.length cl1), (f_32 : a.eval (.tmp 32) = .int .i64 x82), -⟩ := hf
        exact sg_plain rfl rfl (or_view (R := R41) (l := l1) (L := [0]) tu38 ts41 f_31 (Bnd.some_ f_32) Bnd.none_ Bnd.none_ (RdO.evo rfl hE b114_Al1) hx117 (.inl rfl) (by simp))
      refine steps_cons (fun own a wx hf hsl hE => ?_) ?_
      · obtain ⟨(f_30 : a.eval (.tmp 30) = .slice A113 x111.length cA113), ⟨⟨A118, cA118⟩, (f_33 : a.eval (.tmp 33) = .slice A118 x117.length cA118), (b_A118 : RdO own [0] wx R41 A118 cA118 x117)⟩, (b_A113 : RwO own 112 [] wx 41 R41 A113 cA113 x111), -⟩ := hf
        exact sg_plain rfl rfl (or_append (R := R41) (lab := 112) (lab2 := 120) (L := []) (L3 := []) tp38 f_30 b_A113 (by decide) f_33 b_A118 hx119 (by decide) (by decide) (mem_of rfl) (.inl (Rep.fl_flat _)))
      refine steps_cons (fun own a wx hf hsl hE => ?_) ?_
      · obtain ⟨⟨⟨A121, cA121⟩, (f_34 : a.eval (.tmp 34) = .slice A121 x119.length cA121), (b_A121 : RwO own 120 [] wx 41 R41 A121 cA121 x119)⟩, -⟩ := hf
        exact sg_plain rfl rfl (or_mono (f := Fct.val 4 (.slice A121 x119.length cA121)) (or_assign f_34) (fun own' a' w' v' hp h => fun _ _ h0' => by cases (f_34.symm.trans ((hp.2 34 (by decide)).symm.trans h0')); exact h))
      exact steps_nil
    intro own122 a122 w122 hd122 hz122 hk122 hf122 hE122
    obtain ⟨⟨⟨A121, cA121⟩, (f_34 : a122.eval (.tmp 34) = .slice A121 x119.length cA121), (b_A121 : RwO own122 120 [] w122 41 R41 A121 cA121 x119)⟩, (q_4 : ∀ (A121 : Option Addr) (cA121 : Nat), a122.eval (.tmp 34) = .slice A121 x119.length cA121 → a122.eval (.tmp 4) = .slice A121 x119.length cA121), -⟩ := hf122 [4, 5] rfl
    have f_4 := q_4 _ _ f_34
    have e122_4 := f_4
    have hX122 := Evo.step hX114 (fun _ => Nat.le_refl 0) hE122 rfl
    have b122_A121 := b_A121
    refine fl_ret ?_
    obtain rfl := osome hs
    exact hret _ _ _ _ (.inl rfl) hd122 (results1_ rfl (RVal.tmp_ e122_4)) ⟨(rl [(120, 1)] own122), (A121, cA121), rfl, (Evo.rl_ hX122 (fun _ => Nat.le_refl 0) rfl), (RwO.rl_ (mm := [(120, 1)]) b122_A121)⟩

end Go.Proofs.Ytoaplhnmmnejnaa
