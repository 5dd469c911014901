/-
  Chapter 22. The walks.
-/
import Derived.Test.YthjcpojcpafbjaaWp2
import Derived.Test.YthjcpojcpafbjaaWp3
import Derived.Test.YthjcpojcpafbjaaWp4
import Derived.Test.YthjcpojcpafbjaaSp7
namespace Go.Proofs.Ythjcpojcpafbjaa
open Go.RowKit
set_option linter.unusedVariables false
theorem ref01_May_w (w : World) (p1 : Int × Int) (r : Bool) (hs : ref01_May p1 = some r) :
    Calls Try.prog 25 #[.agg #[.int .i64 p1.1, .int .i64 p1.2]] w fun e w' => ∃ own' : Own, e = .returned (.bool r) ∧ Evo [] (fun _ => 0) own' w w' := by
  refine fl_enter (n := 21) rfl rfl rfl (Nat.le_of_ble_eq_true rfl) ?_
  intro a0 Q hd0 hz0 harg hret
  have ha0 := harg 0 _ rfl
  clear harg
  have hE0 : Evo [] (fun _ => 0) (fun _ => 0) w w := Evo.refl _ _ _
  refine rg_plain_seq (n := 21) (rs := []) (own0 := (fun _ => 0)) (K := [])
      (bs := [0, 0])
      (ds := [⟨[], [0], [], Fct.blk 18 1 (fun g => .pointer (some ⟨g, 0, none⟩)) 37 #[.int .i64 p1.1, .int .i64 p1.2]⟩,
      ⟨[], [], [], Fct.val 2 (.bool false)⟩]) (by kernel_rfl) hz0 hd0 (fun _ h => nomatch h) ?_ ?_
  · refine steps_cons (fun own a wx hf hsl hE => ?_) ?_
    · obtain ⟨s_0, -⟩ := hsl
      exact sg_plain rfl rfl (or_new [(0, .agg #[.int .i64 p1.1, .int .i64 p1.2])] rfl rfl ⟨(s_0.trans ha0), trivial⟩ (by kernel_rfl))
    refine steps_cons (fun own a wx hf hsl hE => ?_) ?_
    · exact sg_plain rfl rfl (or_assign rfl)
    exact steps_nil
  intro own19 a19 w19 hd19 hz19 hk19 hf19 hE19
  obtain ⟨⟨g17, (f_1 : a19.eval (.tmp 1) = .pointer (some ⟨g17, 0, none⟩)), (b_g17 : BlkO own19 18 w19 g17 37 #[.int .i64 p1.1, .int .i64 p1.2])⟩, -⟩ := hf19 [0] rfl
  have e19_1 := f_1
  have hX19 := Evo.step hE0 (fun _ => Nat.le_refl 0) hE19 rfl
  have b19_g17 := b_g17
  obtain ⟨x20, hx20, hs⟩ := obind hs
  obtain ⟨x21, hx21, hs⟩ := obind hs
  refine rg_plain_seq (n := 21) (rs := []) (own0 := own19) (K := [])
      (bs := [0, 1, 3, 7, 15, 31, 63, 127, 255, 511, 1023, 2047, 4095, 8191, 16383, 32767, 65535, 131071, 262143])
      (ds := [⟨[], [1], [], Fct.val 3 (.pointer (some ⟨g17, 0, none⟩))⟩,
      ⟨[0], [], [], Fct.val 4 (.int .i64 p1.1)⟩,
      ⟨[1], [], [], Fct.val 5 (.bool (decide ((-16777216) ≤ p1.1)))⟩,
      ⟨[2], [], [], Fct.val 6 (.bool (decide ((-16777216) ≤ p1.1)))⟩,
      ⟨[3], [1], [], Fct.cond (decide ((-16777216) ≤ p1.1)) (some 7) (Fct.val 7 (.pointer (some ⟨g17, 0, none⟩)))⟩,
      ⟨[3, 4], [], [], Fct.cond (decide ((-16777216) ≤ p1.1)) (some 8) (Fct.val 8 (.int .i64 p1.1))⟩,
      ⟨[3, 5], [], [], Fct.cond (decide ((-16777216) ≤ p1.1)) (some 9) (Fct.val 9 (.bool (decide (p1.1 ≤ 16777216))))⟩,
      ⟨[3, 6], [], [], Fct.val 10 (.bool x20)⟩,
      ⟨[7], [], [], Fct.val 11 (.bool x20)⟩,
      ⟨[8], [1], [], Fct.cond x20 (some 12) (Fct.val 12 (.pointer (some ⟨g17, 1, none⟩)))⟩,
      ⟨[8, 9], [], [], Fct.cond x20 (some 13) (Fct.val 13 (.int .i64 p1.2))⟩,
      ⟨[8, 10], [], [], Fct.cond x20 (some 14) (Fct.val 14 (.bool (decide ((-16777216) ≤ p1.2))))⟩,
      ⟨[8, 11], [], [], Fct.val 15 (.bool x21)⟩,
      ⟨[12], [], [], Fct.val 16 (.bool x21)⟩,
      ⟨[13], [1], [], Fct.cond x21 (some 17) (Fct.val 17 (.pointer (some ⟨g17, 1, none⟩)))⟩,
      ⟨[13, 14], [], [], Fct.cond x21 (some 18) (Fct.val 18 (.int .i64 p1.2))⟩,
      ⟨[13, 15], [], [], Fct.cond x21 (some 19) (Fct.val 19 (.bool (decide (p1.2 ≤ 16777216))))⟩,
      ⟨[13, 16], [], [], Fct.val 20 (.bool (x21 && (decide (p1.2 ≤ 16777216))))⟩,
      ⟨[17], [], [], Fct.val 2 (.bool (x21 && (decide (p1.2 ≤ 16777216))))⟩]) (by kernel_rfl) hz19 hd19 (fun _ h => nomatch h) ?_ ?_
  · refine steps_cons (fun own a wx hf hsl hE => ?_) ?_
    · obtain ⟨s_1, -⟩ := hsl
      exact sg_plain rfl rfl (or_field fo37_0 (s_1.trans e19_1) (by rfl))
    refine steps_cons (fun own a wx hf hsl hE => ?_) ?_
    · obtain ⟨(f_3 : a.eval (.tmp 3) = .pointer (some ⟨g17, 0, none⟩)), -⟩ := hf
      exact sg_plain rfl rfl (or_load1 to3 f_3 (Blk.at_ (BlkO.evo (by decide) hE b19_g17).2 0 rfl))
    refine steps_cons (fun own a wx hf hsl hE => ?_) ?_
    · obtain ⟨(f_4 : a.eval (.tmp 4) = .int .i64 p1.1), -⟩ := hf
      exact sg_plain rfl rfl (or_geq f_4 rfl rfl)
    refine steps_cons (fun own a wx hf hsl hE => ?_) ?_
    · obtain ⟨(f_5 : a.eval (.tmp 5) = .bool (decide ((-16777216) ≤ p1.1))), -⟩ := hf
      exact sg_plain rfl rfl (or_move f_5)
    refine steps_cons (fun own a wx hf hsl hE => ?_) ?_
    · obtain ⟨(f_6 : a.eval (.tmp 6) = .bool (decide ((-16777216) ≤ p1.1))), -⟩ := hf
      obtain ⟨s_1, -⟩ := hsl
      refine sg_t rfl rfl rfl f_6 (fun hg => ?_)
      exact or_field fo37_0 (s_1.trans e19_1) (by rfl)
    refine steps_cons (fun own a wx hf hsl hE => ?_) ?_
    · obtain ⟨(f_6 : a.eval (.tmp 6) = .bool (decide ((-16777216) ≤ p1.1))), c_7, -⟩ := hf
      refine sg_t rfl rfl rfl f_6 (fun hg => ?_)
      have f_7 : a.eval (.tmp 7) = .pointer (some ⟨g17, 0, none⟩) := c_7.1 hg
      exact or_load1 to3 f_7 (Blk.at_ (BlkO.evo (by decide) hE b19_g17).2 0 rfl)
    refine steps_cons (fun own a wx hf hsl hE => ?_) ?_
    · obtain ⟨(f_6 : a.eval (.tmp 6) = .bool (decide ((-16777216) ≤ p1.1))), c_8, -⟩ := hf
      refine sg_t rfl rfl rfl f_6 (fun hg => ?_)
      have f_8 : a.eval (.tmp 8) = .int .i64 p1.1 := c_8.1 hg
      exact or_leq f_8 rfl rfl
    refine steps_cons (fun own a wx hf hsl hE => ?_) ?_
    · obtain ⟨(f_6 : a.eval (.tmp 6) = .bool (decide ((-16777216) ≤ p1.1))), c_9, -⟩ := hf
      exact sg_plain rfl rfl (or_and f_6 (fun hx => c_9.1 hx) rfl (osome hx20).symm)
    refine steps_cons (fun own a wx hf hsl hE => ?_) ?_
    · obtain ⟨(f_10 : a.eval (.tmp 10) = .bool x20), -⟩ := hf
      exact sg_plain rfl rfl (or_move f_10)
    refine steps_cons (fun own a wx hf hsl hE => ?_) ?_
    · obtain ⟨(f_11 : a.eval (.tmp 11) = .bool x20), -⟩ := hf
      obtain ⟨s_1, -⟩ := hsl
      refine sg_t rfl rfl rfl f_11 (fun hg => ?_)
      exact or_field fo37_1 (s_1.trans e19_1) (by rfl)
    refine steps_cons (fun own a wx hf hsl hE => ?_) ?_
    · obtain ⟨(f_11 : a.eval (.tmp 11) = .bool x20), c_12, -⟩ := hf
      refine sg_t rfl rfl rfl f_11 (fun hg => ?_)
      have f_12 : a.eval (.tmp 12) = .pointer (some ⟨g17, 1, none⟩) := c_12.1 hg
      exact or_load1 to3 f_12 (Blk.at_ (BlkO.evo (by decide) hE b19_g17).2 1 rfl)
    refine steps_cons (fun own a wx hf hsl hE => ?_) ?_
    · obtain ⟨(f_11 : a.eval (.tmp 11) = .bool x20), c_13, -⟩ := hf
      refine sg_t rfl rfl rfl f_11 (fun hg => ?_)
      have f_13 : a.eval (.tmp 13) = .int .i64 p1.2 := c_13.1 hg
      exact or_geq f_13 rfl rfl
    refine steps_cons (fun own a wx hf hsl hE => ?_) ?_
    · obtain ⟨(f_11 : a.eval (.tmp 11) = .bool x20), c_14, -⟩ := hf
      exact sg_plain rfl rfl (or_and f_11 (fun hx => c_14.1 hx) rfl (osome hx21).symm)
    refine steps_cons (fun own a wx hf hsl hE => ?_) ?_
    · obtain ⟨(f_15 : a.eval (.tmp 15) = .bool x21), -⟩ := hf
      exact sg_plain rfl rfl (or_move f_15)
    refine steps_cons (fun own a wx hf hsl hE => ?_) ?_
    · obtain ⟨(f_16 : a.eval (.tmp 16) = .bool x21), -⟩ := hf
      obtain ⟨s_1, -⟩ := hsl
      refine sg_t rfl rfl rfl f_16 (fun hg => ?_)
      exact or_field fo37_1 (s_1.trans e19_1) (by rfl)
    refine steps_cons (fun own a wx hf hsl hE => ?_) ?_
    · obtain ⟨(f_16 : a.eval (.tmp 16) = .bool x21), c_17, -⟩ := hf
      refine sg_t rfl rfl rfl f_16 (fun hg => ?_)
      have f_17 : a.eval (.tmp 17) = .pointer (some ⟨g17, 1, none⟩) := c_17.1 hg
      exact or_load1 to3 f_17 (Blk.at_ (BlkO.evo (by decide) hE b19_g17).2 1 rfl)
    refine steps_cons (fun own a wx hf hsl hE => ?_) ?_
    · obtain ⟨(f_16 : a.eval (.tmp 16) = .bool x21), c_18, -⟩ := hf
      refine sg_t rfl rfl rfl f_16 (fun hg => ?_)
      have f_18 : a.eval (.tmp 18) = .int .i64 p1.2 := c_18.1 hg
      exact or_leq f_18 rfl rfl
    refine steps_cons (fun own a wx hf hsl hE => ?_) ?_
    · obtain ⟨(f_16 : a.eval (.tmp 16) = .bool x21), c_19, -⟩ := hf
      exact sg_plain rfl rfl (or_and f_16 (fun hx => c_19.1 hx) rfl rfl)
    refine steps_cons (fun own a wx hf hsl hE => ?_) ?_
    · obtain ⟨(f_20 : a.eval (.tmp 20) = .bool (x21 && (decide (p1.2 ≤ 16777216)))), -⟩ := hf
      exact sg_plain rfl rfl (or_assign f_20)
    exact steps_nil
  intro own22 a22 w22 hd22 hz22 hk22 hf22 hE22
  obtain ⟨(f_2 : a22.eval (.tmp 2) = .bool (x21 && (decide (p1.2 ≤ 16777216)))), -⟩ := hf22 [18] rfl
  have e22_2 := f_2
  have hX22 := Evo.step hX19 (fun _ => Nat.le_refl 0) hE22 rfl
  refine fl_ret ?_
  obtain rfl := osome hs
  exact hret _ _ _ _ (.inl rfl) hd22 (results1_ rfl (RVal.tmp_ e22_2)) ⟨own22, rfl, hX22⟩

end Go.Proofs.Ythjcpojcpafbjaa
