/-
  Chapter 22. The walks.
-/
import Derived.Test.YthjcpojcpafbjaaWp2
import Derived.Test.YthjcpojcpafbjaaSp4
namespace Go.Proofs.Ythjcpojcpafbjaa
open Go.RowKit
set_option linter.unusedVariables false
theorem lineclip_less_w (w : World) (x1 : Int × Int) (b2 : Int × Int) (r : Bool) (hs : lineclip_less x1 b2 = some r) :
    Calls Try.prog 39 #[.agg #[.int .i64 x1.1, .int .i64 x1.2], .agg #[.int .i64 b2.1, .int .i64 b2.2]] w fun e w' => ∃ own' : Own, e = .returned (.bool r) ∧ Evo [] (fun _ => 0) own' w w' := by
  refine fl_enter (n := 16) rfl rfl rfl (Nat.le_of_ble_eq_true rfl) ?_
  intro a0 Q hd0 hz0 harg hret
  have ha0 := harg 0 _ rfl
  have ha1 := harg 1 _ rfl
  clear harg
  have hE0 : Evo [] (fun _ => 0) (fun _ => 0) w w := Evo.refl _ _ _
  refine rg_plain_seq (n := 16) (rs := []) (own0 := (fun _ => 0)) (K := [])
      (bs := [0, 0, 0])
      (ds := [⟨[], [0], [], Fct.blk 18 2 (fun g => .pointer (some ⟨g, 0, none⟩)) 65 #[.int .i64 x1.1, .int .i64 x1.2]⟩,
      ⟨[], [1], [], Fct.blk 20 3 (fun g => .pointer (some ⟨g, 0, none⟩)) 65 #[.int .i64 b2.1, .int .i64 b2.2]⟩,
      ⟨[], [], [], Fct.val 4 (.bool false)⟩]) (by kernel_rfl) hz0 hd0 (fun _ h => nomatch h) ?_ ?_
  · refine steps_cons (fun own a wx hf hsl hE => ?_) ?_
    · obtain ⟨s_0, -⟩ := hsl
      exact sg_plain rfl rfl (or_new [(0, .agg #[.int .i64 x1.1, .int .i64 x1.2])] rfl rfl ⟨(s_0.trans ha0), trivial⟩ (by kernel_rfl))
    refine steps_cons (fun own a wx hf hsl hE => ?_) ?_
    · obtain ⟨s_1, -⟩ := hsl
      exact sg_plain rfl rfl (or_new [(1, .agg #[.int .i64 b2.1, .int .i64 b2.2])] rfl rfl ⟨(s_1.trans ha1), trivial⟩ (by kernel_rfl))
    refine steps_cons (fun own a wx hf hsl hE => ?_) ?_
    · exact sg_plain rfl rfl (or_assign rfl)
    exact steps_nil
  intro own21 a21 w21 hd21 hz21 hk21 hf21 hE21
  obtain ⟨⟨g17, (f_2 : a21.eval (.tmp 2) = .pointer (some ⟨g17, 0, none⟩)), (b_g17 : BlkO own21 18 w21 g17 65 #[.int .i64 x1.1, .int .i64 x1.2])⟩, ⟨g19, (f_3 : a21.eval (.tmp 3) = .pointer (some ⟨g19, 0, none⟩)), (b_g19 : BlkO own21 20 w21 g19 65 #[.int .i64 b2.1, .int .i64 b2.2])⟩, -⟩ := hf21 [0, 1] rfl
  have e21_2 := f_2
  have e21_3 := f_3
  have hX21 := Evo.step hE0 (fun _ => Nat.le_refl 0) hE21 rfl
  have b21_g17 := b_g17
  have b21_g19 := b_g19
  refine rg_plain_seq (n := 16) (rs := []) (own0 := own21) (K := [])
      (bs := [0, 1, 0, 4, 15, 0, 32, 0, 128, 480, 1023, 2047])
      (ds := [⟨[], [2], [], Fct.val 5 (.pointer (some ⟨g17, 0, none⟩))⟩,
      ⟨[0], [], [], Fct.val 6 (.int .i64 x1.1)⟩,
      ⟨[], [3], [], Fct.val 7 (.pointer (some ⟨g19, 1, none⟩))⟩,
      ⟨[2], [], [], Fct.val 8 (.int .i64 b2.2)⟩,
      ⟨[1, 3], [], [], Fct.val 9 (.int .i64 (ml x1.1 b2.2))⟩,
      ⟨[], [3], [], Fct.val 10 (.pointer (some ⟨g19, 0, none⟩))⟩,
      ⟨[5], [], [], Fct.val 11 (.int .i64 b2.1)⟩,
      ⟨[], [2], [], Fct.val 12 (.pointer (some ⟨g17, 1, none⟩))⟩,
      ⟨[7], [], [], Fct.val 13 (.int .i64 x1.2)⟩,
      ⟨[6, 8], [], [], Fct.val 14 (.int .i64 (ml b2.1 x1.2))⟩,
      ⟨[4, 9], [], [], Fct.val 15 (.bool (decide ((ml x1.1 b2.2) < (ml b2.1 x1.2))))⟩,
      ⟨[10], [], [], Fct.val 4 (.bool (decide ((ml x1.1 b2.2) < (ml b2.1 x1.2))))⟩]) (by kernel_rfl) hz21 hd21 (fun _ h => nomatch h) ?_ ?_
  · refine steps_cons (fun own a wx hf hsl hE => ?_) ?_
    · obtain ⟨s_2, -⟩ := hsl
      exact sg_plain rfl rfl (or_field fo65_0 (s_2.trans e21_2) (by rfl))
    refine steps_cons (fun own a wx hf hsl hE => ?_) ?_
    · obtain ⟨(f_5 : a.eval (.tmp 5) = .pointer (some ⟨g17, 0, none⟩)), -⟩ := hf
      exact sg_plain rfl rfl (or_load1 to3 f_5 (Blk.at_ (BlkO.evo (by decide) hE b21_g17).2 0 rfl))
    refine steps_cons (fun own a wx hf hsl hE => ?_) ?_
    · obtain ⟨s_3, -⟩ := hsl
      exact sg_plain rfl rfl (or_field fo65_1 (s_3.trans e21_3) (by rfl))
    refine steps_cons (fun own a wx hf hsl hE => ?_) ?_
    · obtain ⟨(f_7 : a.eval (.tmp 7) = .pointer (some ⟨g19, 1, none⟩)), -⟩ := hf
      exact sg_plain rfl rfl (or_load1 to3 f_7 (Blk.at_ (BlkO.evo (by decide) hE b21_g19).2 1 rfl))
    refine steps_cons (fun own a wx hf hsl hE => ?_) ?_
    · obtain ⟨(f_6 : a.eval (.tmp 6) = .int .i64 x1.1), (f_8 : a.eval (.tmp 8) = .int .i64 b2.2), -⟩ := hf
      exact sg_plain rfl rfl (or_mul f_6 f_8 rfl)
    refine steps_cons (fun own a wx hf hsl hE => ?_) ?_
    · obtain ⟨s_3, -⟩ := hsl
      exact sg_plain rfl rfl (or_field fo65_0 (s_3.trans e21_3) (by rfl))
    refine steps_cons (fun own a wx hf hsl hE => ?_) ?_
    · obtain ⟨(f_10 : a.eval (.tmp 10) = .pointer (some ⟨g19, 0, none⟩)), -⟩ := hf
      exact sg_plain rfl rfl (or_load1 to3 f_10 (Blk.at_ (BlkO.evo (by decide) hE b21_g19).2 0 rfl))
    refine steps_cons (fun own a wx hf hsl hE => ?_) ?_
    · obtain ⟨s_2, -⟩ := hsl
      exact sg_plain rfl rfl (or_field fo65_1 (s_2.trans e21_2) (by rfl))
    refine steps_cons (fun own a wx hf hsl hE => ?_) ?_
    · obtain ⟨(f_12 : a.eval (.tmp 12) = .pointer (some ⟨g17, 1, none⟩)), -⟩ := hf
      exact sg_plain rfl rfl (or_load1 to3 f_12 (Blk.at_ (BlkO.evo (by decide) hE b21_g17).2 1 rfl))
    refine steps_cons (fun own a wx hf hsl hE => ?_) ?_
    · obtain ⟨(f_11 : a.eval (.tmp 11) = .int .i64 b2.1), (f_13 : a.eval (.tmp 13) = .int .i64 x1.2), -⟩ := hf
      exact sg_plain rfl rfl (or_mul f_11 f_13 rfl)
    refine steps_cons (fun own a wx hf hsl hE => ?_) ?_
    · obtain ⟨(f_9 : a.eval (.tmp 9) = .int .i64 (ml x1.1 b2.2)), (f_14 : a.eval (.tmp 14) = .int .i64 (ml b2.1 x1.2)), -⟩ := hf
      exact sg_plain rfl rfl (or_lss f_9 f_14 rfl)
    refine steps_cons (fun own a wx hf hsl hE => ?_) ?_
    · obtain ⟨(f_15 : a.eval (.tmp 15) = .bool (decide ((ml x1.1 b2.2) < (ml b2.1 x1.2)))), -⟩ := hf
      exact sg_plain rfl rfl (or_assign f_15)
    exact steps_nil
  intro own22 a22 w22 hd22 hz22 hk22 hf22 hE22
  obtain ⟨(f_4 : a22.eval (.tmp 4) = .bool (decide ((ml x1.1 b2.2) < (ml b2.1 x1.2)))), -⟩ := hf22 [11] rfl
  have e22_4 := f_4
  have hX22 := Evo.step hX21 (fun _ => Nat.le_refl 0) hE22 rfl
  refine fl_ret ?_
  obtain rfl := osome hs
  exact hret _ _ _ _ (.inl rfl) hd22 (results1_ rfl (RVal.tmp_ e22_4)) ⟨own22, rfl, hX22⟩

set_option maxHeartbeats 2000000 in
theorem lineclip_inside_w (w : World) (p1 : Int × Int) (q2 : Int × Int) (b3 : (Int × Int) × (Int × Int)) (r : Bool) (hs : lineclip_inside p1 q2 b3 = some r) :
    Calls Try.prog 32 #[.agg #[.int .i64 p1.1, .int .i64 p1.2], .agg #[.int .i64 q2.1, .int .i64 q2.2], .agg #[.int .i64 b3.1.1, .int .i64 b3.1.2, .int .i64 b3.2.1, .int .i64 b3.2.2]] w fun e w' => ∃ own' : Own, e = .returned (.bool r) ∧ Evo [] (fun _ => 0) own' w w' := by
  refine fl_enter (n := 101) rfl rfl rfl (Nat.le_of_ble_eq_true rfl) ?_
  intro a0 Q hd0 hz0 harg hret
  have ha0 := harg 0 _ rfl
  have ha1 := harg 1 _ rfl
  have ha2 := harg 2 _ rfl
  clear harg
  have hE0 : Evo [] (fun _ => 0) (fun _ => 0) w w := Evo.refl _ _ _
  refine rg_plain_seq (n := 101) (rs := []) (own0 := (fun _ => 0)) (K := [])
      (bs := [0, 0, 0, 0])
      (ds := [⟨[], [0], [], Fct.blk 812 3 (fun g => .pointer (some ⟨g, 0, none⟩)) 34 #[.int .i64 p1.1, .int .i64 p1.2]⟩,
      ⟨[], [1], [], Fct.blk 814 4 (fun g => .pointer (some ⟨g, 0, none⟩)) 34 #[.int .i64 q2.1, .int .i64 q2.2]⟩,
      ⟨[], [2], [], Fct.blk 816 5 (fun g => .pointer (some ⟨g, 0, none⟩)) 36 #[.int .i64 b3.1.1, .int .i64 b3.1.2, .int .i64 b3.2.1, .int .i64 b3.2.2]⟩,
      ⟨[], [], [], Fct.val 6 (.bool false)⟩]) (by kernel_rfl) hz0 hd0 (fun _ h => nomatch h) ?_ ?_
  · refine steps_cons (fun own a wx hf hsl hE => ?_) ?_
    · obtain ⟨s_0, -⟩ := hsl
      exact sg_plain rfl rfl (or_new [(0, .agg #[.int .i64 p1.1, .int .i64 p1.2])] rfl rfl ⟨(s_0.trans ha0), trivial⟩ (by kernel_rfl))
    refine steps_cons (fun own a wx hf hsl hE => ?_) ?_
    · obtain ⟨s_1, -⟩ := hsl
      exact sg_plain rfl rfl (or_new [(1, .agg #[.int .i64 q2.1, .int .i64 q2.2])] rfl rfl ⟨(s_1.trans ha1), trivial⟩ (by kernel_rfl))
    refine steps_cons (fun own a wx hf hsl hE => ?_) ?_
    · obtain ⟨s_2, -⟩ := hsl
      exact sg_plain rfl rfl (or_new [(2, .agg #[.int .i64 b3.1.1, .int .i64 b3.1.2, .int .i64 b3.2.1, .int .i64 b3.2.2])] rfl rfl ⟨(s_2.trans ha2), trivial⟩ (by kernel_rfl))
    refine steps_cons (fun own a wx hf hsl hE => ?_) ?_
    · exact sg_plain rfl rfl (or_assign rfl)
    exact steps_nil
  intro own817 a817 w817 hd817 hz817 hk817 hf817 hE817
  obtain ⟨⟨g811, (f_3 : a817.eval (.tmp 3) = .pointer (some ⟨g811, 0, none⟩)), (b_g811 : BlkO own817 812 w817 g811 34 #[.int .i64 p1.1, .int .i64 p1.2])⟩, ⟨g813, (f_4 : a817.eval (.tmp 4) = .pointer (some ⟨g813, 0, none⟩)), (b_g813 : BlkO own817 814 w817 g813 34 #[.int .i64 q2.1, .int .i64 q2.2])⟩, ⟨g815, (f_5 : a817.eval (.tmp 5) = .pointer (some ⟨g815, 0, none⟩)), (b_g815 : BlkO own817 816 w817 g815 36 #[.int .i64 b3.1.1, .int .i64 b3.1.2, .int .i64 b3.2.1, .int .i64 b3.2.2])⟩, -⟩ := hf817 [0, 1, 2] rfl
  have e817_3 := f_3
  have e817_4 := f_4
  have e817_5 := f_5
  have hX817 := Evo.step hE0 (fun _ => Nat.le_refl 0) hE817 rfl
  have b817_g811 := b_g811
  have b817_g813 := b_g813
  have b817_g815 := b_g815
  refine rg_plain_seq (n := 101) (rs := []) (own0 := own817) (K := [819, 821])
      (bs := [0, 0, 0, 0, 13, 31])
      (ds := [⟨[], [], [], Fct.val 15 (.agg #[.int .i64 0, .int .i64 1])⟩,
      ⟨[], [], [], Fct.val 16 (.agg #[.int .i64 1, .int .i64 1])⟩,
      ⟨[], [], [], Fct.blk 819 7 (fun g => .pointer (some ⟨g, 0, none⟩)) 65 #[.int .i64 0, .int .i64 0]⟩,
      ⟨[], [], [], Fct.blk 821 8 (fun g => .pointer (some ⟨g, 0, none⟩)) 65 #[.int .i64 0, .int .i64 0]⟩,
      ⟨[2, 0], [], [819], Fct.blk 822 7 (fun g => .pointer (some ⟨g, 0, none⟩)) 65 #[.int .i64 0, .int .i64 1]⟩,
      ⟨[3, 1], [], [821], Fct.blk 823 8 (fun g => .pointer (some ⟨g, 0, none⟩)) 65 #[.int .i64 1, .int .i64 1]⟩]) (by kernel_rfl) hz817 hd817 (fun _ h => nomatch h) ?_ ?_
  · refine steps_cons (fun own a wx hf hsl hE => ?_) ?_
    · exact sg_plain rfl rfl (or_k [] rfl rfl trivial (by kernel_rfl))
    refine steps_cons (fun own a wx hf hsl hE => ?_) ?_
    · exact sg_plain rfl rfl (or_k [] rfl rfl trivial (by kernel_rfl))
    refine steps_cons (fun own a wx hf hsl hE => ?_) ?_
    · exact sg_plain rfl rfl (or_new [] rfl rfl trivial (by kernel_rfl))
    refine steps_cons (fun own a wx hf hsl hE => ?_) ?_
    · exact sg_plain rfl rfl (or_new [] rfl rfl trivial (by kernel_rfl))
    refine steps_cons (fun own a wx hf hsl hE => ?_) ?_
    · obtain ⟨⟨g818, (f_7 : a.eval (.tmp 7) = .pointer (some ⟨g818, 0, none⟩)), (b_g818 : BlkO own 819 wx g818 65 #[.int .i64 0, .int .i64 0])⟩, (f_15 : a.eval (.tmp 15) = .agg #[.int .i64 0, .int .i64 1]), -⟩ := hf
      exact sg_plain rfl rfl (or_store (l := #[.int .i64 0, .int .i64 1]) (lab := 819) (lab2 := 822) ts65 f_7 f_15 b_g818 (by simp) (by kernel_rfl) (mem_of rfl) (by decide) (by kernel_rfl) (fun own' a' w' ha hb => ⟨_, (ha 7).trans f_7, hb⟩))
    refine steps_cons (fun own a wx hf hsl hE => ?_) ?_
    · obtain ⟨⟨g820, (f_8 : a.eval (.tmp 8) = .pointer (some ⟨g820, 0, none⟩)), (b_g820 : BlkO own 821 wx g820 65 #[.int .i64 0, .int .i64 0])⟩, (f_16 : a.eval (.tmp 16) = .agg #[.int .i64 1, .int .i64 1]), -⟩ := hf
      exact sg_plain rfl rfl (or_store (l := #[.int .i64 1, .int .i64 1]) (lab := 821) (lab2 := 823) ts65 f_8 f_16 b_g820 (by simp) (by kernel_rfl) (mem_of rfl) (by decide) (by kernel_rfl) (fun own' a' w' ha hb => ⟨_, (ha 8).trans f_8, hb⟩))
    exact steps_nil
  intro own824 a824 w824 hd824 hz824 hk824 hf824 hE824
  have e824_3 : a824.eval (.tmp 3) = .pointer (some ⟨g811, 0, none⟩) := (hk824 3 rfl).trans e817_3
  have e824_4 : a824.eval (.tmp 4) = .pointer (some ⟨g813, 0, none⟩) := (hk824 4 rfl).trans e817_4
  have e824_5 : a824.eval (.tmp 5) = .pointer (some ⟨g815, 0, none⟩) := (hk824 5 rfl).trans e817_5
  obtain ⟨⟨g818, (f_7 : a824.eval (.tmp 7) = .pointer (some ⟨g818, 0, none⟩)), (b_g818 : BlkO own824 822 w824 g818 65 #[.int .i64 0, .int .i64 1])⟩, ⟨g820, (f_8 : a824.eval (.tmp 8) = .pointer (some ⟨g820, 0, none⟩)), (b_g820 : BlkO own824 823 w824 g820 65 #[.int .i64 1, .int .i64 1])⟩, -⟩ := hf824 [4, 5] rfl
  have e824_7 := f_7
  have e824_8 := f_8
  have hX824 := Evo.step hX817 (fun _ => Nat.le_refl 0) hE824 rfl
  have b824_g811 := BlkO.evo (by decide) hE824 b817_g811
  have b824_g813 := BlkO.evo (by decide) hE824 b817_g813
  have b824_g815 := BlkO.evo (by decide) hE824 b817_g815
  have b824_g818 := b_g818
  have b824_g820 := b_g820
  refine fl_seq (fun Q825 hn825 hp825 => ?_)
  refine rg_plain_seq (n := 101) (rs := []) (own0 := own824) (K := [])
      (bs := [0, 1, 0, 4, 12, 31, 0, 64, 0, 256, 960, 2047, 0, 4096, 12288, 0, 32768, 126976, 0, 262144, 0, 1048576, 3932160, 8384512, 0, 16777216, 0, 67108864, 201326592, 520093696, 0, 1073741824, 0, 4294967296, 16106127360, 34342961152, 0, 68719476736, 206158430208, 0, 549755813888, 2130303778816, 0, 4398046511104, 0, 17592186044416, 65970697666560, 140668768878592, 281474976710655, 0])
      (ds := [⟨[], [3], [], Fct.val 17 (.pointer (some ⟨g811, 0, none⟩))⟩,
      ⟨[0], [], [], Fct.val 18 (.int .i64 p1.1)⟩,
      ⟨[], [5], [], Fct.val 19 (.pointer (some ⟨g815, 0, none⟩))⟩,
      ⟨[2], [], [], Fct.val 20 (.pointer (some ⟨g815, 0, none⟩))⟩,
      ⟨[3], [], [], Fct.val 21 (.int .i64 b3.1.1)⟩,
      ⟨[1, 4], [], [], Fct.val 22 (.int .i64 (sb p1.1 b3.1.1))⟩,
      ⟨[], [4], [], Fct.val 23 (.pointer (some ⟨g813, 0, none⟩))⟩,
      ⟨[6], [], [], Fct.val 24 (.int .i64 q2.1)⟩,
      ⟨[], [3], [], Fct.val 25 (.pointer (some ⟨g811, 0, none⟩))⟩,
      ⟨[8], [], [], Fct.val 26 (.int .i64 p1.1)⟩,
      ⟨[7, 9], [], [], Fct.val 27 (.int .i64 (sb q2.1 p1.1))⟩,
      ⟨[5, 10], [], [], Fct.val 28 (.agg #[.int .i64 (sb p1.1 b3.1.1), .int .i64 (sb q2.1 p1.1)])⟩,
      ⟨[], [5], [], Fct.val 29 (.pointer (some ⟨g815, 2, none⟩))⟩,
      ⟨[12], [], [], Fct.val 30 (.pointer (some ⟨g815, 2, none⟩))⟩,
      ⟨[13], [], [], Fct.val 31 (.int .i64 b3.2.1)⟩,
      ⟨[], [3], [], Fct.val 32 (.pointer (some ⟨g811, 0, none⟩))⟩,
      ⟨[15], [], [], Fct.val 33 (.int .i64 p1.1)⟩,
      ⟨[14, 16], [], [], Fct.val 34 (.int .i64 (sb b3.2.1 p1.1))⟩,
      ⟨[], [3], [], Fct.val 35 (.pointer (some ⟨g811, 0, none⟩))⟩,
      ⟨[18], [], [], Fct.val 36 (.int .i64 p1.1)⟩,
      ⟨[], [4], [], Fct.val 37 (.pointer (some ⟨g813, 0, none⟩))⟩,
      ⟨[20], [], [], Fct.val 38 (.int .i64 q2.1)⟩,
      ⟨[19, 21], [], [], Fct.val 39 (.int .i64 (sb p1.1 q2.1))⟩,
      ⟨[17, 22], [], [], Fct.val 40 (.agg #[.int .i64 (sb b3.2.1 p1.1), .int .i64 (sb p1.1 q2.1)])⟩,
      ⟨[], [3], [], Fct.val 41 (.pointer (some ⟨g811, 1, none⟩))⟩,
      ⟨[24], [], [], Fct.val 42 (.int .i64 p1.2)⟩,
      ⟨[], [5], [], Fct.val 43 (.pointer (some ⟨g815, 0, none⟩))⟩,
      ⟨[26], [], [], Fct.val 44 (.pointer (some ⟨g815, 1, none⟩))⟩,
      ⟨[27], [], [], Fct.val 45 (.int .i64 b3.1.2)⟩,
      ⟨[25, 28], [], [], Fct.val 46 (.int .i64 (sb p1.2 b3.1.2))⟩,
      ⟨[], [4], [], Fct.val 47 (.pointer (some ⟨g813, 1, none⟩))⟩,
      ⟨[30], [], [], Fct.val 48 (.int .i64 q2.2)⟩,
      ⟨[], [3], [], Fct.val 49 (.pointer (some ⟨g811, 1, none⟩))⟩,
      ⟨[32], [], [], Fct.val 50 (.int .i64 p1.2)⟩,
      ⟨[31, 33], [], [], Fct.val 51 (.int .i64 (sb q2.2 p1.2))⟩,
      ⟨[29, 34], [], [], Fct.val 52 (.agg #[.int .i64 (sb p1.2 b3.1.2), .int .i64 (sb q2.2 p1.2)])⟩,
      ⟨[], [5], [], Fct.val 53 (.pointer (some ⟨g815, 2, none⟩))⟩,
      ⟨[36], [], [], Fct.val 54 (.pointer (some ⟨g815, 3, none⟩))⟩,
      ⟨[37], [], [], Fct.val 55 (.int .i64 b3.2.2)⟩,
      ⟨[], [3], [], Fct.val 56 (.pointer (some ⟨g811, 1, none⟩))⟩,
      ⟨[39], [], [], Fct.val 57 (.int .i64 p1.2)⟩,
      ⟨[38, 40], [], [], Fct.val 58 (.int .i64 (sb b3.2.2 p1.2))⟩,
      ⟨[], [3], [], Fct.val 59 (.pointer (some ⟨g811, 1, none⟩))⟩,
      ⟨[42], [], [], Fct.val 60 (.int .i64 p1.2)⟩,
      ⟨[], [4], [], Fct.val 61 (.pointer (some ⟨g813, 1, none⟩))⟩,
      ⟨[44], [], [], Fct.val 62 (.int .i64 q2.2)⟩,
      ⟨[43, 45], [], [], Fct.val 63 (.int .i64 (sb p1.2 q2.2))⟩,
      ⟨[41, 46], [], [], Fct.val 64 (.agg #[.int .i64 (sb b3.2.2 p1.2), .int .i64 (sb p1.2 q2.2)])⟩,
      ⟨[11, 23, 35, 47], [], [], Fct.val 65 (.agg #[.int .i64 (sb p1.1 b3.1.1), .int .i64 (sb q2.1 p1.1), .int .i64 (sb b3.2.1 p1.1), .int .i64 (sb p1.1 q2.1), .int .i64 (sb p1.2 b3.1.2), .int .i64 (sb q2.2 p1.2), .int .i64 (sb b3.2.2 p1.2), .int .i64 (sb p1.2 q2.2)])⟩,
      ⟨[], [], [], Fct.val 66 (.int .i64 0)⟩]) (by kernel_rfl) hz824 hd824 (fun _ h => nomatch h) ?_ ?_
  · refine steps_cons (fun own a wx hf hsl hE => ?_) ?_
    · obtain ⟨s_3, -⟩ := hsl
      exact sg_plain rfl rfl (or_field fo34_0 (s_3.trans e824_3) (by rfl))
    refine steps_cons (fun own a wx hf hsl hE => ?_) ?_
    · obtain ⟨(f_17 : a.eval (.tmp 17) = .pointer (some ⟨g811, 0, none⟩)), -⟩ := hf
      exact sg_plain rfl rfl (or_load1 to3 f_17 (Blk.at_ (BlkO.evo (by decide) hE b824_g811).2 0 rfl))
    refine steps_cons (fun own a wx hf hsl hE => ?_) ?_
    · obtain ⟨s_5, -⟩ := hsl
      exact sg_plain rfl rfl (or_field fo36_0 (s_5.trans e824_5) (by rfl))
    refine steps_cons (fun own a wx hf hsl hE => ?_) ?_
    · obtain ⟨(f_19 : a.eval (.tmp 19) = .pointer (some ⟨g815, 0, none⟩)), -⟩ := hf
      exact sg_plain rfl rfl (or_field fo34_0 f_19 (by rfl))
    refine steps_cons (fun own a wx hf hsl hE => ?_) ?_
    · obtain ⟨(f_20 : a.eval (.tmp 20) = .pointer (some ⟨g815, 0, none⟩)), -⟩ := hf
      exact sg_plain rfl rfl (or_load1 to3 f_20 (Blk.at_ (BlkO.evo (by decide) hE b824_g815).2 0 rfl))
    refine steps_cons (fun own a wx hf hsl hE => ?_) ?_
    · obtain ⟨(f_18 : a.eval (.tmp 18) = .int .i64 p1.1), (f_21 : a.eval (.tmp 21) = .int .i64 b3.1.1), -⟩ := hf
      exact sg_plain rfl rfl (or_sub f_18 f_21 rfl)
    refine steps_cons (fun own a wx hf hsl hE => ?_) ?_
    · obtain ⟨s_4, -⟩ := hsl
      exact sg_plain rfl rfl (or_field fo34_0 (s_4.trans e824_4) (by rfl))
    refine steps_cons (fun own a wx hf hsl hE => ?_) ?_
    · obtain ⟨(f_23 : a.eval (.tmp 23) = .pointer (some ⟨g813, 0, none⟩)), -⟩ := hf
      exact sg_plain rfl rfl (or_load1 to3 f_23 (Blk.at_ (BlkO.evo (by decide) hE b824_g813).2 0 rfl))
    refine steps_cons (fun own a wx hf hsl hE => ?_) ?_
    · obtain ⟨s_3, -⟩ := hsl
      exact sg_plain rfl rfl (or_field fo34_0 (s_3.trans e824_3) (by rfl))
    refine steps_cons (fun own a wx hf hsl hE => ?_) ?_
    · obtain ⟨(f_25 : a.eval (.tmp 25) = .pointer (some ⟨g811, 0, none⟩)), -⟩ := hf
      exact sg_plain rfl rfl (or_load1 to3 f_25 (Blk.at_ (BlkO.evo (by decide) hE b824_g811).2 0 rfl))
    refine steps_cons (fun own a wx hf hsl hE => ?_) ?_
    · obtain ⟨(f_24 : a.eval (.tmp 24) = .int .i64 q2.1), (f_26 : a.eval (.tmp 26) = .int .i64 p1.1), -⟩ := hf
      exact sg_plain rfl rfl (or_sub f_24 f_26 rfl)
    refine steps_cons (fun own a wx hf hsl hE => ?_) ?_
    · obtain ⟨(f_22 : a.eval (.tmp 22) = .int .i64 (sb p1.1 b3.1.1)), (f_27 : a.eval (.tmp 27) = .int .i64 (sb q2.1 p1.1)), -⟩ := hf
      exact sg_plain rfl rfl (or_k [(22, .int .i64 (sb p1.1 b3.1.1)), (27, .int .i64 (sb q2.1 p1.1))] rfl rfl ⟨f_22, f_27, trivial⟩ (by kernel_rfl))
    refine steps_cons (fun own a wx hf hsl hE => ?_) ?_
    · obtain ⟨s_5, -⟩ := hsl
      exact sg_plain rfl rfl (or_field fo36_1 (s_5.trans e824_5) (by rfl))
    refine steps_cons (fun own a wx hf hsl hE => ?_) ?_
    · obtain ⟨(f_29 : a.eval (.tmp 29) = .pointer (some ⟨g815, 2, none⟩)), -⟩ := hf
      exact sg_plain rfl rfl (or_field fo34_0 f_29 (by rfl))
    refine steps_cons (fun own a wx hf hsl hE => ?_) ?_
    · obtain ⟨(f_30 : a.eval (.tmp 30) = .pointer (some ⟨g815, 2, none⟩)), -⟩ := hf
      exact sg_plain rfl rfl (or_load1 to3 f_30 (Blk.at_ (BlkO.evo (by decide) hE b824_g815).2 2 rfl))
    refine steps_cons (fun own a wx hf hsl hE => ?_) ?_
    · obtain ⟨s_3, -⟩ := hsl
      exact sg_plain rfl rfl (or_field fo34_0 (s_3.trans e824_3) (by rfl))
    refine steps_cons (fun own a wx hf hsl hE => ?_) ?_
    · obtain ⟨(f_32 : a.eval (.tmp 32) = .pointer (some ⟨g811, 0, none⟩)), -⟩ := hf
      exact sg_plain rfl rfl (or_load1 to3 f_32 (Blk.at_ (BlkO.evo (by decide) hE b824_g811).2 0 rfl))
    refine steps_cons (fun own a wx hf hsl hE => ?_) ?_
    · obtain ⟨(f_31 : a.eval (.tmp 31) = .int .i64 b3.2.1), (f_33 : a.eval (.tmp 33) = .int .i64 p1.1), -⟩ := hf
      exact sg_plain rfl rfl (or_sub f_31 f_33 rfl)
    refine steps_cons (fun own a wx hf hsl hE => ?_) ?_
    · obtain ⟨s_3, -⟩ := hsl
      exact sg_plain rfl rfl (or_field fo34_0 (s_3.trans e824_3) (by rfl))
    refine steps_cons (fun own a wx hf hsl hE => ?_) ?_
    · obtain ⟨(f_35 : a.eval (.tmp 35) = .pointer (some ⟨g811, 0, none⟩)), -⟩ := hf
      exact sg_plain rfl rfl (or_load1 to3 f_35 (Blk.at_ (BlkO.evo (by decide) hE b824_g811).2 0 rfl))
    refine steps_cons (fun own a wx hf hsl hE => ?_) ?_
    · obtain ⟨s_4, -⟩ := hsl
      exact sg_plain rfl rfl (or_field fo34_0 (s_4.trans e824_4) (by rfl))
    refine steps_cons (fun own a wx hf hsl hE => ?_) ?_
    · obtain ⟨(f_37 : a.eval (.tmp 37) = .pointer (some ⟨g813, 0, none⟩)), -⟩ := hf
      exact sg_plain rfl rfl (or_load1 to3 f_37 (Blk.at_ (BlkO.evo (by decide) hE b824_g813).2 0 rfl))
    refine steps_cons (fun own a wx hf hsl hE => ?_) ?_
    · obtain ⟨(f_36 : a.eval (.tmp 36) = .int .i64 p1.1), (f_38 : a.eval (.tmp 38) = .int .i64 q2.1), -⟩ := hf
      exact sg_plain rfl rfl (or_sub f_36 f_38 rfl)
    refine steps_cons (fun own a wx hf hsl hE => ?_) ?_
    · obtain ⟨(f_34 : a.eval (.tmp 34) = .int .i64 (sb b3.2.1 p1.1)), (f_39 : a.eval (.tmp 39) = .int .i64 (sb p1.1 q2.1)), -⟩ := hf
      exact sg_plain rfl rfl (or_k [(34, .int .i64 (sb b3.2.1 p1.1)), (39, .int .i64 (sb p1.1 q2.1))] rfl rfl ⟨f_34, f_39, trivial⟩ (by kernel_rfl))
    refine steps_cons (fun own a wx hf hsl hE => ?_) ?_
    · obtain ⟨s_3, -⟩ := hsl
      exact sg_plain rfl rfl (or_field fo34_1 (s_3.trans e824_3) (by rfl))
    refine steps_cons (fun own a wx hf hsl hE => ?_) ?_
    · obtain ⟨(f_41 : a.eval (.tmp 41) = .pointer (some ⟨g811, 1, none⟩)), -⟩ := hf
      exact sg_plain rfl rfl (or_load1 to3 f_41 (Blk.at_ (BlkO.evo (by decide) hE b824_g811).2 1 rfl))
    refine steps_cons (fun own a wx hf hsl hE => ?_) ?_
    · obtain ⟨s_5, -⟩ := hsl
      exact sg_plain rfl rfl (or_field fo36_0 (s_5.trans e824_5) (by rfl))
    refine steps_cons (fun own a wx hf hsl hE => ?_) ?_
    · obtain ⟨(f_43 : a.eval (.tmp 43) = .pointer (some ⟨g815, 0, none⟩)), -⟩ := hf
      exact sg_plain rfl rfl (or_field fo34_1 f_43 (by rfl))
    refine steps_cons (fun own a wx hf hsl hE => ?_) ?_
    · obtain ⟨(f_44 : a.eval (.tmp 44) = .pointer (some ⟨g815, 1, none⟩)), -⟩ := hf
      exact sg_plain rfl rfl (or_load1 to3 f_44 (Blk.at_ (BlkO.evo (by decide) hE b824_g815).2 1 rfl))
    refine steps_cons (fun own a wx hf hsl hE => ?_) ?_
    · obtain ⟨(f_42 : a.eval (.tmp 42) = .int .i64 p1.2), (f_45 : a.eval (.tmp 45) = .int .i64 b3.1.2), -⟩ := hf
      exact sg_plain rfl rfl (or_sub f_42 f_45 rfl)
    refine steps_cons (fun own a wx hf hsl hE => ?_) ?_
    · obtain ⟨s_4, -⟩ := hsl
      exact sg_plain rfl rfl (or_field fo34_1 (s_4.trans e824_4) (by rfl))
    refine steps_cons (fun own a wx hf hsl hE => ?_) ?_
    · obtain ⟨(f_47 : a.eval (.tmp 47) = .pointer (some ⟨g813, 1, none⟩)), -⟩ := hf
      exact sg_plain rfl rfl (or_load1 to3 f_47 (Blk.at_ (BlkO.evo (by decide) hE b824_g813).2 1 rfl))
    refine steps_cons (fun own a wx hf hsl hE => ?_) ?_
    · obtain ⟨s_3, -⟩ := hsl
      exact sg_plain rfl rfl (or_field fo34_1 (s_3.trans e824_3) (by rfl))
    refine steps_cons (fun own a wx hf hsl hE => ?_) ?_
    · obtain ⟨(f_49 : a.eval (.tmp 49) = .pointer (some ⟨g811, 1, none⟩)), -⟩ := hf
      exact sg_plain rfl rfl (or_load1 to3 f_49 (Blk.at_ (BlkO.evo (by decide) hE b824_g811).2 1 rfl))
    refine steps_cons (fun own a wx hf hsl hE => ?_) ?_
    · obtain ⟨(f_48 : a.eval (.tmp 48) = .int .i64 q2.2), (f_50 : a.eval (.tmp 50) = .int .i64 p1.2), -⟩ := hf
      exact sg_plain rfl rfl (or_sub f_48 f_50 rfl)
    refine steps_cons (fun own a wx hf hsl hE => ?_) ?_
    · obtain ⟨(f_46 : a.eval (.tmp 46) = .int .i64 (sb p1.2 b3.1.2)), (f_51 : a.eval (.tmp 51) = .int .i64 (sb q2.2 p1.2)), -⟩ := hf
      exact sg_plain rfl rfl (or_k [(46, .int .i64 (sb p1.2 b3.1.2)), (51, .int .i64 (sb q2.2 p1.2))] rfl rfl ⟨f_46, f_51, trivial⟩ (by kernel_rfl))
    refine steps_cons (fun own a wx hf hsl hE => ?_) ?_
    · obtain ⟨s_5, -⟩ := hsl
      exact sg_plain rfl rfl (or_field fo36_1 (s_5.trans e824_5) (by rfl))
    refine steps_cons (fun own a wx hf hsl hE => ?_) ?_
    · obtain ⟨(f_53 : a.eval (.tmp 53) = .pointer (some ⟨g815, 2, none⟩)), -⟩ := hf
      exact sg_plain rfl rfl (or_field fo34_1 f_53 (by rfl))
    refine steps_cons (fun own a wx hf hsl hE => ?_) ?_
    · obtain ⟨(f_54 : a.eval (.tmp 54) = .pointer (some ⟨g815, 3, none⟩)), -⟩ := hf
      exact sg_plain rfl rfl (or_load1 to3 f_54 (Blk.at_ (BlkO.evo (by decide) hE b824_g815).2 3 rfl))
    refine steps_cons (fun own a wx hf hsl hE => ?_) ?_
    · obtain ⟨s_3, -⟩ := hsl
      exact sg_plain rfl rfl (or_field fo34_1 (s_3.trans e824_3) (by rfl))
    refine steps_cons (fun own a wx hf hsl hE => ?_) ?_
    · obtain ⟨(f_56 : a.eval (.tmp 56) = .pointer (some ⟨g811, 1, none⟩)), -⟩ := hf
      exact sg_plain rfl rfl (or_load1 to3 f_56 (Blk.at_ (BlkO.evo (by decide) hE b824_g811).2 1 rfl))
    refine steps_cons (fun own a wx hf hsl hE => ?_) ?_
    · obtain ⟨(f_55 : a.eval (.tmp 55) = .int .i64 b3.2.2), (f_57 : a.eval (.tmp 57) = .int .i64 p1.2), -⟩ := hf
      exact sg_plain rfl rfl (or_sub f_55 f_57 rfl)
    refine steps_cons (fun own a wx hf hsl hE => ?_) ?_
    · obtain ⟨s_3, -⟩ := hsl
      exact sg_plain rfl rfl (or_field fo34_1 (s_3.trans e824_3) (by rfl))
    refine steps_cons (fun own a wx hf hsl hE => ?_) ?_
    · obtain ⟨(f_59 : a.eval (.tmp 59) = .pointer (some ⟨g811, 1, none⟩)), -⟩ := hf
      exact sg_plain rfl rfl (or_load1 to3 f_59 (Blk.at_ (BlkO.evo (by decide) hE b824_g811).2 1 rfl))
    refine steps_cons (fun own a wx hf hsl hE => ?_) ?_
    · obtain ⟨s_4, -⟩ := hsl
      exact sg_plain rfl rfl (or_field fo34_1 (s_4.trans e824_4) (by rfl))
    refine steps_cons (fun own a wx hf hsl hE => ?_) ?_
    · obtain ⟨(f_61 : a.eval (.tmp 61) = .pointer (some ⟨g813, 1, none⟩)), -⟩ := hf
      exact sg_plain rfl rfl (or_load1 to3 f_61 (Blk.at_ (BlkO.evo (by decide) hE b824_g813).2 1 rfl))
    refine steps_cons (fun own a wx hf hsl hE => ?_) ?_
    · obtain ⟨(f_60 : a.eval (.tmp 60) = .int .i64 p1.2), (f_62 : a.eval (.tmp 62) = .int .i64 q2.2), -⟩ := hf
      exact sg_plain rfl rfl (or_sub f_60 f_62 rfl)
    refine steps_cons (fun own a wx hf hsl hE => ?_) ?_
    · obtain ⟨(f_58 : a.eval (.tmp 58) = .int .i64 (sb b3.2.2 p1.2)), (f_63 : a.eval (.tmp 63) = .int .i64 (sb p1.2 q2.2)), -⟩ := hf
      exact sg_plain rfl rfl (or_k [(58, .int .i64 (sb b3.2.2 p1.2)), (63, .int .i64 (sb p1.2 q2.2))] rfl rfl ⟨f_58, f_63, trivial⟩ (by kernel_rfl))
    refine steps_cons (fun own a wx hf hsl hE => ?_) ?_
    · obtain ⟨(f_28 : a.eval (.tmp 28) = .agg #[.int .i64 (sb p1.1 b3.1.1), .int .i64 (sb q2.1 p1.1)]), (f_40 : a.eval (.tmp 40) = .agg #[.int .i64 (sb b3.2.1 p1.1), .int .i64 (sb p1.1 q2.1)]), (f_52 : a.eval (.tmp 52) = .agg #[.int .i64 (sb p1.2 b3.1.2), .int .i64 (sb q2.2 p1.2)]), (f_64 : a.eval (.tmp 64) = .agg #[.int .i64 (sb b3.2.2 p1.2), .int .i64 (sb p1.2 q2.2)]), -⟩ := hf
      exact sg_plain rfl rfl (or_k [(28, .agg #[.int .i64 (sb p1.1 b3.1.1), .int .i64 (sb q2.1 p1.1)]), (40, .agg #[.int .i64 (sb b3.2.1 p1.1), .int .i64 (sb p1.1 q2.1)]), (52, .agg #[.int .i64 (sb p1.2 b3.1.2), .int .i64 (sb q2.2 p1.2)]), (64, .agg #[.int .i64 (sb b3.2.2 p1.2), .int .i64 (sb p1.2 q2.2)])] rfl rfl ⟨f_28, f_40, f_52, f_64, trivial⟩ (by kernel_rfl))
    refine steps_cons (fun own a wx hf hsl hE => ?_) ?_
    · exact sg_plain rfl rfl (or_move rfl)
    exact steps_nil
  intro own826 a826 w826 hd826 hz826 hk826 hf826 hE826
  have e826_7 : a826.eval (.tmp 7) = .pointer (some ⟨g818, 0, none⟩) := (hk826 7 rfl).trans e824_7
  have e826_8 : a826.eval (.tmp 8) = .pointer (some ⟨g820, 0, none⟩) := (hk826 8 rfl).trans e824_8
  obtain ⟨(f_65 : a826.eval (.tmp 65) = .agg #[.int .i64 (sb p1.1 b3.1.1), .int .i64 (sb q2.1 p1.1), .int .i64 (sb b3.2.1 p1.1), .int .i64 (sb p1.1 q2.1), .int .i64 (sb p1.2 b3.1.2), .int .i64 (sb q2.2 p1.2), .int .i64 (sb b3.2.2 p1.2), .int .i64 (sb p1.2 q2.2)]), (f_66 : a826.eval (.tmp 66) = .int .i64 0), -⟩ := hf826 [48, 49] rfl
  have e826_65 := f_65
  have e826_66 := f_66
  have hX826 := Evo.step hX824 (fun _ => Nat.le_refl 0) hE826 rfl
  have b826_g818 := BlkO.evo (by decide) hE826 b824_g818
  have b826_g820 := BlkO.evo (by decide) hE826 b824_g820
  refine fl_block (fun Q827 hn827 hx827 hp827 => ?_)
  refine fl_loop (body := (fun s => lineclip_inside_b1 p1 q2 b3 s.1 s.2.1 s.2.2)) (z := r) (show loopO _ _ = _ from hs) (fun (s : (Int × Int) × (Int × Int) × Int) a wx => match s with | (first1084, last1086, x1087) => ∃ (ox : Own), a.defers = [] ∧ a.tmps.size = 101 ∧ a.eval (.tmp 7) = .pointer (some ⟨g818, 0, none⟩) ∧ a.eval (.tmp 8) = .pointer (some ⟨g820, 0, none⟩) ∧ a.eval (.tmp 65) = .agg #[.int .i64 (sb p1.1 b3.1.1), .int .i64 (sb q2.1 p1.1), .int .i64 (sb b3.2.1 p1.1), .int .i64 (sb p1.1 q2.1), .int .i64 (sb p1.2 b3.1.2), .int .i64 (sb q2.2 p1.2), .int .i64 (sb b3.2.2 p1.2), .int .i64 (sb p1.2 q2.2)] ∧ a.eval (.tmp 66) = .int .i64 x1087 ∧ Evo [] (fun _ => 0) ox w wx ∧ BlkO ox 1083 wx g818 65 #[.int .i64 first1084.1, .int .i64 first1084.2] ∧ BlkO ox 1085 wx g820 65 #[.int .i64 last1086.1, .int .i64 last1086.2]) ?_ ?_
  · exact ⟨(rl [(822, 1083), (823, 1085)] own826), hd826, hz826, e826_7, e826_8, e826_65, e826_66, (Evo.rl_ hX826 (fun _ => Nat.le_refl 0) rfl), (BlkO.rl_ (mm := [(822, 1083), (823, 1085)]) b826_g818), (BlkO.rl_ (mm := [(822, 1083), (823, 1085)]) b826_g820)⟩
  · rintro ⟨first1084, last1086, x1087⟩ zz1348 a1348 w1348 ⟨own1348, hd1349, hz1349, e1349_7, e1349_8, e1349_65, e1349_66, hE1349, b1349_g818, b1349_g820⟩ hs Q1348 hn1348 hp1348 hz1348
    have hs : lineclip_inside_b1 p1 q2 b3 first1084 last1086 x1087 = some zz1348 := hs
    refine rg_plain_seq (n := 101) (rs := []) (own0 := own1348) (K := [])
        (bs := [0])
        (ds := [⟨[], [66], [], Fct.val 67 (.bool (decide (x1087 < 4)))⟩]) (by kernel_rfl) hz1349 hd1349 (fun _ h => nomatch h) ?_ ?_
    · refine steps_cons (fun own a wx hf hsl hE => ?_) ?_
      · obtain ⟨s_66, -⟩ := hsl
        exact sg_plain rfl rfl (or_lss (s_66.trans e1349_66) rfl rfl)
      exact steps_nil
    intro own1350 a1350 w1350 hd1350 hz1350 hk1350 hf1350 hE1350
    have e1350_7 : a1350.eval (.tmp 7) = .pointer (some ⟨g818, 0, none⟩) := (hk1350 7 rfl).trans e1349_7
    have e1350_8 : a1350.eval (.tmp 8) = .pointer (some ⟨g820, 0, none⟩) := (hk1350 8 rfl).trans e1349_8
    have e1350_65 : a1350.eval (.tmp 65) = .agg #[.int .i64 (sb p1.1 b3.1.1), .int .i64 (sb q2.1 p1.1), .int .i64 (sb b3.2.1 p1.1), .int .i64 (sb p1.1 q2.1), .int .i64 (sb p1.2 b3.1.2), .int .i64 (sb q2.2 p1.2), .int .i64 (sb b3.2.2 p1.2), .int .i64 (sb p1.2 q2.2)] := (hk1350 65 rfl).trans e1349_65
    have e1350_66 : a1350.eval (.tmp 66) = .int .i64 x1087 := (hk1350 66 rfl).trans e1349_66
    obtain ⟨(f_67 : a1350.eval (.tmp 67) = .bool (decide (x1087 < 4))), -⟩ := hf1350 [0] rfl
    have e1350_67 := f_67
    have hX1350 := Evo.step hE1349 (fun _ => Nat.le_refl 0) hE1350 rfl
    have b1350_g818 := BlkO.evo (by decide) hE1350 b1349_g818
    have b1350_g820 := BlkO.evo (by decide) hE1350 b1349_g820
    refine fl_seq (fun Q1351 hn1351 hp1351 => ?_)
    refine fl_cond e1350_67 hs (fun c1352 hs => ?_) (fun c1352 hs => ?_)
    · refine fl_skip ?_
      refine hn1351 _ _ ?_
      refine fl_seq (fun Q1353 hn1353 hp1353 => ?_)
      refine fl_block (fun Q1481 hn1481 hx1481 hp1481 => ?_)
      obtain ⟨x1545, hx1545, hs⟩ := obind hs
      refine rg_plain_seq (n := 101) (rs := []) (own0 := own1350) (K := [1547])
          (bs := [0, 0, 3])
          (ds := [⟨[], [65, 66], [], Fct.val 68 (.agg #[.int .i64 x1545.1, .int .i64 x1545.2])⟩,
          ⟨[], [], [], Fct.blk 1547 10 (fun g => .pointer (some ⟨g, 0, none⟩)) 66 #[.int .i64 0, .int .i64 0]⟩,
          ⟨[1, 0], [], [1547], Fct.blk 1548 10 (fun g => .pointer (some ⟨g, 0, none⟩)) 66 #[.int .i64 x1545.1, .int .i64 x1545.2]⟩]) (by kernel_rfl) hz1350 hd1350 (fun _ h => nomatch h) ?_ ?_
      · refine steps_cons (fun own a wx hf hsl hE => ?_) ?_
        · obtain ⟨s_65, s_66, -⟩ := hsl
          exact sg_plain rfl rfl (or_indexA (F := E66) (l := [(sb p1.1 b3.1.1, sb q2.1 p1.1), (sb b3.2.1 p1.1, sb p1.1 q2.1), (sb p1.2 b3.1.2, sb q2.2 p1.2), (sb b3.2.2 p1.2, sb p1.2 q2.2)]) (v := x1545) tr67 ta66 rfl (s_65.trans e1350_65) rfl (s_66.trans e1350_66) hx1545)
        refine steps_cons (fun own a wx hf hsl hE => ?_) ?_
        · exact sg_plain rfl rfl (or_new [] rfl rfl trivial (by kernel_rfl))
        refine steps_cons (fun own a wx hf hsl hE => ?_) ?_
        · obtain ⟨⟨g1546, (f_10 : a.eval (.tmp 10) = .pointer (some ⟨g1546, 0, none⟩)), (b_g1546 : BlkO own 1547 wx g1546 66 #[.int .i64 0, .int .i64 0])⟩, (f_68 : a.eval (.tmp 68) = .agg #[.int .i64 x1545.1, .int .i64 x1545.2]), -⟩ := hf
          exact sg_plain rfl rfl (or_store (l := #[.int .i64 x1545.1, .int .i64 x1545.2]) (lab := 1547) (lab2 := 1548) ts66 f_10 f_68 b_g1546 (by simp) (by kernel_rfl) (mem_of rfl) (by decide) (by kernel_rfl) (fun own' a' w' ha hb => ⟨_, (ha 10).trans f_10, hb⟩))
        exact steps_nil
      intro own1549 a1549 w1549 hd1549 hz1549 hk1549 hf1549 hE1549
      have e1549_7 : a1549.eval (.tmp 7) = .pointer (some ⟨g818, 0, none⟩) := (hk1549 7 rfl).trans e1350_7
      have e1549_8 : a1549.eval (.tmp 8) = .pointer (some ⟨g820, 0, none⟩) := (hk1549 8 rfl).trans e1350_8
      have e1549_65 : a1549.eval (.tmp 65) = .agg #[.int .i64 (sb p1.1 b3.1.1), .int .i64 (sb q2.1 p1.1), .int .i64 (sb b3.2.1 p1.1), .int .i64 (sb p1.1 q2.1), .int .i64 (sb p1.2 b3.1.2), .int .i64 (sb q2.2 p1.2), .int .i64 (sb b3.2.2 p1.2), .int .i64 (sb p1.2 q2.2)] := (hk1549 65 rfl).trans e1350_65
      have e1549_66 : a1549.eval (.tmp 66) = .int .i64 x1087 := (hk1549 66 rfl).trans e1350_66
      obtain ⟨⟨g1546, (f_10 : a1549.eval (.tmp 10) = .pointer (some ⟨g1546, 0, none⟩)), (b_g1546 : BlkO own1549 1548 w1549 g1546 66 #[.int .i64 x1545.1, .int .i64 x1545.2])⟩, -⟩ := hf1549 [2] rfl
      have e1549_10 := f_10
      have hX1549 := Evo.step hX1350 (fun _ => Nat.le_refl 0) hE1549 rfl
      have b1549_g818 := BlkO.evo (by decide) hE1549 b1350_g818
      have b1549_g820 := BlkO.evo (by decide) hE1549 b1350_g820
      have b1549_g1546 := b_g1546
      refine rg_draw_seq g_mixed (n := 101) (rs := []) (own0 := own1549) (K := [])
          (bs := [0, 1, 0, 4, 3, 31])
          (ds := [⟨[], [10], [], Fct.val 69 (.pointer (some ⟨g1546, 0, none⟩))⟩,
          ⟨[0], [], [], Fct.val 70 (.int .i64 x1545.1)⟩,
          ⟨[], [10], [], Fct.val 71 (.pointer (some ⟨g1546, 1, none⟩))⟩,
          ⟨[2], [], [], Fct.val 72 (.int .i64 x1545.2)⟩,
          ⟨[1], [], [], Fct.val 11 (.int .i64 x1545.1)⟩,
          ⟨[3], [], [], Fct.val 12 (.int .i64 x1545.2)⟩]) (by kernel_rfl) hz1549 hd1549 (fun _ h => nomatch h) ?_ ?_
      · refine steps_cons (fun own a wx hf hsl hE => ?_) ?_
        · obtain ⟨s_10, -⟩ := hsl
          exact sg_plain rfl rfl (or_k [(10, .pointer (some ⟨g1546, 0, none⟩))] rfl rfl ⟨(s_10.trans e1549_10), trivial⟩ (by kernel_rfl))
        refine steps_cons (fun own a wx hf hsl hE => ?_) ?_
        · obtain ⟨(f_69 : a.eval (.tmp 69) = .pointer (some ⟨g1546, 0, none⟩)), -⟩ := hf
          exact sg_plain rfl rfl (or_load1 to3 f_69 (Blk.at_ (BlkO.evo (by decide) hE b1549_g1546).2 0 rfl))
        refine steps_cons (fun own a wx hf hsl hE => ?_) ?_
        · obtain ⟨s_10, -⟩ := hsl
          exact sg_plain rfl rfl (or_k [(10, .pointer (some ⟨g1546, 0, none⟩))] rfl rfl ⟨(s_10.trans e1549_10), trivial⟩ (by kernel_rfl))
        refine steps_cons (fun own a wx hf hsl hE => ?_) ?_
        · obtain ⟨(f_71 : a.eval (.tmp 71) = .pointer (some ⟨g1546, 1, none⟩)), -⟩ := hf
          exact sg_plain rfl rfl (or_load1 to3 f_71 (Blk.at_ (BlkO.evo (by decide) hE b1549_g1546).2 1 rfl))
        refine steps_cons (fun own a wx hf hsl hE => ?_) ?_
        · obtain ⟨(f_70 : a.eval (.tmp 70) = .int .i64 x1545.1), -⟩ := hf
          exact sg_plain rfl rfl (or_assign f_70)
        refine steps_cons (fun own a wx hf hsl hE => ?_) ?_
        · obtain ⟨(f_72 : a.eval (.tmp 72) = .int .i64 x1545.2), -⟩ := hf
          exact sg_plain rfl rfl (or_assign f_72)
        exact steps_nil
      intro own1550 a1550 w1550 hd1550 hz1550 hk1550 hf1550 hE1550
      have e1550_7 : a1550.eval (.tmp 7) = .pointer (some ⟨g818, 0, none⟩) := (hk1550 7 rfl).trans e1549_7
      have e1550_8 : a1550.eval (.tmp 8) = .pointer (some ⟨g820, 0, none⟩) := (hk1550 8 rfl).trans e1549_8
      have e1550_65 : a1550.eval (.tmp 65) = .agg #[.int .i64 (sb p1.1 b3.1.1), .int .i64 (sb q2.1 p1.1), .int .i64 (sb b3.2.1 p1.1), .int .i64 (sb p1.1 q2.1), .int .i64 (sb p1.2 b3.1.2), .int .i64 (sb q2.2 p1.2), .int .i64 (sb b3.2.2 p1.2), .int .i64 (sb p1.2 q2.2)] := (hk1550 65 rfl).trans e1549_65
      have e1550_66 : a1550.eval (.tmp 66) = .int .i64 x1087 := (hk1550 66 rfl).trans e1549_66
      obtain ⟨(f_11 : a1550.eval (.tmp 11) = .int .i64 x1545.1), (f_12 : a1550.eval (.tmp 12) = .int .i64 x1545.2), -⟩ := hf1550 [4, 5] rfl
      have e1550_11 := f_11
      have e1550_12 := f_12
      have hX1550 := Evo.step hX1549 (fun _ => Nat.le_refl 0) hE1550 rfl
      have b1550_g818 := BlkO.evo (by decide) hE1550 b1549_g818
      have b1550_g820 := BlkO.evo (by decide) hE1550 b1549_g820
      refine fl_block (fun Q1551 hn1551 hx1551 hp1551 => ?_)
      have K1581 : ∀ (a1581 : Act) (w1581 : World) (own1581 : Own) (first1578 : Int × Int) (last1580 : Int × Int), a1581.defers = [] → a1581.tmps.size = 101 → a1581.eval (.tmp 7) = .pointer (some ⟨g818, 0, none⟩) → a1581.eval (.tmp 8) = .pointer (some ⟨g820, 0, none⟩) → a1581.eval (.tmp 65) = .agg #[.int .i64 (sb p1.1 b3.1.1), .int .i64 (sb q2.1 p1.1), .int .i64 (sb b3.2.1 p1.1), .int .i64 (sb p1.1 q2.1), .int .i64 (sb p1.2 b3.1.2), .int .i64 (sb q2.2 p1.2), .int .i64 (sb b3.2.2 p1.2), .int .i64 (sb p1.2 q2.2)] → a1581.eval (.tmp 66) = .int .i64 x1087 → Evo [] (fun _ => 0) own1581 w w1581 → BlkO own1581 1577 w1581 g818 65 #[.int .i64 first1578.1, .int .i64 first1578.2] → BlkO own1581 1579 w1581 g820 65 #[.int .i64 last1580.1, .int .i64 last1580.2] → lineclip_inside_k2 x1087 first1578 last1580 = some zz1348 → (Q1551 .normal a1581 w1581 ∧ Q1551 (.exit 2) a1581 w1581) := by
        intro a1581 w1581 own1581 first1578 last1580 hd1582 hz1582 e1582_7 e1582_8 e1582_65 e1582_66 hE1582 b1582_g818 b1582_g820 hs
        refine and_both (hn1551 _ _) (hx1551 _ _) ?_
        refine hn1481 _ _ ?_
        refine hn1353 _ _ ?_
        refine rg_plain (n := 101) (rs := []) (own0 := own1581) (K := [])
            (bs := [0, 1])
            (ds := [⟨[], [66], [], Fct.val 97 (.int .i64 (ad x1087 1))⟩,
            ⟨[0], [], [], Fct.val 66 (.int .i64 (ad x1087 1))⟩]) (by kernel_rfl) hz1582 hd1582 (fun _ h => nomatch h) ?_ ?_
        · refine steps_cons (fun own a wx hf hsl hE => ?_) ?_
          · obtain ⟨s_66, -⟩ := hsl
            exact sg_plain rfl rfl (or_add (s_66.trans e1582_66) rfl rfl)
          refine steps_cons (fun own a wx hf hsl hE => ?_) ?_
          · obtain ⟨(f_97 : a.eval (.tmp 97) = .int .i64 (ad x1087 1)), -⟩ := hf
            exact sg_plain rfl rfl (or_move f_97)
          exact steps_nil
        intro own1583 a1583 w1583 hd1583 hz1583 hk1583 hf1583 hE1583
        have e1583_7 : a1583.eval (.tmp 7) = .pointer (some ⟨g818, 0, none⟩) := (hk1583 7 rfl).trans e1582_7
        have e1583_8 : a1583.eval (.tmp 8) = .pointer (some ⟨g820, 0, none⟩) := (hk1583 8 rfl).trans e1582_8
        have e1583_65 : a1583.eval (.tmp 65) = .agg #[.int .i64 (sb p1.1 b3.1.1), .int .i64 (sb q2.1 p1.1), .int .i64 (sb b3.2.1 p1.1), .int .i64 (sb p1.1 q2.1), .int .i64 (sb p1.2 b3.1.2), .int .i64 (sb q2.2 p1.2), .int .i64 (sb b3.2.2 p1.2), .int .i64 (sb p1.2 q2.2)] := (hk1583 65 rfl).trans e1582_65
        obtain ⟨(f_66 : a1583.eval (.tmp 66) = .int .i64 (ad x1087 1)), -⟩ := hf1583 [1] rfl
        have e1583_66 := f_66
        have hX1583 := Evo.step hE1582 (fun _ => Nat.le_refl 0) hE1583 rfl
        have b1583_g818 := BlkO.evo (by decide) hE1583 b1582_g818
        have b1583_g820 := BlkO.evo (by decide) hE1583 b1582_g820
        exact hn1348 _ _ _ hs ⟨(rl [(1577, 1083), (1579, 1085)] own1583), hd1583, hz1583, e1583_7, e1583_8, e1583_65, e1583_66, (Evo.rl_ hX1583 (fun _ => Nat.le_refl 0) rfl), (BlkO.rl_ (mm := [(1577, 1083), (1579, 1085)]) b1583_g818), (BlkO.rl_ (mm := [(1577, 1083), (1579, 1085)]) b1583_g820)⟩
      refine rg_plain_seq (n := 101) (rs := []) (own0 := own1550) (K := [])
          (bs := [0, 1, 3])
          (ds := [⟨[], [12], [], Fct.val 82 (.int .i64 x1545.2)⟩,
          ⟨[0], [], [], Fct.val 83 (.bool (decide (x1545.2 = 0)))⟩,
          ⟨[1], [], [], Fct.val 81 (.bool (decide (x1545.2 = 0)))⟩]) (by kernel_rfl) hz1550 hd1550 (fun _ h => nomatch h) ?_ ?_
      · refine steps_cons (fun own a wx hf hsl hE => ?_) ?_
        · obtain ⟨s_12, -⟩ := hsl
          exact sg_plain rfl rfl (or_move (s_12.trans e1550_12))
        refine steps_cons (fun own a wx hf hsl hE => ?_) ?_
        · obtain ⟨(f_82 : a.eval (.tmp 82) = .int .i64 x1545.2), -⟩ := hf
          exact sg_plain rfl rfl (or_eql f_82 rfl rfl)
        refine steps_cons (fun own a wx hf hsl hE => ?_) ?_
        · obtain ⟨(f_83 : a.eval (.tmp 83) = .bool (decide (x1545.2 = 0))), -⟩ := hf
          exact sg_plain rfl rfl (or_assign f_83)
        exact steps_nil
      intro own1584 a1584 w1584 hd1584 hz1584 hk1584 hf1584 hE1584
      have e1584_7 : a1584.eval (.tmp 7) = .pointer (some ⟨g818, 0, none⟩) := (hk1584 7 rfl).trans e1550_7
      have e1584_8 : a1584.eval (.tmp 8) = .pointer (some ⟨g820, 0, none⟩) := (hk1584 8 rfl).trans e1550_8
      have e1584_11 : a1584.eval (.tmp 11) = .int .i64 x1545.1 := (hk1584 11 rfl).trans e1550_11
      have e1584_12 : a1584.eval (.tmp 12) = .int .i64 x1545.2 := (hk1584 12 rfl).trans e1550_12
      have e1584_65 : a1584.eval (.tmp 65) = .agg #[.int .i64 (sb p1.1 b3.1.1), .int .i64 (sb q2.1 p1.1), .int .i64 (sb b3.2.1 p1.1), .int .i64 (sb p1.1 q2.1), .int .i64 (sb p1.2 b3.1.2), .int .i64 (sb q2.2 p1.2), .int .i64 (sb b3.2.2 p1.2), .int .i64 (sb p1.2 q2.2)] := (hk1584 65 rfl).trans e1550_65
      have e1584_66 : a1584.eval (.tmp 66) = .int .i64 x1087 := (hk1584 66 rfl).trans e1550_66
      obtain ⟨(f_81 : a1584.eval (.tmp 81) = .bool (decide (x1545.2 = 0))), -⟩ := hf1584 [2] rfl
      have e1584_81 := f_81
      have hX1584 := Evo.step hX1550 (fun _ => Nat.le_refl 0) hE1584 rfl
      have b1584_g818 := BlkO.evo (by decide) hE1584 b1550_g818
      have b1584_g820 := BlkO.evo (by decide) hE1584 b1550_g820
      refine fl_cond e1584_81 hs (fun c1585 hs => ?_) (fun c1585 hs => ?_)
      · refine rg_plain_seq (n := 101) (rs := []) (own0 := own1584) (K := [])
            (bs := [0, 1])
            (ds := [⟨[], [11], [], Fct.val 84 (.int .i64 x1545.1)⟩,
            ⟨[0], [], [], Fct.val 85 (.bool (decide (x1545.1 ≤ 0)))⟩]) (by kernel_rfl) hz1584 hd1584 (fun _ h => nomatch h) ?_ ?_
        · refine steps_cons (fun own a wx hf hsl hE => ?_) ?_
          · obtain ⟨s_11, -⟩ := hsl
            exact sg_plain rfl rfl (or_move (s_11.trans e1584_11))
          refine steps_cons (fun own a wx hf hsl hE => ?_) ?_
          · obtain ⟨(f_84 : a.eval (.tmp 84) = .int .i64 x1545.1), -⟩ := hf
            exact sg_plain rfl rfl (or_leq f_84 rfl rfl)
          exact steps_nil
        intro own1586 a1586 w1586 hd1586 hz1586 hk1586 hf1586 hE1586
        have e1586_7 : a1586.eval (.tmp 7) = .pointer (some ⟨g818, 0, none⟩) := (hk1586 7 rfl).trans e1584_7
        have e1586_8 : a1586.eval (.tmp 8) = .pointer (some ⟨g820, 0, none⟩) := (hk1586 8 rfl).trans e1584_8
        have e1586_65 : a1586.eval (.tmp 65) = .agg #[.int .i64 (sb p1.1 b3.1.1), .int .i64 (sb q2.1 p1.1), .int .i64 (sb b3.2.1 p1.1), .int .i64 (sb p1.1 q2.1), .int .i64 (sb p1.2 b3.1.2), .int .i64 (sb q2.2 p1.2), .int .i64 (sb b3.2.2 p1.2), .int .i64 (sb p1.2 q2.2)] := (hk1586 65 rfl).trans e1584_65
        have e1586_66 : a1586.eval (.tmp 66) = .int .i64 x1087 := (hk1586 66 rfl).trans e1584_66
        obtain ⟨(f_85 : a1586.eval (.tmp 85) = .bool (decide (x1545.1 ≤ 0))), -⟩ := hf1586 [1] rfl
        have e1586_85 := f_85
        have hX1586 := Evo.step hX1584 (fun _ => Nat.le_refl 0) hE1586 rfl
        have b1586_g818 := BlkO.evo (by decide) hE1586 b1584_g818
        have b1586_g820 := BlkO.evo (by decide) hE1586 b1584_g820
        refine fl_cond e1586_85 hs (fun c1587 hs => ?_) (fun c1587 hs => ?_)
        · refine rg_plain_seq (n := 101) (rs := []) (own0 := own1586) (K := [])
              (bs := [0])
              (ds := [⟨[], [], [], Fct.val 6 (.bool false)⟩]) (by kernel_rfl) hz1586 hd1586 (fun _ h => nomatch h) ?_ ?_
          · refine steps_cons (fun own a wx hf hsl hE => ?_) ?_
            · exact sg_plain rfl rfl (or_assign rfl)
            exact steps_nil
          intro own1588 a1588 w1588 hd1588 hz1588 hk1588 hf1588 hE1588
          obtain ⟨(f_6 : a1588.eval (.tmp 6) = .bool false), -⟩ := hf1588 [0] rfl
          have e1588_6 := f_6
          have hX1588 := Evo.step hX1586 (fun _ => Nat.le_refl 0) hE1588 rfl
          refine fl_ret ?_
          refine hp1551 _ _ _ rfl ?_
          refine hp1481 _ _ _ rfl ?_
          refine hp1353 _ _ _ rfl ?_
          replace hs := hz1348 _ hs
          refine hp1348 _ _ _ rfl ?_
          refine hp827 _ _ _ rfl ?_
          refine hp825 _ _ _ rfl ?_
          obtain rfl := osome hs
          exact hret _ _ _ _ (.inl rfl) hd1588 (results1_ rfl (RVal.tmp_ e1588_6)) ⟨own1588, rfl, hX1588⟩
        refine fl_skip ?_
        exact (K1581 _ _ (rl [(1083, 1577), (1085, 1579)] own1586) first1084 last1086 hd1586 hz1586 e1586_7 e1586_8 e1586_65 e1586_66 (Evo.rl_ hX1586 (fun _ => Nat.le_refl 0) rfl) (BlkO.rl_ (mm := [(1083, 1577), (1085, 1579)]) b1586_g818) (BlkO.rl_ (mm := [(1083, 1577), (1085, 1579)]) b1586_g820) hs).1
      refine rg_plain_seq (n := 101) (rs := []) (own0 := own1584) (K := [])
          (bs := [0, 1, 3])
          (ds := [⟨[], [12], [], Fct.val 87 (.int .i64 x1545.2)⟩,
          ⟨[0], [], [], Fct.val 88 (.bool (decide (0 < x1545.2)))⟩,
          ⟨[1], [], [], Fct.val 86 (.bool (decide (0 < x1545.2)))⟩]) (by kernel_rfl) hz1584 hd1584 (fun _ h => nomatch h) ?_ ?_
      · refine steps_cons (fun own a wx hf hsl hE => ?_) ?_
        · obtain ⟨s_12, -⟩ := hsl
          exact sg_plain rfl rfl (or_move (s_12.trans e1584_12))
        refine steps_cons (fun own a wx hf hsl hE => ?_) ?_
        · obtain ⟨(f_87 : a.eval (.tmp 87) = .int .i64 x1545.2), -⟩ := hf
          exact sg_plain rfl rfl (or_gtr f_87 rfl rfl)
        refine steps_cons (fun own a wx hf hsl hE => ?_) ?_
        · obtain ⟨(f_88 : a.eval (.tmp 88) = .bool (decide (0 < x1545.2))), -⟩ := hf
          exact sg_plain rfl rfl (or_assign f_88)
        exact steps_nil
      intro own1589 a1589 w1589 hd1589 hz1589 hk1589 hf1589 hE1589
      have e1589_7 : a1589.eval (.tmp 7) = .pointer (some ⟨g818, 0, none⟩) := (hk1589 7 rfl).trans e1584_7
      have e1589_8 : a1589.eval (.tmp 8) = .pointer (some ⟨g820, 0, none⟩) := (hk1589 8 rfl).trans e1584_8
      have e1589_11 : a1589.eval (.tmp 11) = .int .i64 x1545.1 := (hk1589 11 rfl).trans e1584_11
      have e1589_12 : a1589.eval (.tmp 12) = .int .i64 x1545.2 := (hk1589 12 rfl).trans e1584_12
      have e1589_65 : a1589.eval (.tmp 65) = .agg #[.int .i64 (sb p1.1 b3.1.1), .int .i64 (sb q2.1 p1.1), .int .i64 (sb b3.2.1 p1.1), .int .i64 (sb p1.1 q2.1), .int .i64 (sb p1.2 b3.1.2), .int .i64 (sb q2.2 p1.2), .int .i64 (sb b3.2.2 p1.2), .int .i64 (sb p1.2 q2.2)] := (hk1589 65 rfl).trans e1584_65
      have e1589_66 : a1589.eval (.tmp 66) = .int .i64 x1087 := (hk1589 66 rfl).trans e1584_66
      obtain ⟨(f_86 : a1589.eval (.tmp 86) = .bool (decide (0 < x1545.2))), -⟩ := hf1589 [2] rfl
      have e1589_86 := f_86
      have hX1589 := Evo.step hX1584 (fun _ => Nat.le_refl 0) hE1589 rfl
      have b1589_g818 := BlkO.evo (by decide) hE1589 b1584_g818
      have b1589_g820 := BlkO.evo (by decide) hE1589 b1584_g820
      refine fl_cond e1589_86 hs (fun c1590 hs => ?_) (fun c1590 hs => ?_)
      · refine rg_plain_seq (n := 101) (rs := []) (own0 := own1589) (K := [1592])
            (bs := [0, 1, 0, 7, 0, 31])
            (ds := [⟨[], [11], [], Fct.val 89 (.int .i64 x1545.1)⟩,
            ⟨[0], [], [], Fct.val 90 (.int .i64 (ng x1545.1))⟩,
            ⟨[], [12], [], Fct.val 91 (.int .i64 x1545.2)⟩,
            ⟨[1, 2], [], [], Fct.val 92 (.agg #[.int .i64 (ng x1545.1), .int .i64 x1545.2])⟩,
            ⟨[], [], [], Fct.blk 1592 13 (fun g => .pointer (some ⟨g, 0, none⟩)) 65 #[.int .i64 0, .int .i64 0]⟩,
            ⟨[4, 3], [], [1592], Fct.blk 1593 13 (fun g => .pointer (some ⟨g, 0, none⟩)) 65 #[.int .i64 (ng x1545.1), .int .i64 x1545.2]⟩]) (by kernel_rfl) hz1589 hd1589 (fun _ h => nomatch h) ?_ ?_
        · refine steps_cons (fun own a wx hf hsl hE => ?_) ?_
          · obtain ⟨s_11, -⟩ := hsl
            exact sg_plain rfl rfl (or_move (s_11.trans e1589_11))
          refine steps_cons (fun own a wx hf hsl hE => ?_) ?_
          · obtain ⟨(f_89 : a.eval (.tmp 89) = .int .i64 x1545.1), -⟩ := hf
            exact sg_plain rfl rfl (or_neg f_89 rfl)
          refine steps_cons (fun own a wx hf hsl hE => ?_) ?_
          · obtain ⟨s_12, -⟩ := hsl
            exact sg_plain rfl rfl (or_move (s_12.trans e1589_12))
          refine steps_cons (fun own a wx hf hsl hE => ?_) ?_
          · obtain ⟨(f_90 : a.eval (.tmp 90) = .int .i64 (ng x1545.1)), (f_91 : a.eval (.tmp 91) = .int .i64 x1545.2), -⟩ := hf
            exact sg_plain rfl rfl (or_k [(90, .int .i64 (ng x1545.1)), (91, .int .i64 x1545.2)] rfl rfl ⟨f_90, f_91, trivial⟩ (by kernel_rfl))
          refine steps_cons (fun own a wx hf hsl hE => ?_) ?_
          · exact sg_plain rfl rfl (or_new [] rfl rfl trivial (by kernel_rfl))
          refine steps_cons (fun own a wx hf hsl hE => ?_) ?_
          · obtain ⟨⟨g1591, (f_13 : a.eval (.tmp 13) = .pointer (some ⟨g1591, 0, none⟩)), (b_g1591 : BlkO own 1592 wx g1591 65 #[.int .i64 0, .int .i64 0])⟩, (f_92 : a.eval (.tmp 92) = .agg #[.int .i64 (ng x1545.1), .int .i64 x1545.2]), -⟩ := hf
            exact sg_plain rfl rfl (or_store (l := #[.int .i64 (ng x1545.1), .int .i64 x1545.2]) (lab := 1592) (lab2 := 1593) ts65 f_13 f_92 b_g1591 (by simp) (by kernel_rfl) (mem_of rfl) (by decide) (by kernel_rfl) (fun own' a' w' ha hb => ⟨_, (ha 13).trans f_13, hb⟩))
          exact steps_nil
        intro own1594 a1594 w1594 hd1594 hz1594 hk1594 hf1594 hE1594
        have e1594_7 : a1594.eval (.tmp 7) = .pointer (some ⟨g818, 0, none⟩) := (hk1594 7 rfl).trans e1589_7
        have e1594_8 : a1594.eval (.tmp 8) = .pointer (some ⟨g820, 0, none⟩) := (hk1594 8 rfl).trans e1589_8
        have e1594_65 : a1594.eval (.tmp 65) = .agg #[.int .i64 (sb p1.1 b3.1.1), .int .i64 (sb q2.1 p1.1), .int .i64 (sb b3.2.1 p1.1), .int .i64 (sb p1.1 q2.1), .int .i64 (sb p1.2 b3.1.2), .int .i64 (sb q2.2 p1.2), .int .i64 (sb b3.2.2 p1.2), .int .i64 (sb p1.2 q2.2)] := (hk1594 65 rfl).trans e1589_65
        have e1594_66 : a1594.eval (.tmp 66) = .int .i64 x1087 := (hk1594 66 rfl).trans e1589_66
        obtain ⟨⟨g1591, (f_13 : a1594.eval (.tmp 13) = .pointer (some ⟨g1591, 0, none⟩)), (b_g1591 : BlkO own1594 1593 w1594 g1591 65 #[.int .i64 (ng x1545.1), .int .i64 x1545.2])⟩, -⟩ := hf1594 [5] rfl
        have e1594_13 := f_13
        have hX1594 := Evo.step hX1589 (fun _ => Nat.le_refl 0) hE1594 rfl
        have b1594_g818 := BlkO.evo (by decide) hE1594 b1589_g818
        have b1594_g820 := BlkO.evo (by decide) hE1594 b1589_g820
        have b1594_g1591 := b_g1591
        obtain ⟨r1595, hr1595, hs⟩ := obind hs
        refine rg_plain_seq (n := 101) (rs := []) (own0 := own1594) (K := [])
            (bs := [0, 0, 3])
            (ds := [⟨[], [7], [], Fct.val 93 (.agg #[.int .i64 first1084.1, .int .i64 first1084.2])⟩,
            ⟨[], [13], [], Fct.val 94 (.agg #[.int .i64 (ng x1545.1), .int .i64 x1545.2])⟩,
            ⟨[0, 1], [], [], Fct.val 95 (.bool r1595)⟩]) (by kernel_rfl) hz1594 hd1594 (fun _ h => nomatch h) ?_ ?_
        · refine steps_cons (fun own a wx hf hsl hE => ?_) ?_
          · obtain ⟨s_7, -⟩ := hsl
            exact sg_plain rfl rfl (or_load (l := [.int .i64 first1084.1, .int .i64 first1084.2]) ta65 (s_7.trans e1594_7) (Blk.cellsFrom (BlkO.evo (by decide) hE b1594_g818).2 0 rfl) rfl)
          refine steps_cons (fun own a wx hf hsl hE => ?_) ?_
          · obtain ⟨s_13, -⟩ := hsl
            exact sg_plain rfl rfl (or_load (l := [.int .i64 (ng x1545.1), .int .i64 x1545.2]) ta65 (s_13.trans e1594_13) (Blk.cellsFrom (BlkO.evo (by decide) hE b1594_g1591).2 0 rfl) rfl)
          refine steps_cons (fun own a wx hf hsl hE => ?_) ?_
          · obtain ⟨(f_93 : a.eval (.tmp 93) = .agg #[.int .i64 first1084.1, .int .i64 first1084.2]), (f_94 : a.eval (.tmp 94) = .agg #[.int .i64 (ng x1545.1), .int .i64 x1545.2]), -⟩ := hf
            exact sg_plain rfl rfl (or_call cf39 (args2 f_93 f_94) (lineclip_less_w _ first1084 (ng x1545.1, x1545.2)  r1595 hr1595) post_val)
          exact steps_nil
        intro own1596 a1596 w1596 hd1596 hz1596 hk1596 hf1596 hE1596
        have e1596_7 : a1596.eval (.tmp 7) = .pointer (some ⟨g818, 0, none⟩) := (hk1596 7 rfl).trans e1594_7
        have e1596_8 : a1596.eval (.tmp 8) = .pointer (some ⟨g820, 0, none⟩) := (hk1596 8 rfl).trans e1594_8
        have e1596_13 : a1596.eval (.tmp 13) = .pointer (some ⟨g1591, 0, none⟩) := (hk1596 13 rfl).trans e1594_13
        have e1596_65 : a1596.eval (.tmp 65) = .agg #[.int .i64 (sb p1.1 b3.1.1), .int .i64 (sb q2.1 p1.1), .int .i64 (sb b3.2.1 p1.1), .int .i64 (sb p1.1 q2.1), .int .i64 (sb p1.2 b3.1.2), .int .i64 (sb q2.2 p1.2), .int .i64 (sb b3.2.2 p1.2), .int .i64 (sb p1.2 q2.2)] := (hk1596 65 rfl).trans e1594_65
        have e1596_66 : a1596.eval (.tmp 66) = .int .i64 x1087 := (hk1596 66 rfl).trans e1594_66
        obtain ⟨(f_95 : a1596.eval (.tmp 95) = .bool r1595), -⟩ := hf1596 [2] rfl
        have e1596_95 := f_95
        have hX1596 := Evo.step hX1594 (fun _ => Nat.le_refl 0) hE1596 rfl
        have b1596_g818 := BlkO.evo (by decide) hE1596 b1594_g818
        have b1596_g820 := BlkO.evo (by decide) hE1596 b1594_g820
        have b1596_g1591 := BlkO.evo (by decide) hE1596 b1594_g1591
        refine fl_cond e1596_95 hs (fun c1597 hs => ?_) (fun c1597 hs => ?_)
        · refine rg_plain (n := 101) (rs := [Fct.at_ 1083 g818 65 #[.int .i64 first1084.1, .int .i64 first1084.2]]) (own0 := own1596) (K := [1083])
              (bs := [0, 1])
              (ds := [⟨[], [13], [], Fct.val 96 (.agg #[.int .i64 (ng x1545.1), .int .i64 x1545.2])⟩,
              ⟨[0, 2], [7], [1083], Fct.at_ 1598 g818 65 #[.int .i64 (ng x1545.1), .int .i64 x1545.2]⟩]) (by kernel_rfl) hz1596 hd1596 (by simp only [List.forall_mem_cons]; exact ⟨b1596_g818, fun _ h => nomatch h⟩) ?_ ?_
          · refine steps_cons (fun own a wx hf hsl hE => ?_) ?_
            · obtain ⟨s_13, -⟩ := hsl
              exact sg_plain rfl rfl (or_load (l := [.int .i64 (ng x1545.1), .int .i64 x1545.2]) ta65 (s_13.trans e1596_13) (Blk.cellsFrom (BlkO.evo (by decide) hE b1596_g1591).2 0 rfl) rfl)
            refine steps_cons (fun own a wx hf hsl hE => ?_) ?_
            · obtain ⟨(f_96 : a.eval (.tmp 96) = .agg #[.int .i64 (ng x1545.1), .int .i64 x1545.2]), (b_g818 : BlkO own 1083 wx g818 65 #[.int .i64 first1084.1, .int .i64 first1084.2]), -⟩ := hf
              obtain ⟨s_7, -⟩ := hsl
              exact sg_plain rfl rfl (or_store (l := #[.int .i64 (ng x1545.1), .int .i64 x1545.2]) (lab := 1083) (lab2 := 1598) ts65 (s_7.trans e1596_7) f_96 b_g818 (by simp) (by kernel_rfl) (mem_of rfl) (by decide) (by kernel_rfl) (fun own' a' w' ha hb => hb))
            exact steps_nil
          intro own1599 a1599 w1599 hd1599 hz1599 hk1599 hf1599 hE1599
          have e1599_7 : a1599.eval (.tmp 7) = .pointer (some ⟨g818, 0, none⟩) := (hk1599 7 rfl).trans e1596_7
          have e1599_8 : a1599.eval (.tmp 8) = .pointer (some ⟨g820, 0, none⟩) := (hk1599 8 rfl).trans e1596_8
          have e1599_65 : a1599.eval (.tmp 65) = .agg #[.int .i64 (sb p1.1 b3.1.1), .int .i64 (sb q2.1 p1.1), .int .i64 (sb b3.2.1 p1.1), .int .i64 (sb p1.1 q2.1), .int .i64 (sb p1.2 b3.1.2), .int .i64 (sb q2.2 p1.2), .int .i64 (sb b3.2.2 p1.2), .int .i64 (sb p1.2 q2.2)] := (hk1599 65 rfl).trans e1596_65
          have e1599_66 : a1599.eval (.tmp 66) = .int .i64 x1087 := (hk1599 66 rfl).trans e1596_66
          obtain ⟨(b_g818 : BlkO own1599 1598 w1599 g818 65 #[.int .i64 (ng x1545.1), .int .i64 x1545.2]), -⟩ := hf1599 [1] rfl
          have hX1599 := Evo.step hX1596 (fun _ => Nat.le_refl 0) hE1599 rfl
          have b1599_g820 := BlkO.evo (by decide) hE1599 b1596_g820
          have b1599_g818 := b_g818
          exact (K1581 _ _ (rl [(1085, 1579), (1598, 1577)] own1599) (ng x1545.1, x1545.2) last1086 hd1599 hz1599 e1599_7 e1599_8 e1599_65 e1599_66 (Evo.rl_ hX1599 (fun _ => Nat.le_refl 0) rfl) (BlkO.rl_ (mm := [(1085, 1579), (1598, 1577)]) b1599_g818) (BlkO.rl_ (mm := [(1085, 1579), (1598, 1577)]) b1599_g820) hs).1
        refine fl_skip ?_
        exact (K1581 _ _ (rl [(1083, 1577), (1085, 1579)] own1596) first1084 last1086 hd1596 hz1596 e1596_7 e1596_8 e1596_65 e1596_66 (Evo.rl_ hX1596 (fun _ => Nat.le_refl 0) rfl) (BlkO.rl_ (mm := [(1083, 1577), (1085, 1579)]) b1596_g818) (BlkO.rl_ (mm := [(1083, 1577), (1085, 1579)]) b1596_g820) hs).1
      refine rg_plain_seq (n := 101) (rs := []) (own0 := own1589) (K := [1601])
          (bs := [0, 0, 2, 7, 0, 31])
          (ds := [⟨[], [11], [], Fct.val 73 (.int .i64 x1545.1)⟩,
          ⟨[], [12], [], Fct.val 74 (.int .i64 x1545.2)⟩,
          ⟨[1], [], [], Fct.val 75 (.int .i64 (ng x1545.2))⟩,
          ⟨[0, 2], [], [], Fct.val 76 (.agg #[.int .i64 x1545.1, .int .i64 (ng x1545.2)])⟩,
          ⟨[], [], [], Fct.blk 1601 14 (fun g => .pointer (some ⟨g, 0, none⟩)) 65 #[.int .i64 0, .int .i64 0]⟩,
          ⟨[4, 3], [], [1601], Fct.blk 1602 14 (fun g => .pointer (some ⟨g, 0, none⟩)) 65 #[.int .i64 x1545.1, .int .i64 (ng x1545.2)]⟩]) (by kernel_rfl) hz1589 hd1589 (fun _ h => nomatch h) ?_ ?_
      · refine steps_cons (fun own a wx hf hsl hE => ?_) ?_
        · obtain ⟨s_11, -⟩ := hsl
          exact sg_plain rfl rfl (or_move (s_11.trans e1589_11))
        refine steps_cons (fun own a wx hf hsl hE => ?_) ?_
        · obtain ⟨s_12, -⟩ := hsl
          exact sg_plain rfl rfl (or_move (s_12.trans e1589_12))
        refine steps_cons (fun own a wx hf hsl hE => ?_) ?_
        · obtain ⟨(f_74 : a.eval (.tmp 74) = .int .i64 x1545.2), -⟩ := hf
          exact sg_plain rfl rfl (or_neg f_74 rfl)
        refine steps_cons (fun own a wx hf hsl hE => ?_) ?_
        · obtain ⟨(f_73 : a.eval (.tmp 73) = .int .i64 x1545.1), (f_75 : a.eval (.tmp 75) = .int .i64 (ng x1545.2)), -⟩ := hf
          exact sg_plain rfl rfl (or_k [(73, .int .i64 x1545.1), (75, .int .i64 (ng x1545.2))] rfl rfl ⟨f_73, f_75, trivial⟩ (by kernel_rfl))
        refine steps_cons (fun own a wx hf hsl hE => ?_) ?_
        · exact sg_plain rfl rfl (or_new [] rfl rfl trivial (by kernel_rfl))
        refine steps_cons (fun own a wx hf hsl hE => ?_) ?_
        · obtain ⟨⟨g1600, (f_14 : a.eval (.tmp 14) = .pointer (some ⟨g1600, 0, none⟩)), (b_g1600 : BlkO own 1601 wx g1600 65 #[.int .i64 0, .int .i64 0])⟩, (f_76 : a.eval (.tmp 76) = .agg #[.int .i64 x1545.1, .int .i64 (ng x1545.2)]), -⟩ := hf
          exact sg_plain rfl rfl (or_store (l := #[.int .i64 x1545.1, .int .i64 (ng x1545.2)]) (lab := 1601) (lab2 := 1602) ts65 f_14 f_76 b_g1600 (by simp) (by kernel_rfl) (mem_of rfl) (by decide) (by kernel_rfl) (fun own' a' w' ha hb => ⟨_, (ha 14).trans f_14, hb⟩))
        exact steps_nil
      intro own1603 a1603 w1603 hd1603 hz1603 hk1603 hf1603 hE1603
      have e1603_7 : a1603.eval (.tmp 7) = .pointer (some ⟨g818, 0, none⟩) := (hk1603 7 rfl).trans e1589_7
      have e1603_8 : a1603.eval (.tmp 8) = .pointer (some ⟨g820, 0, none⟩) := (hk1603 8 rfl).trans e1589_8
      have e1603_65 : a1603.eval (.tmp 65) = .agg #[.int .i64 (sb p1.1 b3.1.1), .int .i64 (sb q2.1 p1.1), .int .i64 (sb b3.2.1 p1.1), .int .i64 (sb p1.1 q2.1), .int .i64 (sb p1.2 b3.1.2), .int .i64 (sb q2.2 p1.2), .int .i64 (sb b3.2.2 p1.2), .int .i64 (sb p1.2 q2.2)] := (hk1603 65 rfl).trans e1589_65
      have e1603_66 : a1603.eval (.tmp 66) = .int .i64 x1087 := (hk1603 66 rfl).trans e1589_66
      obtain ⟨⟨g1600, (f_14 : a1603.eval (.tmp 14) = .pointer (some ⟨g1600, 0, none⟩)), (b_g1600 : BlkO own1603 1602 w1603 g1600 65 #[.int .i64 x1545.1, .int .i64 (ng x1545.2)])⟩, -⟩ := hf1603 [5] rfl
      have e1603_14 := f_14
      have hX1603 := Evo.step hX1589 (fun _ => Nat.le_refl 0) hE1603 rfl
      have b1603_g818 := BlkO.evo (by decide) hE1603 b1589_g818
      have b1603_g820 := BlkO.evo (by decide) hE1603 b1589_g820
      have b1603_g1600 := b_g1600
      obtain ⟨r1604, hr1604, hs⟩ := obind hs
      refine rg_plain_seq (n := 101) (rs := []) (own0 := own1603) (K := [])
          (bs := [0, 0, 3])
          (ds := [⟨[], [14], [], Fct.val 77 (.agg #[.int .i64 x1545.1, .int .i64 (ng x1545.2)])⟩,
          ⟨[], [8], [], Fct.val 78 (.agg #[.int .i64 last1086.1, .int .i64 last1086.2])⟩,
          ⟨[0, 1], [], [], Fct.val 79 (.bool r1604)⟩]) (by kernel_rfl) hz1603 hd1603 (fun _ h => nomatch h) ?_ ?_
      · refine steps_cons (fun own a wx hf hsl hE => ?_) ?_
        · obtain ⟨s_14, -⟩ := hsl
          exact sg_plain rfl rfl (or_load (l := [.int .i64 x1545.1, .int .i64 (ng x1545.2)]) ta65 (s_14.trans e1603_14) (Blk.cellsFrom (BlkO.evo (by decide) hE b1603_g1600).2 0 rfl) rfl)
        refine steps_cons (fun own a wx hf hsl hE => ?_) ?_
        · obtain ⟨s_8, -⟩ := hsl
          exact sg_plain rfl rfl (or_load (l := [.int .i64 last1086.1, .int .i64 last1086.2]) ta65 (s_8.trans e1603_8) (Blk.cellsFrom (BlkO.evo (by decide) hE b1603_g820).2 0 rfl) rfl)
        refine steps_cons (fun own a wx hf hsl hE => ?_) ?_
        · obtain ⟨(f_77 : a.eval (.tmp 77) = .agg #[.int .i64 x1545.1, .int .i64 (ng x1545.2)]), (f_78 : a.eval (.tmp 78) = .agg #[.int .i64 last1086.1, .int .i64 last1086.2]), -⟩ := hf
          exact sg_plain rfl rfl (or_call cf39 (args2 f_77 f_78) (lineclip_less_w _ (x1545.1, ng x1545.2) last1086  r1604 hr1604) post_val)
        exact steps_nil
      intro own1605 a1605 w1605 hd1605 hz1605 hk1605 hf1605 hE1605
      have e1605_7 : a1605.eval (.tmp 7) = .pointer (some ⟨g818, 0, none⟩) := (hk1605 7 rfl).trans e1603_7
      have e1605_8 : a1605.eval (.tmp 8) = .pointer (some ⟨g820, 0, none⟩) := (hk1605 8 rfl).trans e1603_8
      have e1605_14 : a1605.eval (.tmp 14) = .pointer (some ⟨g1600, 0, none⟩) := (hk1605 14 rfl).trans e1603_14
      have e1605_65 : a1605.eval (.tmp 65) = .agg #[.int .i64 (sb p1.1 b3.1.1), .int .i64 (sb q2.1 p1.1), .int .i64 (sb b3.2.1 p1.1), .int .i64 (sb p1.1 q2.1), .int .i64 (sb p1.2 b3.1.2), .int .i64 (sb q2.2 p1.2), .int .i64 (sb b3.2.2 p1.2), .int .i64 (sb p1.2 q2.2)] := (hk1605 65 rfl).trans e1603_65
      have e1605_66 : a1605.eval (.tmp 66) = .int .i64 x1087 := (hk1605 66 rfl).trans e1603_66
      obtain ⟨(f_79 : a1605.eval (.tmp 79) = .bool r1604), -⟩ := hf1605 [2] rfl
      have e1605_79 := f_79
      have hX1605 := Evo.step hX1603 (fun _ => Nat.le_refl 0) hE1605 rfl
      have b1605_g818 := BlkO.evo (by decide) hE1605 b1603_g818
      have b1605_g820 := BlkO.evo (by decide) hE1605 b1603_g820
      have b1605_g1600 := BlkO.evo (by decide) hE1605 b1603_g1600
      refine fl_cond e1605_79 hs (fun c1606 hs => ?_) (fun c1606 hs => ?_)
      · refine rg_plain (n := 101) (rs := [Fct.at_ 1085 g820 65 #[.int .i64 last1086.1, .int .i64 last1086.2]]) (own0 := own1605) (K := [1085])
            (bs := [0, 1])
            (ds := [⟨[], [14], [], Fct.val 80 (.agg #[.int .i64 x1545.1, .int .i64 (ng x1545.2)])⟩,
            ⟨[0, 2], [8], [1085], Fct.at_ 1607 g820 65 #[.int .i64 x1545.1, .int .i64 (ng x1545.2)]⟩]) (by kernel_rfl) hz1605 hd1605 (by simp only [List.forall_mem_cons]; exact ⟨b1605_g820, fun _ h => nomatch h⟩) ?_ ?_
        · refine steps_cons (fun own a wx hf hsl hE => ?_) ?_
          · obtain ⟨s_14, -⟩ := hsl
            exact sg_plain rfl rfl (or_load (l := [.int .i64 x1545.1, .int .i64 (ng x1545.2)]) ta65 (s_14.trans e1605_14) (Blk.cellsFrom (BlkO.evo (by decide) hE b1605_g1600).2 0 rfl) rfl)
          refine steps_cons (fun own a wx hf hsl hE => ?_) ?_
          · obtain ⟨(f_80 : a.eval (.tmp 80) = .agg #[.int .i64 x1545.1, .int .i64 (ng x1545.2)]), (b_g820 : BlkO own 1085 wx g820 65 #[.int .i64 last1086.1, .int .i64 last1086.2]), -⟩ := hf
            obtain ⟨s_8, -⟩ := hsl
            exact sg_plain rfl rfl (or_store (l := #[.int .i64 x1545.1, .int .i64 (ng x1545.2)]) (lab := 1085) (lab2 := 1607) ts65 (s_8.trans e1605_8) f_80 b_g820 (by simp) (by kernel_rfl) (mem_of rfl) (by decide) (by kernel_rfl) (fun own' a' w' ha hb => hb))
          exact steps_nil
        intro own1608 a1608 w1608 hd1608 hz1608 hk1608 hf1608 hE1608
        have e1608_7 : a1608.eval (.tmp 7) = .pointer (some ⟨g818, 0, none⟩) := (hk1608 7 rfl).trans e1605_7
        have e1608_8 : a1608.eval (.tmp 8) = .pointer (some ⟨g820, 0, none⟩) := (hk1608 8 rfl).trans e1605_8
        have e1608_65 : a1608.eval (.tmp 65) = .agg #[.int .i64 (sb p1.1 b3.1.1), .int .i64 (sb q2.1 p1.1), .int .i64 (sb b3.2.1 p1.1), .int .i64 (sb p1.1 q2.1), .int .i64 (sb p1.2 b3.1.2), .int .i64 (sb q2.2 p1.2), .int .i64 (sb b3.2.2 p1.2), .int .i64 (sb p1.2 q2.2)] := (hk1608 65 rfl).trans e1605_65
        have e1608_66 : a1608.eval (.tmp 66) = .int .i64 x1087 := (hk1608 66 rfl).trans e1605_66
        obtain ⟨(b_g820 : BlkO own1608 1607 w1608 g820 65 #[.int .i64 x1545.1, .int .i64 (ng x1545.2)]), -⟩ := hf1608 [1] rfl
        have hX1608 := Evo.step hX1605 (fun _ => Nat.le_refl 0) hE1608 rfl
        have b1608_g818 := BlkO.evo (by decide) hE1608 b1605_g818
        have b1608_g820 := b_g820
        exact (K1581 _ _ (rl [(1083, 1577), (1607, 1579)] own1608) first1084 (x1545.1, ng x1545.2) hd1608 hz1608 e1608_7 e1608_8 e1608_65 e1608_66 (Evo.rl_ hX1608 (fun _ => Nat.le_refl 0) rfl) (BlkO.rl_ (mm := [(1083, 1577), (1607, 1579)]) b1608_g818) (BlkO.rl_ (mm := [(1083, 1577), (1607, 1579)]) b1608_g820) hs).1
      refine fl_skip ?_
      exact (K1581 _ _ (rl [(1083, 1577), (1085, 1579)] own1605) first1084 last1086 hd1605 hz1605 e1605_7 e1605_8 e1605_65 e1605_66 (Evo.rl_ hX1605 (fun _ => Nat.le_refl 0) rfl) (BlkO.rl_ (mm := [(1083, 1577), (1085, 1579)]) b1605_g818) (BlkO.rl_ (mm := [(1083, 1577), (1085, 1579)]) b1605_g820) hs).1
    refine fl_exit ?_
    refine hp1351 _ _ _ rfl ?_
    replace hs := hz1348 _ hs
    refine hp1348 _ _ _ rfl ?_
    refine hx827 _ _ ?_
    refine hn825 _ _ ?_
    obtain ⟨r1609, hr1609, hs⟩ := obind hs
    refine rg_plain_seq (n := 101) (rs := []) (own0 := own1350) (K := [])
        (bs := [0, 0, 3, 7])
        (ds := [⟨[], [7], [], Fct.val 98 (.agg #[.int .i64 first1084.1, .int .i64 first1084.2])⟩,
        ⟨[], [8], [], Fct.val 99 (.agg #[.int .i64 last1086.1, .int .i64 last1086.2])⟩,
        ⟨[0, 1], [], [], Fct.val 100 (.bool r1609)⟩,
        ⟨[2], [], [], Fct.val 6 (.bool r1609)⟩]) (by kernel_rfl) hz1350 hd1350 (fun _ h => nomatch h) ?_ ?_
    · refine steps_cons (fun own a wx hf hsl hE => ?_) ?_
      · obtain ⟨s_7, -⟩ := hsl
        exact sg_plain rfl rfl (or_load (l := [.int .i64 first1084.1, .int .i64 first1084.2]) ta65 (s_7.trans e1350_7) (Blk.cellsFrom (BlkO.evo (by decide) hE b1350_g818).2 0 rfl) rfl)
      refine steps_cons (fun own a wx hf hsl hE => ?_) ?_
      · obtain ⟨s_8, -⟩ := hsl
        exact sg_plain rfl rfl (or_load (l := [.int .i64 last1086.1, .int .i64 last1086.2]) ta65 (s_8.trans e1350_8) (Blk.cellsFrom (BlkO.evo (by decide) hE b1350_g820).2 0 rfl) rfl)
      refine steps_cons (fun own a wx hf hsl hE => ?_) ?_
      · obtain ⟨(f_98 : a.eval (.tmp 98) = .agg #[.int .i64 first1084.1, .int .i64 first1084.2]), (f_99 : a.eval (.tmp 99) = .agg #[.int .i64 last1086.1, .int .i64 last1086.2]), -⟩ := hf
        exact sg_plain rfl rfl (or_call cf39 (args2 f_98 f_99) (lineclip_less_w _ first1084 last1086  r1609 hr1609) post_val)
      refine steps_cons (fun own a wx hf hsl hE => ?_) ?_
      · obtain ⟨(f_100 : a.eval (.tmp 100) = .bool r1609), -⟩ := hf
        exact sg_plain rfl rfl (or_assign f_100)
      exact steps_nil
    intro own1610 a1610 w1610 hd1610 hz1610 hk1610 hf1610 hE1610
    obtain ⟨(f_6 : a1610.eval (.tmp 6) = .bool r1609), -⟩ := hf1610 [3] rfl
    have e1610_6 := f_6
    have hX1610 := Evo.step hX1350 (fun _ => Nat.le_refl 0) hE1610 rfl
    refine fl_ret ?_
    obtain rfl := (osome hs).symm
    exact hret _ _ _ _ (.inl rfl) hd1610 (results1_ rfl (RVal.tmp_ e1610_6)) ⟨own1610, rfl, hX1610⟩

theorem lineclip_Meets_w (w : World) (l1 : List (Int × Int)) (Al1 : Option Addr) (cl1 : Nat) (b2 : (Int × Int) × (Int × Int)) (hl1 : RdO (fun _ => 0) [0] w R34 Al1 cl1 l1) (r : Bool) (hs : lineclip_Meets l1 b2 = some r) :
    Calls Try.prog 19 #[.slice Al1 l1.length cl1, .agg #[.int .i64 b2.1.1, .int .i64 b2.1.2, .int .i64 b2.2.1, .int .i64 b2.2.2]] w fun e w' => ∃ own' : Own, e = .returned (.bool r) ∧ Evo [] (fun _ => 0) own' w w' := by
  refine fl_enter (n := 52) rfl rfl rfl (Nat.le_of_ble_eq_true rfl) ?_
  intro a0 Q hd0 hz0 harg hret
  have ha0 := harg 0 _ rfl
  have ha1 := harg 1 _ rfl
  clear harg
  have hE0 : Evo [] (fun _ => 0) (fun _ => 0) w w := Evo.refl _ _ _
  refine rg_plain_seq (n := 52) (rs := []) (own0 := (fun _ => 0)) (K := [])
      (bs := [0, 0])
      (ds := [⟨[], [1], [], Fct.blk 87 3 (fun g => .pointer (some ⟨g, 0, none⟩)) 36 #[.int .i64 b2.1.1, .int .i64 b2.1.2, .int .i64 b2.2.1, .int .i64 b2.2.2]⟩,
      ⟨[], [], [], Fct.val 4 (.bool false)⟩]) (by kernel_rfl) hz0 hd0 (fun _ h => nomatch h) ?_ ?_
  · refine steps_cons (fun own a wx hf hsl hE => ?_) ?_
    · obtain ⟨s_1, -⟩ := hsl
      exact sg_plain rfl rfl (or_new [(1, .agg #[.int .i64 b2.1.1, .int .i64 b2.1.2, .int .i64 b2.2.1, .int .i64 b2.2.2])] rfl rfl ⟨(s_1.trans ha1), trivial⟩ (by kernel_rfl))
    refine steps_cons (fun own a wx hf hsl hE => ?_) ?_
    · exact sg_plain rfl rfl (or_assign rfl)
    exact steps_nil
  intro own88 a88 w88 hd88 hz88 hk88 hf88 hE88
  have e88_0 : a88.eval (.tmp 0) = .slice Al1 l1.length cl1 := (hk88 0 rfl).trans ha0
  obtain ⟨⟨g86, (f_3 : a88.eval (.tmp 3) = .pointer (some ⟨g86, 0, none⟩)), (b_g86 : BlkO own88 87 w88 g86 36 #[.int .i64 b2.1.1, .int .i64 b2.1.2, .int .i64 b2.2.1, .int .i64 b2.2.2])⟩, -⟩ := hf88 [0] rfl
  have e88_3 := f_3
  have hX88 := Evo.step hE0 (fun _ => Nat.le_refl 0) hE88 rfl
  have b88_Al1 := RdO.evo rfl hE88 hl1
  have b88_g86 := b_g86
  refine fl_seq (fun Q89 hn89 hp89 => ?_)
  refine rg_plain_seq (n := 52) (rs := []) (own0 := own88) (K := [])
      (bs := [0])
      (ds := [⟨[], [], [], Fct.val 5 (.int .i64 1)⟩]) (by kernel_rfl) hz88 hd88 (fun _ h => nomatch h) ?_ ?_
  · refine steps_cons (fun own a wx hf hsl hE => ?_) ?_
    · exact sg_plain rfl rfl (or_assign rfl)
    exact steps_nil
  intro own90 a90 w90 hd90 hz90 hk90 hf90 hE90
  have e90_0 : a90.eval (.tmp 0) = .slice Al1 l1.length cl1 := (hk90 0 rfl).trans e88_0
  have e90_3 : a90.eval (.tmp 3) = .pointer (some ⟨g86, 0, none⟩) := (hk90 3 rfl).trans e88_3
  obtain ⟨(f_5 : a90.eval (.tmp 5) = .int .i64 1), -⟩ := hf90 [0] rfl
  have e90_5 := f_5
  have hX90 := Evo.step hX88 (fun _ => Nat.le_refl 0) hE90 rfl
  have b90_Al1 := RdO.evo rfl hE90 b88_Al1
  have b90_g86 := BlkO.evo (by decide) hE90 b88_g86
  refine fl_block (fun Q91 hn91 hx91 hp91 => ?_)
  refine fl_loop (body := (fun s => lineclip_Meets_b1 l1 b2 s)) (z := r) (show loopO _ _ = _ from hs) (fun (i114 : Int) a wx => ∃ (ox : Own), a.defers = [] ∧ a.tmps.size = 52 ∧ a.eval (.tmp 0) = .slice Al1 l1.length cl1 ∧ a.eval (.tmp 3) = .pointer (some ⟨g86, 0, none⟩) ∧ a.eval (.tmp 5) = .int .i64 i114 ∧ Evo [] (fun _ => 0) ox w wx ∧ RdO ox [0] wx R34 Al1 cl1 l1 ∧ BlkO ox 87 wx g86 36 #[.int .i64 b2.1.1, .int .i64 b2.1.2, .int .i64 b2.2.1, .int .i64 b2.2.2]) ?_ ?_
  · exact ⟨own90, hd90, hz90, e90_0, e90_3, e90_5, hX90, b90_Al1, b90_g86⟩
  · rintro i114 zz137 a137 w137 ⟨own137, hd138, hz138, e138_0, e138_3, e138_5, hE138, b138_Al1, b138_g86⟩ hs Q137 hn137 hp137 hz137
    have hs : lineclip_Meets_b1 l1 b2 i114 = some zz137 := hs
    refine fl_seq (fun Q139 hn139 hp139 => ?_)
    refine rg_plain_seq (n := 52) (rs := []) (own0 := own137) (K := [])
        (bs := [0, 0, 2, 7])
        (ds := [⟨[], [5], [], Fct.val 6 (.int .i64 i114)⟩,
        ⟨[], [0], [], Fct.val 7 (.slice Al1 l1.length cl1)⟩,
        ⟨[1], [], [], Fct.val 8 (.int .i64 (l1.length : Int))⟩,
        ⟨[0, 2], [], [], Fct.val 9 (.bool (decide (i114 < (l1.length : Int))))⟩]) (by kernel_rfl) hz138 hd138 (fun _ h => nomatch h) ?_ ?_
    · refine steps_cons (fun own a wx hf hsl hE => ?_) ?_
      · obtain ⟨s_5, -⟩ := hsl
        exact sg_plain rfl rfl (or_move (s_5.trans e138_5))
      refine steps_cons (fun own a wx hf hsl hE => ?_) ?_
      · obtain ⟨s_0, -⟩ := hsl
        exact sg_plain rfl rfl (or_move (s_0.trans e138_0))
      refine steps_cons (fun own a wx hf hsl hE => ?_) ?_
      · obtain ⟨(f_7 : a.eval (.tmp 7) = .slice Al1 l1.length cl1), -⟩ := hf
        exact sg_plain rfl rfl (or_len tu24 f_7 rfl)
      refine steps_cons (fun own a wx hf hsl hE => ?_) ?_
      · obtain ⟨(f_6 : a.eval (.tmp 6) = .int .i64 i114), (f_8 : a.eval (.tmp 8) = .int .i64 (l1.length : Int)), -⟩ := hf
        exact sg_plain rfl rfl (or_lss f_6 f_8 rfl)
      exact steps_nil
    intro own140 a140 w140 hd140 hz140 hk140 hf140 hE140
    have e140_0 : a140.eval (.tmp 0) = .slice Al1 l1.length cl1 := (hk140 0 rfl).trans e138_0
    have e140_3 : a140.eval (.tmp 3) = .pointer (some ⟨g86, 0, none⟩) := (hk140 3 rfl).trans e138_3
    have e140_5 : a140.eval (.tmp 5) = .int .i64 i114 := (hk140 5 rfl).trans e138_5
    obtain ⟨(f_9 : a140.eval (.tmp 9) = .bool (decide (i114 < (l1.length : Int)))), -⟩ := hf140 [3] rfl
    have e140_9 := f_9
    have hX140 := Evo.step hE138 (fun _ => Nat.le_refl 0) hE140 rfl
    have b140_Al1 := RdO.evo rfl hE140 b138_Al1
    have b140_g86 := BlkO.evo (by decide) hE140 b138_g86
    refine fl_cond e140_9 hs (fun c141 hs => ?_) (fun c141 hs => ?_)
    · refine fl_skip ?_
      refine hn139 _ _ ?_
      refine fl_seq (fun Q142 hn142 hp142 => ?_)
      refine fl_block (fun Q143 hn143 hx143 hp143 => ?_)
      obtain ⟨x144, hx144, hs⟩ := obind hs
      obtain ⟨x145, hx145, hs⟩ := obind hs
      obtain ⟨x146, hx146, hs⟩ := obind hs
      obtain ⟨x147, hx147, hs⟩ := obind hs
      obtain ⟨r150, hr150, hs⟩ := obind hs
      obtain ⟨r151, hr151, hs⟩ := obind hs
      obtain ⟨x152, hx152, hs⟩ := obind hs
      obtain ⟨x153, hx153, hs⟩ := obind hs
      obtain ⟨x154, hx154, hs⟩ := obind hs
      obtain ⟨r155, hr155, hs⟩ := obind hs
      refine rg_draw_seq g_mixed (n := 52) (rs := []) (own0 := own140) (K := [])
          (bs := [0, 0, 2, 7, 15, 0, 0, 96, 224, 511, 1023, 2047, 2047, 6143, 16383, 32767, 2047, 2047, 198655, 460799, 1048575, 2097151, 4194303, 8388607, 16777215, 33554431, 67108863, 134217727, 268435455, 268435455, 805306367, 2147483647, 4294967295, 268435455, 268435455, 26038239231, 60397977599, 268435455, 274877906943, 549755813887])
          (ds := [⟨[], [0], [], Fct.val 12 (.slice Al1 l1.length cl1)⟩,
          ⟨[], [5], [], Fct.val 13 (.int .i64 i114)⟩,
          ⟨[1], [], [], Fct.val 14 (.int .i64 (sb i114 1))⟩,
          ⟨[0, 2], [], [], Fct.val 15 (.pointer (some ((adr Al1).add ((sb i114 1 : Int).toNat * R34.s))))⟩,
          ⟨[3], [], [], Fct.val 16 (.agg #[.int .i64 x144.1, .int .i64 x144.2])⟩,
          ⟨[], [0], [], Fct.val 17 (.slice Al1 l1.length cl1)⟩,
          ⟨[], [5], [], Fct.val 18 (.int .i64 i114)⟩,
          ⟨[5, 6], [], [], Fct.val 19 (.pointer (some ((adr Al1).add ((i114 : Int).toNat * R34.s))))⟩,
          ⟨[7], [], [], Fct.val 20 (.agg #[.int .i64 x145.1, .int .i64 x145.2])⟩,
          ⟨[4, 8], [], [], Fct.val 21 (.bool (!decide (x144 = x145)))⟩,
          ⟨[9], [], [], Fct.val 22 (.bool (!decide (x144 = x145)))⟩,
          ⟨[10], [0], [], Fct.cond (!decide (x144 = x145)) (some 23) (Fct.val 23 (.slice Al1 l1.length cl1))⟩,
          ⟨[10], [5], [], Fct.cond (!decide (x144 = x145)) (some 24) (Fct.val 24 (.int .i64 i114))⟩,
          ⟨[10, 12], [], [], Fct.cond (!decide (x144 = x145)) (some 25) (Fct.val 25 (.int .i64 (sb i114 1)))⟩,
          ⟨[10, 11, 13], [], [], Fct.cond (!decide (x144 = x145)) (some 26) (Fct.val 26 (.pointer (some ((adr Al1).add ((sb i114 1 : Int).toNat * R34.s)))))⟩,
          ⟨[10, 14], [], [], Fct.cond (!decide (x144 = x145)) (some 27) (Fct.val 27 (.agg #[.int .i64 x146.1, .int .i64 x146.2]))⟩,
          ⟨[10], [0], [], Fct.cond (!decide (x144 = x145)) (some 28) (Fct.val 28 (.slice Al1 l1.length cl1))⟩,
          ⟨[10], [5], [], Fct.cond (!decide (x144 = x145)) (some 29) (Fct.val 29 (.int .i64 i114))⟩,
          ⟨[10, 16, 17], [], [], Fct.cond (!decide (x144 = x145)) (some 30) (Fct.val 30 (.pointer (some ((adr Al1).add ((i114 : Int).toNat * R34.s)))))⟩,
          ⟨[10, 18], [], [], Fct.cond (!decide (x144 = x145)) (some 31) (Fct.val 31 (.agg #[.int .i64 x147.1, .int .i64 x147.2]))⟩,
          ⟨[10, 15, 19], [], [], Fct.cond (!decide (x144 = x145)) (some 32) (Fct.row 149 [] 32 34 R34 [x146, x147])⟩,
          ⟨[10, 20], [], [], Fct.cond (!decide (x144 = x145)) (some 33) (Fct.val 33 (.bool r150))⟩,
          ⟨[10, 21], [], [], Fct.val 34 (.bool ((!decide (x144 = x145)) && r150))⟩,
          ⟨[22], [], [], Fct.val 35 (.bool ((!decide (x144 = x145)) && r150))⟩,
          ⟨[23], [3], [], Fct.cond ((!decide (x144 = x145)) && r150) (some 36) (Fct.val 36 (.agg #[.int .i64 b2.1.1, .int .i64 b2.1.2, .int .i64 b2.2.1, .int .i64 b2.2.2]))⟩,
          ⟨[23, 24], [], [], Fct.cond ((!decide (x144 = x145)) && r150) (some 37) (Fct.val 37 (.bool r151))⟩,
          ⟨[23, 25], [], [], Fct.val 38 (.bool x152)⟩,
          ⟨[26], [], [], Fct.val 39 (.bool x152)⟩,
          ⟨[27], [0], [], Fct.cond x152 (some 40) (Fct.val 40 (.slice Al1 l1.length cl1))⟩,
          ⟨[27], [5], [], Fct.cond x152 (some 41) (Fct.val 41 (.int .i64 i114))⟩,
          ⟨[27, 29], [], [], Fct.cond x152 (some 42) (Fct.val 42 (.int .i64 (sb i114 1)))⟩,
          ⟨[27, 28, 30], [], [], Fct.cond x152 (some 43) (Fct.val 43 (.pointer (some ((adr Al1).add ((sb i114 1 : Int).toNat * R34.s)))))⟩,
          ⟨[27, 31], [], [], Fct.cond x152 (some 44) (Fct.val 44 (.agg #[.int .i64 x153.1, .int .i64 x153.2]))⟩,
          ⟨[27], [0], [], Fct.cond x152 (some 45) (Fct.val 45 (.slice Al1 l1.length cl1))⟩,
          ⟨[27], [5], [], Fct.cond x152 (some 46) (Fct.val 46 (.int .i64 i114))⟩,
          ⟨[27, 33, 34], [], [], Fct.cond x152 (some 47) (Fct.val 47 (.pointer (some ((adr Al1).add ((i114 : Int).toNat * R34.s)))))⟩,
          ⟨[27, 35], [], [], Fct.cond x152 (some 48) (Fct.val 48 (.agg #[.int .i64 x154.1, .int .i64 x154.2]))⟩,
          ⟨[27], [3], [], Fct.cond x152 (some 49) (Fct.val 49 (.agg #[.int .i64 b2.1.1, .int .i64 b2.1.2, .int .i64 b2.2.1, .int .i64 b2.2.2]))⟩,
          ⟨[27, 32, 36, 37], [], [], Fct.cond x152 (some 50) (Fct.val 50 (.bool r155))⟩,
          ⟨[27, 38], [], [], Fct.val 51 (.bool (x152 && r155))⟩]) (by kernel_rfl) hz140 hd140 (fun _ h => nomatch h) ?_ ?_
      · refine steps_cons (fun own a wx hf hsl hE => ?_) ?_
        · obtain ⟨s_0, -⟩ := hsl
          exact sg_plain rfl rfl (or_move (s_0.trans e140_0))
        refine steps_cons (fun own a wx hf hsl hE => ?_) ?_
        · obtain ⟨s_5, -⟩ := hsl
          exact sg_plain rfl rfl (or_move (s_5.trans e140_5))
        refine steps_cons (fun own a wx hf hsl hE => ?_) ?_
        · obtain ⟨(f_13 : a.eval (.tmp 13) = .int .i64 i114), -⟩ := hf
          exact sg_plain rfl rfl (or_sub f_13 rfl rfl)
        refine steps_cons (fun own a wx hf hsl hE => ?_) ?_
        · obtain ⟨(f_12 : a.eval (.tmp 12) = .slice Al1 l1.length cl1), (f_14 : a.eval (.tmp 14) = .int .i64 (sb i114 1)), -⟩ := hf
          exact sg_plain rfl rfl (or_index (R := R34) (l := l1) tl24 f_12 f_14 (RdO.some_ b140_Al1 hx144) hx144)
        refine steps_cons (fun own a wx hf hsl hE => ?_) ?_
        · obtain ⟨(f_15 : a.eval (.tmp 15) = .pointer (some ((adr Al1).add ((sb i114 1 : Int).toNat * R34.s)))), -⟩ := hf
          exact sg_plain rfl rfl (or_load (l := E34.f x144) ta34 f_15 (RdO.cells (F := E34) (RdO.evo rfl hE b140_Al1) hx144) rfl)
        refine steps_cons (fun own a wx hf hsl hE => ?_) ?_
        · obtain ⟨s_0, -⟩ := hsl
          exact sg_plain rfl rfl (or_move (s_0.trans e140_0))
        refine steps_cons (fun own a wx hf hsl hE => ?_) ?_
        · obtain ⟨s_5, -⟩ := hsl
          exact sg_plain rfl rfl (or_move (s_5.trans e140_5))
        refine steps_cons (fun own a wx hf hsl hE => ?_) ?_
        · obtain ⟨(f_17 : a.eval (.tmp 17) = .slice Al1 l1.length cl1), (f_18 : a.eval (.tmp 18) = .int .i64 i114), -⟩ := hf
          exact sg_plain rfl rfl (or_index (R := R34) (l := l1) tl24 f_17 f_18 (RdO.some_ b140_Al1 hx145) hx145)
        refine steps_cons (fun own a wx hf hsl hE => ?_) ?_
        · obtain ⟨(f_19 : a.eval (.tmp 19) = .pointer (some ((adr Al1).add ((i114 : Int).toNat * R34.s)))), -⟩ := hf
          exact sg_plain rfl rfl (or_load (l := E34.f x145) ta34 f_19 (RdO.cells (F := E34) (RdO.evo rfl hE b140_Al1) hx145) rfl)
        refine steps_cons (fun own a wx hf hsl hE => ?_) ?_
        · obtain ⟨(f_16 : a.eval (.tmp 16) = .agg #[.int .i64 x144.1, .int .i64 x144.2]), (f_20 : a.eval (.tmp 20) = .agg #[.int .i64 x145.1, .int .i64 x145.2]), -⟩ := hf
          exact sg_plain rfl rfl (or_neqA sg34 f_16 f_20 (sn34 x144.1 x144.2 x145.1 x145.2 _) rfl)
        refine steps_cons (fun own a wx hf hsl hE => ?_) ?_
        · obtain ⟨(f_21 : a.eval (.tmp 21) = .bool (!decide (x144 = x145))), -⟩ := hf
          exact sg_plain rfl rfl (or_move f_21)
        refine steps_cons (fun own a wx hf hsl hE => ?_) ?_
        · obtain ⟨(f_22 : a.eval (.tmp 22) = .bool (!decide (x144 = x145))), -⟩ := hf
          obtain ⟨s_0, -⟩ := hsl
          refine sg_t rfl rfl rfl f_22 (fun hg => ?_)
          exact or_move (s_0.trans e140_0)
        refine steps_cons (fun own a wx hf hsl hE => ?_) ?_
        · obtain ⟨(f_22 : a.eval (.tmp 22) = .bool (!decide (x144 = x145))), -⟩ := hf
          obtain ⟨s_5, -⟩ := hsl
          refine sg_t rfl rfl rfl f_22 (fun hg => ?_)
          exact or_move (s_5.trans e140_5)
        refine steps_cons (fun own a wx hf hsl hE => ?_) ?_
        · obtain ⟨(f_22 : a.eval (.tmp 22) = .bool (!decide (x144 = x145))), c_24, -⟩ := hf
          refine sg_t rfl rfl rfl f_22 (fun hg => ?_)
          have f_24 : a.eval (.tmp 24) = .int .i64 i114 := c_24.1 hg
          exact or_sub f_24 rfl rfl
        refine steps_cons (fun own a wx hf hsl hE => ?_) ?_
        · obtain ⟨(f_22 : a.eval (.tmp 22) = .bool (!decide (x144 = x145))), c_23, c_25, -⟩ := hf
          refine sg_t rfl rfl rfl f_22 (fun hg => ?_)
          have f_23 : a.eval (.tmp 23) = .slice Al1 l1.length cl1 := c_23.1 hg
          have f_25 : a.eval (.tmp 25) = .int .i64 (sb i114 1) := c_25.1 hg
          exact or_index (R := R34) (l := l1) tl24 f_23 f_25 (RdO.some_ b140_Al1 (gd_t hx146 hg)) (gd_t hx146 hg)
        refine steps_cons (fun own a wx hf hsl hE => ?_) ?_
        · obtain ⟨(f_22 : a.eval (.tmp 22) = .bool (!decide (x144 = x145))), c_26, -⟩ := hf
          refine sg_t rfl rfl rfl f_22 (fun hg => ?_)
          have f_26 : a.eval (.tmp 26) = .pointer (some ((adr Al1).add ((sb i114 1 : Int).toNat * R34.s))) := c_26.1 hg
          exact or_load (l := E34.f x146) ta34 f_26 (RdO.cells (F := E34) (RdO.evo rfl hE b140_Al1) (gd_t hx146 hg)) rfl
        refine steps_cons (fun own a wx hf hsl hE => ?_) ?_
        · obtain ⟨(f_22 : a.eval (.tmp 22) = .bool (!decide (x144 = x145))), -⟩ := hf
          obtain ⟨s_0, -⟩ := hsl
          refine sg_t rfl rfl rfl f_22 (fun hg => ?_)
          exact or_move (s_0.trans e140_0)
        refine steps_cons (fun own a wx hf hsl hE => ?_) ?_
        · obtain ⟨(f_22 : a.eval (.tmp 22) = .bool (!decide (x144 = x145))), -⟩ := hf
          obtain ⟨s_5, -⟩ := hsl
          refine sg_t rfl rfl rfl f_22 (fun hg => ?_)
          exact or_move (s_5.trans e140_5)
        refine steps_cons (fun own a wx hf hsl hE => ?_) ?_
        · obtain ⟨(f_22 : a.eval (.tmp 22) = .bool (!decide (x144 = x145))), c_28, c_29, -⟩ := hf
          refine sg_t rfl rfl rfl f_22 (fun hg => ?_)
          have f_28 : a.eval (.tmp 28) = .slice Al1 l1.length cl1 := c_28.1 hg
          have f_29 : a.eval (.tmp 29) = .int .i64 i114 := c_29.1 hg
          exact or_index (R := R34) (l := l1) tl24 f_28 f_29 (RdO.some_ b140_Al1 (gd_t hx147 hg)) (gd_t hx147 hg)
        refine steps_cons (fun own a wx hf hsl hE => ?_) ?_
        · obtain ⟨(f_22 : a.eval (.tmp 22) = .bool (!decide (x144 = x145))), c_30, -⟩ := hf
          refine sg_t rfl rfl rfl f_22 (fun hg => ?_)
          have f_30 : a.eval (.tmp 30) = .pointer (some ((adr Al1).add ((i114 : Int).toNat * R34.s))) := c_30.1 hg
          exact or_load (l := E34.f x147) ta34 f_30 (RdO.cells (F := E34) (RdO.evo rfl hE b140_Al1) (gd_t hx147 hg)) rfl
        refine steps_cons (fun own a wx hf hsl hE => ?_) ?_
        · obtain ⟨(f_22 : a.eval (.tmp 22) = .bool (!decide (x144 = x145))), c_27, c_31, -⟩ := hf
          refine sg_t rfl rfl rfl f_22 (fun hg => ?_)
          have f_27 : a.eval (.tmp 27) = .agg #[.int .i64 x146.1, .int .i64 x146.2] := c_27.1 hg
          have f_31 : a.eval (.tmp 31) = .agg #[.int .i64 x147.1, .int .i64 x147.2] := c_31.1 hg
          exact or_lit (lab := 149) (e := 34) (cs := #[.int .i64 x146.1, .int .i64 x146.2, .int .i64 x147.1, .int .i64 x147.2]) (F := E34) (or_new [(27, .agg #[.int .i64 x146.1, .int .i64 x146.2]), (31, .agg #[.int .i64 x147.1, .int .i64 x147.2])] rfl rfl ⟨f_27, f_31, trivial⟩ (by kernel_rfl)) rfl rfl (show 2 ≤ maxLen by decide)
        refine steps_cons (fun own a wx hf hsl hE => ?_) ?_
        · obtain ⟨(f_22 : a.eval (.tmp 22) = .bool (!decide (x144 = x145))), c_32, -⟩ := hf
          refine sg_t rfl rfl rfl f_22 (fun hg => ?_)
          obtain ⟨⟨A148, cA148⟩, (f_32 : a.eval (.tmp 32) = .slice A148 [x146, x147].length cA148), (b_A148 : RwO own 149 [] wx 34 R34 A148 cA148 [x146, x147])⟩ := c_32.1 hg
          exact or_call cf29 (args1 f_32) (exact_Right_w _ [x146, x147] A148 cA148 (RdO.zero (RwO.rd b_A148)) r150 (gd_t hr150 hg)) post_val
        refine steps_cons (fun own a wx hf hsl hE => ?_) ?_
        · obtain ⟨(f_22 : a.eval (.tmp 22) = .bool (!decide (x144 = x145))), c_33, -⟩ := hf
          exact sg_plain rfl rfl (or_and f_22 (fun hx => c_33.1 hx) rfl rfl)
        refine steps_cons (fun own a wx hf hsl hE => ?_) ?_
        · obtain ⟨(f_34 : a.eval (.tmp 34) = .bool ((!decide (x144 = x145)) && r150)), -⟩ := hf
          exact sg_plain rfl rfl (or_move f_34)
        refine steps_cons (fun own a wx hf hsl hE => ?_) ?_
        · obtain ⟨(f_35 : a.eval (.tmp 35) = .bool ((!decide (x144 = x145)) && r150)), -⟩ := hf
          obtain ⟨s_3, -⟩ := hsl
          refine sg_t rfl rfl rfl f_35 (fun hg => ?_)
          exact or_load (l := [.int .i64 b2.1.1, .int .i64 b2.1.2, .int .i64 b2.2.1, .int .i64 b2.2.2]) ta36 (s_3.trans e140_3) (Blk.cellsFrom (BlkO.evo (by decide) hE b140_g86).2 0 rfl) rfl
        refine steps_cons (fun own a wx hf hsl hE => ?_) ?_
        · obtain ⟨(f_35 : a.eval (.tmp 35) = .bool ((!decide (x144 = x145)) && r150)), c_36, -⟩ := hf
          refine sg_t rfl rfl rfl f_35 (fun hg => ?_)
          have f_36 : a.eval (.tmp 36) = .agg #[.int .i64 b2.1.1, .int .i64 b2.1.2, .int .i64 b2.2.1, .int .i64 b2.2.2] := c_36.1 hg
          exact or_call cf22 (args1 f_36) (rows_Right_w _ b2  r151 (gd_t hr151 hg)) post_val
        refine steps_cons (fun own a wx hf hsl hE => ?_) ?_
        · obtain ⟨(f_35 : a.eval (.tmp 35) = .bool ((!decide (x144 = x145)) && r150)), c_37, -⟩ := hf
          exact sg_plain rfl rfl (or_and f_35 (fun hx => c_37.1 hx) rfl (osome hx152).symm)
        refine steps_cons (fun own a wx hf hsl hE => ?_) ?_
        · obtain ⟨(f_38 : a.eval (.tmp 38) = .bool x152), -⟩ := hf
          exact sg_plain rfl rfl (or_move f_38)
        refine steps_cons (fun own a wx hf hsl hE => ?_) ?_
        · obtain ⟨(f_39 : a.eval (.tmp 39) = .bool x152), -⟩ := hf
          obtain ⟨s_0, -⟩ := hsl
          refine sg_t rfl rfl rfl f_39 (fun hg => ?_)
          exact or_move (s_0.trans e140_0)
        refine steps_cons (fun own a wx hf hsl hE => ?_) ?_
        · obtain ⟨(f_39 : a.eval (.tmp 39) = .bool x152), -⟩ := hf
          obtain ⟨s_5, -⟩ := hsl
          refine sg_t rfl rfl rfl f_39 (fun hg => ?_)
          exact or_move (s_5.trans e140_5)
        refine steps_cons (fun own a wx hf hsl hE => ?_) ?_
        · obtain ⟨(f_39 : a.eval (.tmp 39) = .bool x152), c_41, -⟩ := hf
          refine sg_t rfl rfl rfl f_39 (fun hg => ?_)
          have f_41 : a.eval (.tmp 41) = .int .i64 i114 := c_41.1 hg
          exact or_sub f_41 rfl rfl
        refine steps_cons (fun own a wx hf hsl hE => ?_) ?_
        · obtain ⟨(f_39 : a.eval (.tmp 39) = .bool x152), c_40, c_42, -⟩ := hf
          refine sg_t rfl rfl rfl f_39 (fun hg => ?_)
          have f_40 : a.eval (.tmp 40) = .slice Al1 l1.length cl1 := c_40.1 hg
          have f_42 : a.eval (.tmp 42) = .int .i64 (sb i114 1) := c_42.1 hg
          exact or_index (R := R34) (l := l1) tl24 f_40 f_42 (RdO.some_ b140_Al1 (gd_t hx153 hg)) (gd_t hx153 hg)
        refine steps_cons (fun own a wx hf hsl hE => ?_) ?_
        · obtain ⟨(f_39 : a.eval (.tmp 39) = .bool x152), c_43, -⟩ := hf
          refine sg_t rfl rfl rfl f_39 (fun hg => ?_)
          have f_43 : a.eval (.tmp 43) = .pointer (some ((adr Al1).add ((sb i114 1 : Int).toNat * R34.s))) := c_43.1 hg
          exact or_load (l := E34.f x153) ta34 f_43 (RdO.cells (F := E34) (RdO.evo rfl hE b140_Al1) (gd_t hx153 hg)) rfl
        refine steps_cons (fun own a wx hf hsl hE => ?_) ?_
        · obtain ⟨(f_39 : a.eval (.tmp 39) = .bool x152), -⟩ := hf
          obtain ⟨s_0, -⟩ := hsl
          refine sg_t rfl rfl rfl f_39 (fun hg => ?_)
          exact or_move (s_0.trans e140_0)
        refine steps_cons (fun own a wx hf hsl hE => ?_) ?_
        · obtain ⟨(f_39 : a.eval (.tmp 39) = .bool x152), -⟩ := hf
          obtain ⟨s_5, -⟩ := hsl
          refine sg_t rfl rfl rfl f_39 (fun hg => ?_)
          exact or_move (s_5.trans e140_5)
        refine steps_cons (fun own a wx hf hsl hE => ?_) ?_
        · obtain ⟨(f_39 : a.eval (.tmp 39) = .bool x152), c_45, c_46, -⟩ := hf
          refine sg_t rfl rfl rfl f_39 (fun hg => ?_)
          have f_45 : a.eval (.tmp 45) = .slice Al1 l1.length cl1 := c_45.1 hg
          have f_46 : a.eval (.tmp 46) = .int .i64 i114 := c_46.1 hg
          exact or_index (R := R34) (l := l1) tl24 f_45 f_46 (RdO.some_ b140_Al1 (gd_t hx154 hg)) (gd_t hx154 hg)
        refine steps_cons (fun own a wx hf hsl hE => ?_) ?_
        · obtain ⟨(f_39 : a.eval (.tmp 39) = .bool x152), c_47, -⟩ := hf
          refine sg_t rfl rfl rfl f_39 (fun hg => ?_)
          have f_47 : a.eval (.tmp 47) = .pointer (some ((adr Al1).add ((i114 : Int).toNat * R34.s))) := c_47.1 hg
          exact or_load (l := E34.f x154) ta34 f_47 (RdO.cells (F := E34) (RdO.evo rfl hE b140_Al1) (gd_t hx154 hg)) rfl
        refine steps_cons (fun own a wx hf hsl hE => ?_) ?_
        · obtain ⟨(f_39 : a.eval (.tmp 39) = .bool x152), -⟩ := hf
          obtain ⟨s_3, -⟩ := hsl
          refine sg_t rfl rfl rfl f_39 (fun hg => ?_)
          exact or_load (l := [.int .i64 b2.1.1, .int .i64 b2.1.2, .int .i64 b2.2.1, .int .i64 b2.2.2]) ta36 (s_3.trans e140_3) (Blk.cellsFrom (BlkO.evo (by decide) hE b140_g86).2 0 rfl) rfl
        refine steps_cons (fun own a wx hf hsl hE => ?_) ?_
        · obtain ⟨(f_39 : a.eval (.tmp 39) = .bool x152), c_44, c_48, c_49, -⟩ := hf
          refine sg_t rfl rfl rfl f_39 (fun hg => ?_)
          have f_44 : a.eval (.tmp 44) = .agg #[.int .i64 x153.1, .int .i64 x153.2] := c_44.1 hg
          have f_48 : a.eval (.tmp 48) = .agg #[.int .i64 x154.1, .int .i64 x154.2] := c_48.1 hg
          have f_49 : a.eval (.tmp 49) = .agg #[.int .i64 b2.1.1, .int .i64 b2.1.2, .int .i64 b2.2.1, .int .i64 b2.2.2] := c_49.1 hg
          exact or_call cf32 (args3 f_44 f_48 f_49) (lineclip_inside_w _ x153 x154 b2  r155 (gd_t hr155 hg)) post_val
        refine steps_cons (fun own a wx hf hsl hE => ?_) ?_
        · obtain ⟨(f_39 : a.eval (.tmp 39) = .bool x152), c_50, -⟩ := hf
          exact sg_plain rfl rfl (or_and f_39 (fun hx => c_50.1 hx) rfl rfl)
        exact steps_nil
      intro own156 a156 w156 hd156 hz156 hk156 hf156 hE156
      have e156_0 : a156.eval (.tmp 0) = .slice Al1 l1.length cl1 := (hk156 0 rfl).trans e140_0
      have e156_3 : a156.eval (.tmp 3) = .pointer (some ⟨g86, 0, none⟩) := (hk156 3 rfl).trans e140_3
      have e156_5 : a156.eval (.tmp 5) = .int .i64 i114 := (hk156 5 rfl).trans e140_5
      obtain ⟨(f_51 : a156.eval (.tmp 51) = .bool (x152 && r155)), -⟩ := hf156 [39] rfl
      have e156_51 := f_51
      have hX156 := Evo.step hX140 (fun _ => Nat.le_refl 0) hE156 rfl
      have b156_Al1 := RdO.evo rfl hE156 b140_Al1
      have b156_g86 := BlkO.evo (by decide) hE156 b140_g86
      refine fl_cond e156_51 hs (fun c157 hs => ?_) (fun c157 hs => ?_)
      · refine rg_plain_seq (n := 52) (rs := []) (own0 := own156) (K := [])
            (bs := [0])
            (ds := [⟨[], [], [], Fct.val 4 (.bool true)⟩]) (by kernel_rfl) hz156 hd156 (fun _ h => nomatch h) ?_ ?_
        · refine steps_cons (fun own a wx hf hsl hE => ?_) ?_
          · exact sg_plain rfl rfl (or_assign rfl)
          exact steps_nil
        intro own158 a158 w158 hd158 hz158 hk158 hf158 hE158
        obtain ⟨(f_4 : a158.eval (.tmp 4) = .bool true), -⟩ := hf158 [0] rfl
        have e158_4 := f_4
        have hX158 := Evo.step hX156 (fun _ => Nat.le_refl 0) hE158 rfl
        refine fl_ret ?_
        refine hp143 _ _ _ rfl ?_
        refine hp142 _ _ _ rfl ?_
        replace hs := hz137 _ hs
        refine hp137 _ _ _ rfl ?_
        refine hp91 _ _ _ rfl ?_
        refine hp89 _ _ _ rfl ?_
        obtain rfl := osome hs
        exact hret _ _ _ _ (.inl rfl) hd158 (results1_ rfl (RVal.tmp_ e158_4)) ⟨own158, rfl, hX158⟩
      refine fl_skip ?_
      refine hn143 _ _ ?_
      refine hn142 _ _ ?_
      refine rg_plain (n := 52) (rs := []) (own0 := own156) (K := [])
          (bs := [0, 1, 3])
          (ds := [⟨[], [5], [], Fct.val 10 (.int .i64 i114)⟩,
          ⟨[0], [], [], Fct.val 11 (.int .i64 (ad i114 1))⟩,
          ⟨[1], [], [], Fct.val 5 (.int .i64 (ad i114 1))⟩]) (by kernel_rfl) hz156 hd156 (fun _ h => nomatch h) ?_ ?_
      · refine steps_cons (fun own a wx hf hsl hE => ?_) ?_
        · obtain ⟨s_5, -⟩ := hsl
          exact sg_plain rfl rfl (or_move (s_5.trans e156_5))
        refine steps_cons (fun own a wx hf hsl hE => ?_) ?_
        · obtain ⟨(f_10 : a.eval (.tmp 10) = .int .i64 i114), -⟩ := hf
          exact sg_plain rfl rfl (or_add f_10 rfl rfl)
        refine steps_cons (fun own a wx hf hsl hE => ?_) ?_
        · obtain ⟨(f_11 : a.eval (.tmp 11) = .int .i64 (ad i114 1)), -⟩ := hf
          exact sg_plain rfl rfl (or_assign f_11)
        exact steps_nil
      intro own159 a159 w159 hd159 hz159 hk159 hf159 hE159
      have e159_0 : a159.eval (.tmp 0) = .slice Al1 l1.length cl1 := (hk159 0 rfl).trans e156_0
      have e159_3 : a159.eval (.tmp 3) = .pointer (some ⟨g86, 0, none⟩) := (hk159 3 rfl).trans e156_3
      obtain ⟨(f_5 : a159.eval (.tmp 5) = .int .i64 (ad i114 1)), -⟩ := hf159 [2] rfl
      have e159_5 := f_5
      have hX159 := Evo.step hX156 (fun _ => Nat.le_refl 0) hE159 rfl
      have b159_Al1 := RdO.evo rfl hE159 b156_Al1
      have b159_g86 := BlkO.evo (by decide) hE159 b156_g86
      exact hn137 _ _ _ hs ⟨own159, hd159, hz159, e159_0, e159_3, e159_5, hX159, b159_Al1, b159_g86⟩
    refine fl_exit ?_
    refine hp139 _ _ _ rfl ?_
    replace hs := hz137 _ hs
    refine hp137 _ _ _ rfl ?_
    refine hx91 _ _ ?_
    refine hn89 _ _ ?_
    refine rg_plain_seq (n := 52) (rs := []) (own0 := own140) (K := [])
        (bs := [0])
        (ds := [⟨[], [], [], Fct.val 4 (.bool false)⟩]) (by kernel_rfl) hz140 hd140 (fun _ h => nomatch h) ?_ ?_
    · refine steps_cons (fun own a wx hf hsl hE => ?_) ?_
      · exact sg_plain rfl rfl (or_assign rfl)
      exact steps_nil
    intro own160 a160 w160 hd160 hz160 hk160 hf160 hE160
    obtain ⟨(f_4 : a160.eval (.tmp 4) = .bool false), -⟩ := hf160 [0] rfl
    have e160_4 := f_4
    have hX160 := Evo.step hX140 (fun _ => Nat.le_refl 0) hE160 rfl
    refine fl_ret ?_
    obtain rfl := osome hs
    exact hret _ _ _ _ (.inl rfl) hd160 (results1_ rfl (RVal.tmp_ e160_4)) ⟨own160, rfl, hX160⟩

end Go.Proofs.Ythjcpojcpafbjaa
