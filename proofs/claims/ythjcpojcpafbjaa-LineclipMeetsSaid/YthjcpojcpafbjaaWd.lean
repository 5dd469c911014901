/-
  Chapter 22. The walks.
-/
import Derived.Test.YthjcpojcpafbjaaWc
import Derived.Test.YthjcpojcpafbjaaSd
namespace Go.Proofs.Ythjcpojcpafbjaa
open Go.RowKit
set_option linter.unusedVariables false
theorem lineclip_less_w (w : World) (x1 : Int × Int) (b2 : Int × Int) (r : Bool) (hs : lineclip_less x1 b2 = some r) :
    Calls Try.prog 39 #[.agg #[.int .i64 x1.1, .int .i64 x1.2], .agg #[.int .i64 b2.1, .int .i64 b2.2]] w fun e w' => ∃ own' : Own, e = .returned (.bool r) ∧ Evo [] (fun _ => 0) own' w w' := by
  refine fl_enter (n := 16) rfl rfl rfl (Nat.le_of_ble_eq_true rfl) ?_
  intro a0 Q hd0 hz0 harg hret
  have ha0 := harg 0 _ rfl
  have ha1 := harg 1 _ rfl
  clear harg
  have hE0 : Evo [] (fun _ => 0) (fun _ => 0) w w := Evo.refl _ _ _
  refine rg_plain_seq (n := 16) (rs := []) (own0 := (fun _ => 0)) (K := [])
      (bs := [0, 0, 0])
      (ds := [⟨[], [0], [], Fct.blk 18 2 (fun g => .pointer (some ⟨g, 0, none⟩)) 65 #[.int .i64 x1.1, .int .i64 x1.2]⟩,
      ⟨[], [1], [], Fct.blk 20 3 (fun g => .pointer (some ⟨g, 0, none⟩)) 65 #[.int .i64 b2.1, .int .i64 b2.2]⟩,
      ⟨[], [], [], Fct.val 4 (.bool false)⟩]) (by kernel_rfl) hz0 hd0 (fun _ h => nomatch h) ?_ ?_
  · refine steps_cons (fun own a wx hf hsl hE => ?_) ?_
    · obtain ⟨s_0, -⟩ := hsl
      exact sg_plain rfl rfl (or_new [(0, .agg #[.int .i64 x1.1, .int .i64 x1.2])] rfl rfl ⟨(s_0.trans ha0), trivial⟩ (by kernel_rfl))
    refine steps_cons (fun own a wx hf hsl hE => ?_) ?_
    · obtain ⟨s_1, -⟩ := hsl
      exact sg_plain rfl rfl (or_new [(1, .agg #[.int .i64 b2.1, .int .i64 b2.2])] rfl rfl ⟨(s_1.trans ha1), trivial⟩ (by kernel_rfl))
    refine steps_cons (fun own a wx hf hsl hE => ?_) ?_
    · exact sg_plain rfl rfl (or_assign rfl)
    exact steps_nil
  intro own21 a21 w21 hd21 hz21 hk21 hf21 hE21
  obtain ⟨⟨g17, (f_2 : a21.eval (.tmp 2) = .pointer (some ⟨g17, 0, none⟩)), (b_g17 : BlkO own21 18 w21 g17 65 #[.int .i64 x1.1, .int .i64 x1.2])⟩, ⟨g19, (f_3 : a21.eval (.tmp 3) = .pointer (some ⟨g19, 0, none⟩)), (b_g19 : BlkO own21 20 w21 g19 65 #[.int .i64 b2.1, .int .i64 b2.2])⟩, -⟩ := hf21 [0, 1] rfl
  have e21_2 := f_2
  have e21_3 := f_3
  have hX21 := Evo.step hE0 (fun _ => Nat.le_refl 0) hE21 rfl
  have b21_g17 := b_g17
  have b21_g19 := b_g19
  refine rg_plain_seq (n := 16) (rs := []) (own0 := own21) (K := [])
      (bs := [0, 1, 0, 4, 15, 0, 32, 0, 128, 480, 1023, 2047])
      (ds := [⟨[], [2], [], Fct.val 5 (.pointer (some ⟨g17, 0, none⟩))⟩,
      ⟨[0], [], [], Fct.val 6 (.int .i64 x1.1)⟩,
      ⟨[], [3], [], Fct.val 7 (.pointer (some ⟨g19, 1, none⟩))⟩,
      ⟨[2], [], [], Fct.val 8 (.int .i64 b2.2)⟩,
      ⟨[1, 3], [], [], Fct.val 9 (.int .i64 (ml x1.1 b2.2))⟩,
      ⟨[], [3], [], Fct.val 10 (.pointer (some ⟨g19, 0, none⟩))⟩,
      ⟨[5], [], [], Fct.val 11 (.int .i64 b2.1)⟩,
      ⟨[], [2], [], Fct.val 12 (.pointer (some ⟨g17, 1, none⟩))⟩,
      ⟨[7], [], [], Fct.val 13 (.int .i64 x1.2)⟩,
      ⟨[6, 8], [], [], Fct.val 14 (.int .i64 (ml b2.1 x1.2))⟩,
      ⟨[4, 9], [], [], Fct.val 15 (.bool (decide ((ml x1.1 b2.2) < (ml b2.1 x1.2))))⟩,
      ⟨[10], [], [], Fct.val 4 (.bool (decide ((ml x1.1 b2.2) < (ml b2.1 x1.2))))⟩]) (by kernel_rfl) hz21 hd21 (fun _ h => nomatch h) ?_ ?_
  · refine steps_cons (fun own a wx hf hsl hE => ?_) ?_
    · obtain ⟨s_2, -⟩ := hsl
      exact sg_plain rfl rfl (or_field fo65_0 (s_2.trans e21_2) (by rfl))
    refine steps_cons (fun own a wx hf hsl hE => ?_) ?_
    · obtain ⟨(f_5 : a.eval (.tmp 5) = .pointer (some ⟨g17, 0, none⟩)), -⟩ := hf
      exact sg_plain rfl rfl (or_load1 to3 f_5 (Blk.at_ (BlkO.evo (by decide) hE b21_g17).2 0 rfl))
    refine steps_cons (fun own a wx hf hsl hE => ?_) ?_
    · obtain ⟨s_3, -⟩ := hsl
      exact sg_plain rfl rfl (or_field fo65_1 (s_3.trans e21_3) (by rfl))
    refine steps_cons (fun own a wx hf hsl hE => ?_) ?_
    · obtain ⟨(f_7 : a.eval (.tmp 7) = .pointer (some ⟨g19, 1, none⟩)), -⟩ := hf
      exact sg_plain rfl rfl (or_load1 to3 f_7 (Blk.at_ (BlkO.evo (by decide) hE b21_g19).2 1 rfl))
    refine steps_cons (fun own a wx hf hsl hE => ?_) ?_
    · obtain ⟨(f_6 : a.eval (.tmp 6) = .int .i64 x1.1), (f_8 : a.eval (.tmp 8) = .int .i64 b2.2), -⟩ := hf
      exact sg_plain rfl rfl (or_mul f_6 f_8 rfl)
    refine steps_cons (fun own a wx hf hsl hE => ?_) ?_
    · obtain ⟨s_3, -⟩ := hsl
      exact sg_plain rfl rfl (or_field fo65_0 (s_3.trans e21_3) (by rfl))
    refine steps_cons (fun own a wx hf hsl hE => ?_) ?_
    · obtain ⟨(f_10 : a.eval (.tmp 10) = .pointer (some ⟨g19, 0, none⟩)), -⟩ := hf
      exact sg_plain rfl rfl (or_load1 to3 f_10 (Blk.at_ (BlkO.evo (by decide) hE b21_g19).2 0 rfl))
    refine steps_cons (fun own a wx hf hsl hE => ?_) ?_
    · obtain ⟨s_2, -⟩ := hsl
      exact sg_plain rfl rfl (or_field fo65_1 (s_2.trans e21_2) (by rfl))
    refine steps_cons (fun own a wx hf hsl hE => ?_) ?_
    · obtain ⟨(f_12 : a.eval (.tmp 12) = .pointer (some ⟨g17, 1, none⟩)), -⟩ := hf
      exact sg_plain rfl rfl (or_load1 to3 f_12 (Blk.at_ (BlkO.evo (by decide) hE b21_g17).2 1 rfl))
    refine steps_cons (fun own a wx hf hsl hE => ?_) ?_
    · obtain ⟨(f_11 : a.eval (.tmp 11) = .int .i64 b2.1), (f_13 : a.eval (.tmp 13) = .int .i64 x1.2), -⟩ := hf
      exact sg_plain rfl rfl (or_mul f_11 f_13 rfl)
    refine steps_cons (fun own a wx hf hsl hE => ?_) ?_
    · obtain ⟨(f_9 : a.eval (.tmp 9) = .int .i64 (ml x1.1 b2.2)), (f_14 : a.eval (.tmp 14) = .int .i64 (ml b2.1 x1.2)), -⟩ := hf
      exact sg_plain rfl rfl (or_lss f_9 f_14 rfl)
    refine steps_cons (fun own a wx hf hsl hE => ?_) ?_
    · obtain ⟨(f_15 : a.eval (.tmp 15) = .bool (decide ((ml x1.1 b2.2) < (ml b2.1 x1.2)))), -⟩ := hf
      exact sg_plain rfl rfl (or_assign f_15)
    exact steps_nil
  intro own22 a22 w22 hd22 hz22 hk22 hf22 hE22
  obtain ⟨(f_4 : a22.eval (.tmp 4) = .bool (decide ((ml x1.1 b2.2) < (ml b2.1 x1.2)))), -⟩ := hf22 [11] rfl
  have e22_4 := f_4
  have hX22 := Evo.step hX21 (fun _ => Nat.le_refl 0) hE22 rfl
  refine fl_ret ?_
  obtain rfl := osome hs
  exact hret _ _ _ _ (.inl rfl) hd22 (results1_ rfl (RVal.tmp_ e22_4)) ⟨own22, rfl, hX22⟩

set_option maxHeartbeats 2000000 in
theorem lineclip_inside_w (w : World) (p1 : Int × Int) (q2 : Int × Int) (b3 : (Int × Int) × (Int × Int)) (r : Bool) (hs : lineclip_inside p1 q2 b3 = some r) :
    Calls Try.prog 32 #[.agg #[.int .i64 p1.1, .int .i64 p1.2], .agg #[.int .i64 q2.1, .int .i64 q2.2], .agg #[.int .i64 b3.1.1, .int .i64 b3.1.2, .int .i64 b3.2.1, .int .i64 b3.2.2]] w fun e w' => ∃ own' : Own, e = .returned (.bool r) ∧ Evo [] (fun _ => 0) own' w w' := by
  refine fl_enter (n := 101) rfl rfl rfl (Nat.le_of_ble_eq_true rfl) ?_
  intro a0 Q hd0 hz0 harg hret
  have ha0 := harg 0 _ rfl
  have ha1 := harg 1 _ rfl
  have ha2 := harg 2 _ rfl
  clear harg
  have hE0 : Evo [] (fun _ => 0) (fun _ => 0) w w := Evo.refl _ _ _
  refine rg_plain_seq (n := 101) (rs := []) (own0 := (fun _ => 0)) (K := [])
      (bs := [0, 0, 0, 0])
      (ds := [⟨[], [0], [], Fct.blk 812 3 (fun g => .pointer (some ⟨g, 0, none⟩)) 34 #[.int .i64 p1.1, .int .i64 p1.2]⟩,
      ⟨[], [1], [], Fct.blk 814 4 (fun g => .pointer (some ⟨g, 0, none⟩)) 34 #[.int .i64 q2.1, .int .i64 q2.2]⟩,
      ⟨[], [2], [], Fct.blk 816 5 (fun g => .pointer (some ⟨g, 0, none⟩)) 36 #[.int .i64 b3.1.1, .int .i64 b3.1.2, .int .i64 b3.2.1, .int .i64 b3.2.2]⟩,
      ⟨[], [], [], Fct.val 6 (.bool false)⟩]) (by kernel_rfl) hz0 hd0 (fun _ h => nomatch h) ?_ ?_
  · refine steps_cons (fun own a wx hf hsl hE => ?_) ?_
    · obtain ⟨s_0, -⟩ := hsl
      exact sg_plain rfl rfl (or_new [(0, .agg #[.int .i64 p1.1, .int .i64 p1.2])] rfl rfl ⟨(s_0.trans ha0), trivial⟩ (by kernel_rfl))
    refine steps_cons (fun own a wx hf hsl hE => ?_) ?_
    · obtain ⟨s_1, -⟩ := hsl
      exact sg_plain rfl rfl (or_new [(1, .agg #[.int .i64 q2.1, .int .i64 q2.2])] rfl rfl ⟨(s_1.trans ha1), trivial⟩ (by kernel_rfl))
    refine steps_cons (fun own a wx hf hsl hE => ?_) ?_
    · obtain ⟨s_2, -⟩ := hsl
      exact sg_plain rfl rfl (or_new [(2, .agg #[.int .i64 b3.1.1, .int .i64 b3.1.2, .int .i64 b3.2.1, .int .i64 b3.2.2])] rfl rfl ⟨(s_2.trans ha2), trivial⟩ (by kernel_rfl))
    refine steps_cons (fun own a wx hf hsl hE => ?_) ?_
    · exact sg_plain rfl rfl (or_assign rfl)
    exact steps_nil
  intro own817 a817 w817 hd817 hz817 hk817 hf817 hE817
  obtain ⟨⟨g811, (f_3 : a817.eval (.tmp 3) = .pointer (some ⟨g811, 0, none⟩)), (b_g811 : BlkO own817 812 w817 g811 34 #[.int .i64 p1.1, .int .i64 p1.2])⟩, ⟨g813, (f_4 : a817.eval (.tmp 4) = .pointer (some ⟨g813, 0, none⟩)), (b_g813 : BlkO own817 814 w817 g813 34 #[.int .i64 q2.1, .int .i64 q2.2])⟩, ⟨g815, (f_5 : a817.eval (.tmp 5) = .pointer (some ⟨g815, 0, none⟩)), (b_g815 : BlkO own817 816 w817 g815 36 #[.int .i64 b3.1.1, .int .i64 b3.1.2, .int .i64 b3.2.1, .int .i64 b3.2.2])⟩, -⟩ := hf817 [0, 1, 2] rfl
  have e817_3 := f_3
  have e817_4 := f_4
  have e817_5 := f_5
  have hX817 := Evo.step hE0 (fun _ => Nat.le_refl 0) hE817 rfl
  have b817_g811 := b_g811
  have b817_g813 := b_g813
  have b817_g815 := b_g815
  refine rg_plain_seq (n := 101) (rs := []) (own0 := own817) (K := [819, 821])
      (bs := [0, 0, 0, 0, 13, 31])
      (ds := [⟨[], [], [], Fct.val 15 (.agg #[.int .i64 0, .int .i64 1])⟩,
      ⟨[], [], [], Fct.val 16 (.agg #[.int .i64 1, .int .i64 1])⟩,
      ⟨[], [], [], Fct.blk 819 7 (fun g => .pointer (some ⟨g, 0, none⟩)) 65 #[.int .i64 0, .int .i64 0]⟩,
      ⟨[], [], [], Fct.blk 821 8 (fun g => .pointer (some ⟨g, 0, none⟩)) 65 #[.int .i64 0, .int .i64 0]⟩,
      ⟨[2, 0], [], [819], Fct.blk 822 7 (fun g => .pointer (some ⟨g, 0, none⟩)) 65 #[.int .i64 0, .int .i64 1]⟩,
      ⟨[3, 1], [], [821], Fct.blk 823 8 (fun g => .pointer (some ⟨g, 0, none⟩)) 65 #[.int .i64 1, .int .i64 1]⟩]) (by kernel_rfl) hz817 hd817 (fun _ h => nomatch h) ?_ ?_
  · refine steps_cons (fun own a wx hf hsl hE => ?_) ?_
    · exact sg_plain rfl rfl (or_k [] rfl rfl trivial (by kernel_rfl))
    refine steps_cons (fun own a wx hf hsl hE => ?_) ?_
    · exact sg_plain rfl rfl (or_k [] rfl rfl trivial (by kernel_rfl))
    refine steps_cons (fun own a wx hf hsl hE => ?_) ?_
    · exact sg_plain rfl rfl (or_new [] rfl rfl trivial (by kernel_rfl))
    refine steps_cons (fun own a wx hf hsl hE => ?_) ?_
    · exact sg_plain rfl rfl (or_new [] rfl rfl trivial (by kernel_rfl))
    refine steps_cons (fun own a wx hf hsl hE => ?_) ?_
    · obtain ⟨⟨g818, (f_7 : a.eval (.tmp 7) = .pointer (some ⟨g818, 0, none⟩)), (b_g818 : BlkO own 819 wx g818 65 #[.int .i64 0, .int .i64 0])⟩, (f_15 : a.eval (.tmp 15) = .agg #[.int .i64 0, .int .i64 1]), -⟩ := hf
      exact sg_plain rfl rfl (or_store (l := #[.int .i64 0, .int .i64 1]) (lab := 819) (lab2 := 822) ts65 f_7 f_15 b_g818 (by simp) (by kernel_rfl) (mem_of rfl) (by decide) (by kernel_rfl) (fun own' a' w' ha hb => ⟨_, (ha 7).trans f_7, hb⟩))
    refine steps_cons (fun own a wx hf hsl hE => ?_) ?_
    · obtain ⟨⟨g820, (f_8 : a.eval (.tmp 8) = .pointer (some ⟨g820, 0, none⟩)), (b_g820 : BlkO own 821 wx g820 65 #[.int .i64 0, .int .i64 0])⟩, (f_16 : a.eval (.tmp 16) = .agg #[.int .i64 1, .int .i64 1]), -⟩ := hf
      exact sg_plain rfl rfl (or_store (l := #[.int .i64 1, .int .i64 1]) (lab := 821) (lab2 := 823) ts65 f_8 f_16 b_g820 (by simp) (by kernel_rfl) (mem_of rfl) (by decide) (by kernel_rfl) (fun own' a' w' ha hb => ⟨_, (ha 8).trans f_8, hb⟩))
    exact steps_nil
  intro own824 a824 w824 hd824 hz824 hk824 hf824 hE824
  have e824_3 : a824.eval (.tmp 3) = .pointer (some ⟨g811, 0, none⟩) := (hk824 3 rfl).trans e817_3
  have e824_4 : a824.eval (.tmp 4) = .pointer (some ⟨g813, 0, none⟩) := (hk824 4 rfl).trans e817_4
  have e824_5 : a824.eval (.tmp 5) = .pointer (some ⟨g815, 0, none⟩) := (hk824 5 rfl).trans e817_5
  obtain ⟨⟨g818, (f_7 : a824.eval (.tmp 7) = .pointer (some ⟨g818, 0, none⟩)), (b_g818 : BlkO own824 822 w824 g818 65 #[.int .i64 0, .int .i64 1])⟩, ⟨g820, (f_8 : a824.eval (.tmp 8) = .pointer (some ⟨g820, 0, none⟩)), (b_g820 : BlkO own824 823 w824 g820 65 #[.int .i64 1, .int .i64 1])⟩, -⟩ := hf824 [4, 5] rfl
  have e824_7 := f_7
  have e824_8 := f_8
  have hX824 := Evo.step hX817 (fun _ => Nat.le_refl 0) hE824 rfl
  have b824_g811 := BlkO.evo (by decide) hE824 b817_g811
  have b824_g813 := BlkO.evo (by decide) hE824 b817_g813
  have b824_g815 := BlkO.evo (by decide) hE824 b817_g815
  have b824_g818 := b_g818
  have b824_g820 := b_g820
  refine fl_seq (fun Q825 hn825 hp825 => ?_)
  refine rg_plain_seq (n := 101) (rs := []) (own0 := own824) (K := [])
      (bs := [0, 1, 0, 4, 12, 31, 0, 64, 0, 256, 960, 2047, 0, 4096, 12288, 0, 32768, 126976, 0, 262144, 0, 1048576, 3932160, 8384512, 0, 16777216, 0, 67108864, 201326592, 520093696, 0, 1073741824, 0, 4294967296, 16106127360, 34342961152, 0, 68719476736, 206158430208, 0, 549755813888, 2130303778816, 0, 4398046511104, 0, 17592186044416, 65970697666560, 140668768878592, 281474976710655, 0])
      (ds := [⟨[], [3], [], Fct.val 17 (.pointer (some ⟨g811, 0, none⟩))⟩,
      ⟨[0], [], [], Fct.val 18 (.int .i64 p1.1)⟩,
      ⟨[], [5], [], Fct.val 19 (.pointer (some ⟨g815, 0, none⟩))⟩,
      ⟨[2], [], [], Fct.val 20 (.pointer (some ⟨g815, 0, none⟩))⟩,
      ⟨[3], [], [], Fct.val 21 (.int .i64 b3.1.1)⟩,
      ⟨[1, 4], [], [], Fct.val 22 (.int .i64 (sb p1.1 b3.1.1))⟩,
      ⟨[], [4], [], Fct.val 23 (.pointer (some ⟨g813, 0, none⟩))⟩,
      ⟨[6], [], [], Fct.val 24 (.int .i64 q2.1)⟩,
      ⟨[], [3], [], Fct.val 25 (.pointer (some ⟨g811, 0, none⟩))⟩,
      ⟨[8], [], [], Fct.val 26 (.int .i64 p1.1)⟩,
      ⟨[7, 9], [], [], Fct.val 27 (.int .i64 (sb q2.1 p1.1))⟩,
      ⟨[5, 10], [], [], Fct.val 28 (.agg #[.int .i64 (sb p1.1 b3.1.1), .int .i64 (sb q2.1 p1.1)])⟩,
      ⟨[], [5], [], Fct.val 29 (.pointer (some ⟨g815, 2, none⟩))⟩,
      ⟨[12], [], [], Fct.val 30 (.pointer (some ⟨g815, 2, none⟩))⟩,
      ⟨[13], [], [], Fct.val 31 (.int .i64 b3.2.1)⟩,
      ⟨[], [3], [], Fct.val 32 (.pointer (some ⟨g811, 0, none⟩))⟩,
      ⟨[15], [], [], Fct.val 33 (.int .i64 p1.1)⟩,
      ⟨[14, 16], [], [], Fct.val 34 (.int .i64 (sb b3.2.1 p1.1))⟩,
      ⟨[], [3], [], Fct.val 35 (.pointer (some ⟨g811, 0, none⟩))⟩,
      ⟨[18], [], [], Fct.val 36 (.int .i64 p1.1)⟩,
      ⟨[], [4], [], Fct.val 37 (.pointer (some ⟨g813, 0, none⟩))⟩,
      ⟨[20], [], [], Fct.val 38 (.int .i64 q2.1)⟩,
      ⟨[19, 21], [], [], Fct.val 39 (.int .i64 (sb p1.1 q2.1))⟩,
      ⟨[17, 22], [], [], Fct.val 40 (.agg #[.int .i64 (sb b3.2.1 p1.1), .int .i64 (sb p1.1 q2.1)])⟩,
      ⟨[], [3], [], Fct.val 41 (.pointer (some ⟨g811, 1, none⟩))⟩,
      ⟨[24], [], [], Fct.val 42 (.int .i64 p1.2)⟩,
      ⟨[], [5], [], Fct.val 43 (.pointer (some ⟨g815, 0, none⟩))⟩,
      ⟨[26], [], [], Fct.val 44 (.pointer (some ⟨g815, 1, none⟩))⟩,
      ⟨[27], [], [], Fct.val 45 (.int .i64 b3.1.2)⟩,
      ⟨[25, 28], [], [], Fct.val 46 (.int .i64 (sb p1.2 b3.1.2))⟩,
      ⟨[], [4], [], Fct.val 47 (.pointer (some ⟨g813, 1, none⟩))⟩,
      ⟨[30], [], [], Fct.val 48 (.int .i64 q2.2)⟩,
      ⟨[], [3], [], Fct.val 49 (.pointer (some ⟨g811, 1, none⟩))⟩,
      ⟨[32], [], [], Fct.val 50 (.int .i64 p1.2)⟩,
      ⟨[31, 33], [], [], Fct.val 51 (.int .i64 (sb q2.2 p1.2))⟩,
      ⟨[29, 34], [], [], Fct.val 52 (.agg #[.int .i64 (sb p1.2 b3.1.2), .int .i64 (sb q2.2 p1.2)])⟩,
      ⟨[], [5], [], Fct.val 53 (.pointer (some ⟨g815, 2, none⟩))⟩,
      ⟨[36], [], [], Fct.val 54 (.pointer (some ⟨g815, 3, none⟩))⟩,
      ⟨[37], [], [], Fct.val 55 (.int .i64 b3.2.2)⟩,
      ⟨[], [3], [], Fct.val 56 (.pointer (some ⟨g811, 1, none⟩))⟩,
      ⟨[39], [], [], Fct.val 57 (.int .i64 p1.2)⟩,
      ⟨[38, 40], [], [], Fct.val 58 (.int .i64 (sb b3.2.2 p1.2))⟩,
      ⟨[], [3], [], Fct.val 59 (.pointer (some ⟨g811, 1, none⟩))⟩,
      ⟨[42], [], [], Fct.val 60 (.int .i64 p1.2)⟩,
      ⟨[], [4], [], Fct.val 61 (.pointer (some ⟨g813, 1, none⟩))⟩,
      ⟨[44], [], [], Fct.val 62 (.int .i64 q2.2)⟩,
      ⟨[43, 45], [], [], Fct.val 63 (.int .i64 (sb p1.2 q2.2))⟩,
      ⟨[41, 46], [], [], Fct.val 64 (.agg #[.int .i64 (sb b3.2.2 p1.2), .int .i64 (sb p1.2 q2.2)])⟩,
      ⟨[11, 23, 35, 47], [], [], Fct.val 65 (.agg #[.int .i64 (sb p1.1 b3.1.1), .int .i64 (sb q2.1 p1.1), .int .i64 (sb b3.2.1 p1.1), .int .i64 (sb p1.1 q2.1), .int .i64 (sb p1.2 b3.1.2), .int .i64 (sb q2.2 p1.2), .int .i64 (sb b3.2.2 p1.2), .int .i64 (sb p1.2 q2.2)])⟩,
      ⟨[], [], [], Fct.val 66 (.int .i64 0)⟩]) (by kernel_rfl) hz824 hd824 (fun _ h => nomatch h) ?_ ?_
  · refine steps_cons (fun own a wx hf hsl hE => ?_) ?_
    · obtain ⟨s_3, -⟩ := hsl
      exact sg_plain rfl rfl (or_field fo34_0 (s_3.trans e824_3) (by rfl))
    refine steps_cons (fun own a wx hf hsl hE => ?_) ?_
    · obtain ⟨(f_17 : a.eval (.tmp 17) = .pointer (some ⟨g811, 0, none⟩)), -⟩ := hf
      exact sg_plain rfl rfl (or_load1 to3 f_17 (Blk.at_ (BlkO.evo (by decide) hE b824_g811).2 0 rfl))
    refine steps_cons (fun own a wx hf hsl hE => ?_) ?_
    · obtain ⟨s_5, -⟩ := hsl
      exact sg_plain rfl rfl (or_field fo36_0 (s_5.trans e824_5) (by rfl))
    refine steps_cons (fun own a wx hf hsl hE => ?_) ?_
    · obtain ⟨(f_19 : a.eval (.tmp 19) = .pointer (some ⟨g815, 0, none⟩)), -⟩ := hf
      exact sg_plain rfl rfl (or_field fo34_0 f_19 (by rfl))
    refine steps_cons (fun own a wx hf hsl hE => ?_) ?_
    · obtain ⟨(f_20 : a.eval (.tmp 20) = .pointer (some ⟨g815, 0, none⟩)), -⟩ := hf
      exact sg_plain rfl rfl (or_load1 to3 f_20 (Blk.at_ (BlkO.evo (by decide) hE b824_g815).2 0 rfl))
    refine steps_cons (fun own a wx hf hsl hE => ?_) ?_
    · obtain ⟨(f_18 : a.eval (.tmp 18) = .int .i64 p1.1), (f_21 : a.eval (.tmp 21) = .int .i64 b3.1.1), -⟩ := hf
      exact sg_plain rfl rfl (or_sub f_18 f_21 rfl)
    refine steps_cons (fun own a wx hf hsl hE => ?_) ?_
    · obtain ⟨s_4, -⟩ := hsl
      exact sg_plain rfl rfl (or_field fo34_0 (s_4.trans e824_4) (by rfl))
    refine steps_cons (fun own a wx hf hsl hE => ?_) ?_
    · obtain ⟨(f_23 : a.eval (.tmp 23) = .pointer (some ⟨g813, 0, none⟩)), -⟩ := hf
      exact sg_plain rfl rfl (or_load1 to3 f_23 (Blk.at_ (BlkO.evo (by decide) hE b824_g813).2 0 rfl))
    refine steps_cons (fun own a wx hf hsl hE => ?_) ?_
    · obtain ⟨s_3, -⟩ := hsl
      exact sg_plain rfl rfl (or_field fo34_0 (s_3.trans e824_3) (by rfl))
    refine steps_cons (fun own a wx hf hsl hE => ?_) ?_
    · obtain ⟨(f_25 : a.eval (.tmp 25) = .pointer (some ⟨g811, 0, none⟩)), -⟩ := hf
      exact sg_plain rfl rfl (or_load1 to3 f_25 (Blk.at_ (BlkO.evo (by decide) hE b824_g811).2 0 rfl))
    refine steps_cons (fun own a wx hf hsl hE => ?_) ?_
    · obtain ⟨(f_24 : a.eval (.tmp 24) = .int .i64 q2.1), (f_26 : a.eval (.tmp 26) = .int .i64 p1.1), -⟩ := hf
      exact sg_plain rfl rfl (or_sub f_24 f_26 rfl)
    refine steps_cons (fun own a wx hf hsl hE => ?_) ?_
    · obtain ⟨(f_22 : a.eval (.tmp 22) = .int .i64 (sb p1.1 b3.1.1)), (f_27 : a.eval (.tmp 27) = .int .i64 (sb q2.1 p1.1)), -⟩ := hf
      exact sg_plain rfl rfl (or_k [(22, .int .i64 (sb p1.1 b3.1.1)), (27, .int .i64 (sb q2.1 p1.1))] rfl rfl ⟨f_22, f_27, trivial⟩ (by kernel_rfl))
    refine steps_cons (fun own a wx hf hsl hE => ?_) ?_
    · obtain ⟨s_5, -⟩ := hsl
      exact sg_plain rfl rfl (or_field fo36_1 (s_5.trans e824_5) (by rfl))
    refine steps_cons (fun own a wx hf hsl hE => ?_) ?_
    · obtain ⟨(f_29 : a.eval (.tmp 29) = .pointer (some ⟨g815, 2, none⟩)), -⟩ := hf
      exact sg_plain rfl rfl (or_field fo34_0 f_29 (by rfl))
    refine steps_cons (fun own a wx hf hsl hE => ?_) ?_
    · obtain ⟨(f_30 : a.eval (.tmp 30) = .pointer (some ⟨g815, 2, none⟩)), -⟩ := hf
      exact sg_plain rfl rfl (or_load1 to3 f_30 (Blk.at_ (BlkO.evo (by decide) hE b824_g815).2 2 rfl))
    refine steps_cons (fun own a wx hf hsl hE => ?_) ?_
    · obtain ⟨s_3, -⟩ := hsl
      exact sg_plain rfl rfl (or_field fo34_0 (s_3.trans e824_3) (by rfl))
    refine steps_cons (fun own a wx hf hsl hE => ?_) ?_
    · obtain ⟨(f_32 : a.eval (.tmp 32) = .pointer (some ⟨g811, 0, none⟩)), -⟩ := hf
      exact sg_plain rfl rfl (or_load1 to3 f_32 (Blk.at_ (BlkO.evo (by decide) hE b824_g811).2 0 rfl))
    refine steps_cons (fun own a wx hf hsl hE => ?_) ?_
    · obtain ⟨(f_31 : a.eval (.tmp 31) = .int .i64 b3.2.1), (f_33 : a.eval (.tmp 33) = .int .i64 p1.1), -⟩ := hf
      exact sg_plain rfl rfl (or_sub f_31 f_33 rfl)
    refine steps_cons (fun own a wx hf hsl hE => ?_) ?_
    · obtain ⟨s_3, -⟩ := hsl
      exact sg_plain rfl rfl (or_field fo34_0 (s_3.trans e824_3) (by rfl))
    refine steps_cons (fun own a wx hf hsl hE => ?_) ?_
    · obtain ⟨(f_35 : a.eval (.tmp 35) = .pointer (some ⟨g811, 0, none⟩)), -⟩ := hf
      exact sg_plain rfl rfl (or_load1 to3 f_35 (Blk.at_ (BlkO.evo (by decide) hE b824_g811).2 0 rfl))
    refine steps_cons (fun own a wx hf hsl hE => ?_) ?_
    · obtain ⟨s_4, -⟩ := hsl
      exact sg_plain rfl rfl (or_field fo34_0 (s_4.trans e824_4) (by rfl))
    refine steps_cons (fun own a wx hf hsl hE => ?_) ?_
    · obtain ⟨(f_37 : a.eval (.tmp 37) = .pointer (some ⟨g813, 0, none⟩)), -⟩ := hf
      exact sg_plain rfl rfl (or_load1 to3 f_37 (Blk.at_ (BlkO.evo (by decide) hE b824_g813).2 0 rfl))
    refine steps_cons (fun own a wx hf hsl hE => ?_) ?_
    · obtain ⟨(f_36 : a.eval (.tmp 36) = .int .i64 p1.1), (f_38 : a.eval (.tmp 38) = .int .i64 q2.1), -⟩ := hf
      exact sg_plain rfl rfl (or_sub f_36 f_38 rfl)
    refine steps_cons (fun own a wx hf hsl hE => ?_) ?_
    · obtain ⟨(f_34 : a.eval (.tmp 34) = .int .i64 (sb b3.2.1 p1.1)), (f_39 : a.eval (.tmp 39) = .int .i64 (sb p1.1 q2.1)), -⟩ := hf
      exact sg_plain rfl rfl (or_k [(34, .int .i64 (sb b3.2.1 p1.1)), (39, .int .i64 (sb p1.1 q2.1))] rfl rfl ⟨f_34, f_39, trivial⟩ (by kernel_rfl))
    refine steps_cons (fun own a wx hf hsl hE => ?_) ?_
    · obtain ⟨s_3, -⟩ := hsl
      exact sg_plain rfl rfl (or_field fo34_1 (s_3.trans e824_3) (by rfl))
    refine steps_cons (fun own a wx hf hsl hE => ?_) ?_
    · obtain ⟨(f_41 : a.eval (.tmp 41) = .pointer (some ⟨g811, 1, none⟩)), -⟩ := hf
      exact sg_plain rfl rfl (or_load1 to3 f_41 (Blk.at_ (BlkO.evo (by decide) hE b824_g811).2 1 rfl))
    refine steps_cons (fun own a wx hf hsl hE => ?_) ?_
    · obtain ⟨s_5, -⟩ := hsl
      exact sg_plain rfl rfl (or_field fo36_0 (s_5.trans e824_5) (by rfl))
    refine steps_cons (fun own a wx hf hsl hE => ?_) ?_
    · obtain ⟨(f_43 : a.eval (.tmp 43) = .pointer (some ⟨g815, 0, none⟩)), -⟩ := hf
      exact sg_plain rfl rfl (or_field fo34_1 f_43 (by rfl))
    refine steps_cons (fun own a wx hf hsl hE => ?_) ?_
    · obtain ⟨(f_44 : a.eval (.tmp 44) = .pointer (some ⟨g815, 1, none⟩)), -⟩ := hf
      exact sg_plain rfl rfl (or_load1 to3 f_44 (Blk.at_ (BlkO.evo (by decide) hE b824_g815).2 1 rfl))
    refine steps_cons (fun own a wx hf hsl hE => ?_) ?_
    · obtain ⟨(f_42 : a.eval (.tmp 42) = .int .i64 p1.2), (f_45 : a.eval (.tmp 45) = .int .i64 b3.1.2), -⟩ := hf
      exact sg_plain rfl rfl (or_sub f_42 f_45 rfl)
    refine steps_cons (fun own a wx hf hsl hE => ?_) ?_
    · obtain ⟨s_4, -⟩ := hsl
      exact sg_plain rfl rfl (or_field fo34_1 (s_4.trans e824_4) (by rfl))
    refine steps_cons (fun own a wx hf hsl hE => ?_) ?_
    · obtain ⟨(f_47 : a.eval (.tmp 47) = .pointer (some ⟨g813, 1, none⟩)), -⟩ := hf
      exact sg_plain rfl rfl (or_load1 to3 f_47 (Blk.at_ (BlkO.evo (by decide) hE b824_g813).2 1 rfl))
    refine steps_cons (fun own a wx hf hsl hE => ?_) ?_
    · obtain ⟨s_3, -⟩ := hsl
      exact sg_plain rfl rfl (or_field fo34_1 (s_3.trans e824_3) (by rfl))
    refine steps_cons (fun own a wx hf hsl hE => ?_) ?_
    · obtain ⟨(f_49 : a.eval (.tmp 49) = .pointer (some ⟨g811, 1, none⟩)), -⟩ := hf
      exact sg_plain rfl rfl (or_load1 to3 f_49 (Blk.at_ (BlkO.evo (by decide) hE b824_g811).2 1 rfl))
    refine steps_cons (fun own a wx hf hsl hE => ?_) ?_
    · obtain ⟨(f_48 : a.eval (.tmp 48) = .int .i64 q2.2), (f_50 : a.eval (.tmp 50) = .int .i64 p1.2), -⟩ := hf
      exact sg_plain rfl rfl (or_sub f_48 f_50 rfl)
    refine steps_cons (fun own a wx hf hsl hE => ?_) ?_
    · obtain ⟨(f_46 : a.eval (.tmp 46) = .int .i64 (sb p1.2 b3.1.2)), (f_51 : a.eval (.tmp 51) = .int .i64 (sb q2.2 p1.2)), -⟩ := hf
      exact sg_plain rfl rfl (or_k [(46, .int .i64 (sb p1.2 b3.1.2)), (51, .int .i64 (sb q2.2 p1.2))] rfl rfl ⟨f_46, f_51, trivial⟩ (by kernel_rfl))
    refine steps_cons (fun own a wx hf hsl hE => ?_) ?_
    · obtain ⟨s_5, -⟩ := hsl
      exact sg_plain rfl rfl (or_field fo36_1 (s_5.trans e824_5) (by rfl))
    refine steps_cons (fun own a wx hf hsl hE => ?_) ?_
    · obtain ⟨(f_53 : a.eval (.tmp 53) = .pointer (some ⟨g815, 2, none⟩)), -⟩ := hf
      exact sg_plain rfl rfl (or_field fo34_1 f_53 (by rfl))
    refine steps_cons (fun own a wx hf hsl hE => ?_) ?_
    · obtain ⟨(f_54 : a.eval (.tmp 54) = .pointer (some ⟨g815, 3, none⟩)), -⟩ := hf
      exact sg_plain rfl rfl (or_load1 to3 f_54 (Blk.at_ (BlkO.evo (by decide) hE b824_g815).2 3 rfl))
    refine steps_cons (fun own a wx hf hsl hE => ?_) ?_
    · obtain ⟨s_3, -⟩ := hsl
      exact sg_plain rfl rfl (or_field fo34_1 (s_3.trans e824_3) (by rfl))
    refine steps_cons (fun own a wx hf hsl hE => ?_) ?_
    · obtain ⟨(f_56 : a.eval (.tmp 56) = .pointer (some ⟨g811, 1, none⟩)), -⟩ := hf
      exact sg_plain rfl rfl (or_load1 to3 f_56 (Blk.at_ (BlkO.evo (by decide) hE b824_g811).2 1 rfl))
    refine steps_cons (fun own a wx hf hsl hE => ?_) ?_
    · obtain ⟨(f_55 : a.eval (.tmp 55) = .int .i64 b3.2.2), (f_57 : a.eval (.tmp 57) = .int .i64 p1.2), -⟩ := hf
      exact sg_plain rfl rfl (or_sub f_55 f_57 rfl)
    refine steps_cons (fun own a wx hf hsl hE => ?_) ?_
    · obtain ⟨s_3, -⟩ := hsl
      exact sg_plain rfl rfl (or_field fo34_1 (s_3.trans e824_3) (by rfl))
    refine steps_cons (fun own a wx hf hsl hE => ?_) ?_
    · obtain ⟨(f_59 : a.eval (.tmp 59) = .pointer (some ⟨g811, 1, none⟩)), -⟩ := hf
      exact sg_plain rfl rfl (or_load1 to3 f_59 (Blk.at_ (BlkO.evo (by decide) hE b824_g811).2 1 rfl))
    refine steps_cons (fun own a wx hf hsl hE => ?_) ?_
    · obtain ⟨s_4, -⟩ := hsl
      exact sg_plain rfl rfl (or_field fo34_1 (s_4.trans e824_4) (by rfl))
    refine steps_cons (fun own a wx hf hsl hE => ?_) ?_
    · obtain ⟨(f_61 : a.eval (.tmp 61) = .pointer (some ⟨g813, 1, none⟩)), -⟩ := hf
      exact sg_plain rfl rfl (or_load1 to3 f_61 (Blk.at_ (BlkO.evo (by decide) hE b824_g813).2 1 rfl))
    refine steps_cons (fun own a wx hf hsl hE => ?_) ?_
    · obtain ⟨(f_60 : a.eval (.tmp 60) = .int .i64 p1.2), (f_62 : a.eval (.tmp 62) = .int .i64 q2.2), -⟩ := hf
      exact sg_plain rfl rfl (or_sub f_60 f_62 rfl)
    refine steps_cons (fun own a wx hf hsl hE => ?_) ?_
    · obtain ⟨(f_58 : a.eval (.tmp 58) = .int .i64 (sb b3.2.2 p1.2)), (f_63 : a.eval (.tmp 63) = .int .i64 (sb p1.2 q2.2)), -⟩ := hf
      exact sg_plain rfl rfl (or_k [(58, .int .i64 (sb b3.2.2 p1.2)), (63, .int .i64 (sb p1.2 q2.2))] rfl rfl ⟨f_58, f_63, trivial⟩ (by kernel_rfl))
    refine steps_cons (fun own a wx hf hsl hE => ?_) ?_
    · obtain ⟨(f_28 : a.eval (.tmp 28) = .agg #[.int .i64 (sb p1.1 b3.1.1), .int .i64 (sb q2.1 p1.1)]), (f_40 : a.eval (.tmp 40) = .agg #[.int .i64 (sb b3.2.1 p1.1), .int .i64 (sb p1.1 q2.1)]), (f_52 : a.eval (.tmp 52) = .agg #[.int .i64 (sb p1.2 b3.1.2), .int .i64 (sb q2.2 p1.2)]), (f_64 : a.eval (.tmp 64) = .agg #[.int .i64 (sb b3.2.2 p1.2), .int .i64 (sb p1.2 q2.2)]), -⟩ := hf
      exact sg_plain rfl rfl (or_k [(28, .agg #[.int .i64 (sb p1.1 b3.1.1), .int .i64 (sb q2.1 p1.1)]), (40, .agg #[.int .i64 (sb b3.2.1 p1.1), .int .i64 (sb p1.1 q2.1)]), (52, .agg #[.int .i64 (sb p1.2 b3.1.2), .int .i64 (sb q2.2 p1.2)]), (64, .agg #[.int .i64 (sb b3.2.2 p1.2), .int .i64 (sb p1.2 q2.2)])] rfl rfl ⟨f_28, f_40, f_52, f_64, trivial⟩ (by kernel_rfl))
    refine steps_cons (fun own a wx hf hsl hE => ?_) ?_
    · exact sg_plain rfl rfl (or_move rfl)
    exact steps_nil
  intro own826 a826 w826 hd826 hz826 hk826 hf826 hE826
  have e826_7 : a826.eval (.tmp 7) = .pointer (some ⟨g818, 0, none⟩) := (hk826 7 rfl).trans e824_7
  have e826_8 : a826.eval (.tmp 8) = .pointer (some ⟨g820, 0, none⟩) := (hk826 8 rfl).trans e824_8
  obtain ⟨(f_65 : a826.eval (.tmp 65) = .agg #[.int .i64 (sb p1.1 b3.1.1), .int .i64 (sb q2.1 p1.1), .int .i64 (sb b3.2.1 p1.1), .int .i64 (sb p1.1 q2.1), .int .i64 (sb p1.2 b3.1.2), .int .i64 (sb q2.2 p1.2), .int .i64 (sb b3.2.2 p1.2), .int .i64 (sb p1.2 q2.2)]), (f_66 : a826.eval (.tmp 66) = .int .i64 0), -⟩ := hf826 [48, 49] rfl
  have e826_65 := f_65
  have e826_66 := f_66
  have hX826 := Evo.step hX824 (fun _ => Nat.le_refl 0) hE826 rfl
  have b826_g818 := BlkO.evo (by decide) hE826 b824_g818
  have b826_g820 := BlkO.evo (by decide) hE826 b824_g820
  refine fl_block (fun Q827 hn827 hx827 hp827 => ?_)
  refine fl_loop (body := (fun s => lineclip_inside_b1 p1 q2 b3 s.1 s.2.1 s.2.2)) (z := r) (show loopO _ _ = _ from hs) (fun (s : (Int × Int) × (Int × Int) × Int) a wx => match s with | (first1084, last1086, x1087) => ∃ (ox : Own), a.defers = [] ∧ a.tmps.size = 101 ∧ a.eval (.tmp 7) = .pointer (some ⟨g818, 0, none⟩) ∧ a.eval (.tmp 8) = .pointer (some ⟨g820, 0, none⟩) ∧ a.eval (.tmp 65) = .agg #[.int .i64 (sb p1.1 b3.1.1), .int .i64 (sb q2.1 p1.1), .int .i64 (sb b3.2.1 p1.1), .int .i64 (sb p1.1 q2.1), .int .i64 (sb p1.2 b3.1.2), .int .i64 (sb q2.2 p1.2), .int .i64 (sb b3.2.2 p1.2), .int .i64 (sb p1.2 q2.2)] ∧ a.eval (.tmp 66) = .int .i64 x1087 ∧ Evo [] (fun _ => 0) ox w wx ∧ BlkO ox 1083 wx g818 65 #[.int .i64 first1084.1, .int .i64 first1084.2] ∧ BlkO ox 1085 wx g820 65 #[.int .i64 last1086.1, .int .i64 last1086.2]) ?_ ?_
  · exact ⟨(rl [(822, 1083), (823, 1085)] own826), hd826, hz826, e826_7, e826_8, e826_65, e826_66, (Evo.rl_ hX826 (fun _ => Nat.le_refl 0) rfl), (BlkO.rl_ (mm := [(822, 1083), (823, 1085)]) b826_g818), (BlkO.rl_ (mm := [(822, 1083), (823, 1085)]) b826_g820)⟩
  · rintro ⟨first1084, last1086, x1087⟩ zz1348 a1348 w1348 ⟨own1348, hd1349, hz1349, e1349_7, e1349_8, e1349_65, e1349_66, hE1349, b1349_g818, b1349_g820⟩ hs Q1348 hn1348 hp1348 hz1348
    have hs : lineclip_inside_b1 p1 q2 b3 first1084 last1086 x1087 = some zz1348 := hs
    refine rg_plain_seq (n := 101) (rs := []) (own0 := own1348) (K := [])
        (bs := [0])
        (ds := [⟨[], [66], [], Fct.val 67 (.bool (decide (x1087 < 4)))⟩]) (by kernel_rfl) hz1349 hd1349 (fun _ h => nomatch h) ?_ ?_
    · refine steps_cons (fun own a wx hf hsl hE => ?_) ?_
      · obtain ⟨s_66, -⟩ := hsl
        exact sg_plain rfl rfl (or_lss (s_66.trans e1349_66) rfl rfl)
      exact steps_nil
    intro own1350 a1350 w1350 hd1350 hz1350 hk1350 hf1350 hE1350
    have e1350_7 : a1350.eval (.tmp 7) = .pointer (some ⟨g818, 0, none⟩) := (hk1350 7 rfl).trans e1349_7
    have e1350_8 : a1350.eval (.tmp 8) = .pointer (some ⟨g820, 0, none⟩) := (hk1350 8 rfl).trans e1349_8
    have e1350_65 : a1350.eval (.tmp 65) = .agg #[.int .i64 (sb p1.1 b3.1.1), .int .i64 (sb q2.1 p1.1), .int .i64 (sb b3.2.1 p1.1), .int .i64 (sb p1.1 q2.1), .int .i64 (sb p1.2 b3.1.2), .int .i64 (sb q2.2 p1.2), .int .i64 (sb b3.2.2 p1.2), .int .i64 (sb p1.2 q2.2)] := (hk1350 65 rfl).trans e1349_65
    have e1350_66 : a1350.eval (.tmp 66) = .int .i64 x1087 := (hk1350 66 rfl).trans e1349_66
    obtain ⟨(f_67 : a1350.eval (.tmp 67) = .bool (decide (x1087 < 4))), -⟩ := hf1350 [0] rfl
    have e1350_67 := f_67
    have hX1350 := Evo.step hE1349 (fun _ => Nat.le_refl 0) hE1350 rfl
    have b1350_g818 := BlkO.evo (by decide) hE1350 b1349_g818
    have b1350_g820 := BlkO.evo (by decide) hE1350 b1349_g820
    refine fl_seq (fun Q1351 hn1351 hp1351 => ?_)
    refine fl_cond e1350_67 hs (fun c1352 hs => ?_) (fun c1352 hs => ?_)
    · refine fl_skip ?_
      refine hn1351 _ _ ?_
      refine fl_seq (fun Q1353 hn1353 hp1353 => ?_)
      refine fl_block (fun Q1481 hn1481 hx1481 hp1481 => ?_)
      obtain ⟨x1545, hx1545, hs⟩ := obind hs
      refine rg_plain_seq (n := 101) (rs := []) (own0 := own1350) (K := [1547])
          (bs := [0, 0, 3])
          (ds := [⟨[], [65, 66], [], Fct.val 68 (.agg #[.int .i64 x1545.1, .int .i64 x1545.2])⟩,
          ⟨[], [], [], Fct.blk 1547 10 (fun g => .pointer (some ⟨g, 0, none⟩)) 66 #[.int .i64 0, .int .i64 0]⟩,
          ⟨[1, 0], [], [1547], Fct.blk 1548 10 (fun g => .pointer (some ⟨g, 0, none⟩)) 66 #[.int .i64 x1545.1, .int .i64 x1545.2]⟩]) (by kernel_rfl) hz1350 hd1350 (fun _ h => nomatch h) ?_ ?_
      · refine steps_cons (fun own a wx hf hsl hE => ?_) ?_
        · obtain ⟨s_65, s_66, -⟩ := hsl
          exact sg_plain rfl rfl (or_indexA (F := E66) (l := [(sb p1.1 b3.1.1, sb q2.1 p1.1), (sb b3.2.1 p1.1, sb p1.1 q2.1), (sb p1.2 b3.1.2, sb q2.2 p1.2), (sb b3.2.2 p1.2, sb p1.2 q2.2)]) (v := x1545) tr67 ta66 rfl (s_65.trans e1350_65) rfl (s_66.trans e1350_66) hx1545)
        refine steps_cons (fun own a wx hf hsl hE => ?_) ?_
        · exact sg_plain rfl rfl (or_new [] rfl rfl trivial (by kernel_rfl))
        refine steps_cons (fun own a wx hf hsl hE => ?_) ?_
        · obtain ⟨⟨g1546, (f_10 : a.eval (.tmp 10) = .pointer (some ⟨g1546, 0, none⟩)), (b_g1546 : BlkO own 1547 wx g1546 66 #[.int .i64 0, .int .i64 0])⟩, (f_68 : a.eval (.tmp 68) = .agg #[.int .i64 x1545.1, .int .i64 x1545.2]), -⟩ := hf
          exact sg_plain rfl rfl (or_store (l := #[.int .i64 x1545.1, .int .i64 x1545.2]) (lab := 1547) (lab2 := 1548) ts66 f_10 f_68 b_g1546 (by simp) (by kernel_rfl) (mem_of rfl) (by decide) (by kernel_rfl) (fun own' a' w' ha hb => ⟨_, (ha 10).trans f_10, hb⟩))
        exact steps_nil
      intro own1549 a1549 w1549 hd1549 hz1549 hk1549 hf1549 hE1549
      have e1549_7 : a1549.eval (.tmp 7) = .pointer (some ⟨g818, 0, none⟩) := (hk1549 7 rfl).trans e1350_7
      have e1549_8 : a1549.eval (.tmp 8) = .pointer (some ⟨g820, 0, none⟩) := (hk1549 8 rfl).trans e1350_8
      have e1549_65 : a1549.eval (.tmp 65) = .agg #[.int .i64 (sb p1.1 b3.1.1), .int .i64 (sb q2.1 p1.1), .int .i64 (sb b3.2.1 p1.1), .int .i64 (sb p1.1 q2.1), .int .i64 (sb p1.2 b3.1.2), .int .i64 (sb q2.2 p1.2), .int .i64 (sb b3.2.2 p1.2), .int .i64 (sb p1.2 q2.2)] := (hk1549 65 rfl).trans e1350_65
      have e1549_66 : a1549.eval (.tmp 66) = .int .i64 x1087 := (hk1549 66 rfl).trans e1350_66
      obtain ⟨⟨g1546, (f_10 : a1549.eval (.tmp 10) = .pointer (some ⟨g1546, 0, none⟩)), (b_g1546 : BlkO own1549 1548 w1549 g1546 66 #[.int .i64 x1545.1, .int .i64 x1545.2])⟩, -⟩ := hf1549 [2] rfl
      have e1549_10 := f_10
      have hX1549 := Evo.step hX1350 (fun _ => Nat.le_refl 0) hE1549 rfl
      have b1549_g818 := BlkO.evo (by decide) hE1549 b1350_g818
      have b1549_g820 := BlkO.evo (by decide) hE1549 b1350_g820
      have b1549_g1546 := b_g1546
      refine rg_draw_seq g_mixed (n := 101) (rs := []) (own0 := own1549) (K := [])
          (bs := [0, 1, 0, 4, 3, 31])
          (ds := [⟨[], [10], [], Fct.val 69 (.pointer (some ⟨g1546, 0, none⟩))⟩,
          ⟨[0], [], [], Fct.val 70 (.int .i64 x1545.1)⟩,
          ⟨[], [10], [], Fct.val 71 (.pointer (some ⟨g1546, 1, none⟩))⟩,
          ⟨[2], [], [], Fct.val 72 (.int .i64 x1545.2)⟩,
          ⟨[1], [], [], Fct.val 11 (.int .i64 x1545.1)⟩,
          ⟨[3], [], [], Fct.val 12 (.int .i64 x1545.2)⟩]) (by kernel_rfl) hz1549 hd1549 (fun _ h => nomatch h) ?_ ?_
      · refine steps_cons (fun own a wx hf hsl hE => ?_) ?_
        · obtain ⟨s_10, -⟩ := hsl
          exact sg_plain rfl rfl (or_k [(10, .pointer (some ⟨g1546, 0, none⟩))] rfl rfl ⟨(s_10.trans e1549_10), trivial⟩ (by kernel_rfl))
        refine steps_cons (fun own a wx hf hsl hE => ?_) ?_
        · obtain ⟨(f_69 : a.eval (.tmp 69) = .pointer (some ⟨g1546, 0, none⟩)), -⟩ := hf
          exact sg_plain rfl rfl (or_load1 to3 f_69 (Blk.at_ (BlkO.evo (by decide) hE b1549_g1546).2 0 rfl))
        refine steps_cons (fun own a wx hf hsl hE => ?_) ?_
        · obtain ⟨s_10, -⟩ := hsl
          exact sg_plain rfl rfl (or_k [(10, .pointer (some ⟨g1546, 0, none⟩))] rfl rfl ⟨(s_10.trans e1549_10), trivial⟩ (by kernel_rfl))
        refine steps_cons (fun own a wx hf hsl hE => ?_) ?_
        · obtain ⟨(f_71 : a.eval (.tmp 71) = .pointer (some ⟨g1546, 1, none⟩)), -⟩ := hf
          exact sg_plain rfl rfl (or_load1 to3 f_71 (Blk.at_ (BlkO.evo (by decide) hE b1549_g1546).2 1 rfl))
        refine steps_cons (fun own a wx hf hsl hE => ?_) ?_
        · obtain ⟨(f_70 : a.eval (.tmp 70) = .int .i64 x1545.1), -⟩ := hf
          exact sg_plain rfl rfl (or_assign f_70)
        refine steps_cons (fun own a wx hf hsl hE => ?_) ?_
        · obtain ⟨(f_72 : a.eval (.tmp 72) = .int .i64 x1545.2), -⟩ := hf
          exact sg_plain rfl rfl (or_assign f_72)
        exact steps_nil
      intro own1550 a1550 w1550 hd1550 hz1550 hk1550 hf1550 hE1550
      have e1550_7 : a1550.eval (.tmp 7) = .pointer (some ⟨g818, 0, none⟩) := (hk1550 7 rfl).trans e1549_7
      have e1550_8 : a1550.eval (.tmp 8) = .pointer (some ⟨g820, 0, none⟩) := (hk1550 8 rfl).trans e1549_8
      have e1550_65 : a1550.eval (.tmp 65) = .agg #[.int .i64 (sb p1.1 b3.1.1), .int .i64 (sb q2.1 p1.1), .int .i64 (sb b3.2.1 p1.1), .int .i64 (sb p1.1 q2.1), .int .i64 (sb p1.2 b3.1.2), .int .i64 (sb q2.2 p1.2), .int .i64 (sb b3.2.2 p1.2), .int .i64 (sb p1.2 q2.2)] := (hk1550 65 rfl).trans e1549_65
      have e1550_66 : a1550.eval (.tmp 66) = .int .i64 x1087 := (hk1550 66 rfl).trans e1549_66
      obtain ⟨(f_11 : a1550.eval (.tmp 11) = .int .i64 x1545.1), (f_12 : a1550.eval (.tmp 12) = .int .i64 x1545.2), -⟩ := hf1550 [4, 5] rfl
      have e1550_11 := f_11
      have e1550_12 := f_12
      have hX1550 := Evo.step hX1549 (fun _ => Nat.le_refl 0) hE1550 rfl
      have b1550_g818 := BlkO.evo (by decide) hE1550 b1549_g818
      have b1550_g820 := BlkO.evo (by decide) hE1550 b1549_g820
      refine fl_block (fun Q1551 hn1551 hx1551 hp1551 => ?_)
      have K1581 : ∀ (a1581 : Act) (w1581 : World) (own1581 : Own) (first1578 : Int × Int) (last1580 : Int × Int), a1581.defers = [] → a1581.tmps.size = 101 → a1581.eval (.tmp 7) = .pointer (some ⟨g818, 0, none⟩) → a1581.eval (.tmp 8) = .pointer (some ⟨g820, 0, none⟩) → a1581.eval (.tmp 65) = .agg #[.int .i64 (sb p1.1 b3.1.1), .int .i64 (sb q2.1 p1.1), .int .i64 (sb b3.2.1 p1.1), .int .i64 (sb p1.1 q2.1), .int .i64 (sb p1.2 b3.1.2), .int .i64 (sb q2.2 p1.2), .int .i64 (sb b3.2.2 p1.2), .int .i64 (sb p1.2 q2.2)] → a1581.eval (.tmp 66) = .int .i64 x1087 → Evo [] (fun _ => 0) own1581 w w1581 → BlkO own1581 1577 w1581 g818 65 #[.int .i64 first1578.1, .int .i64 first1578.2] → BlkO own1581 1579 w1581 g820 65 #[.int .i64 last1580.1, .int .i64 last1580.2] → lineclip_inside_k2 x1087 first1578 last1580 = some zz1348 → (Q1551 .normal a1581 w1581 ∧ Q1551 (.exit 2) a1581 w1581) := by
        intro a1581 w1581 own1581 first1578 last1580 hd1582 hz1582 e1582_7 e1582_8 e1582_65 e1582_66 hE1582 b1582_g818 b1582_g820 hs
        refine and_both (hn1551 _ _) (hx1551 _ _) ?_
        refine hn1481 _ _ ?_
        refine hn1353 _ _ ?_
        refine rg_plain (n := 101) (rs := []) (own0 := own1581) (K := [])
            (bs := [0, 1])
            (ds := [⟨[], [66], [], Fct.val 97 (.int .i64 (ad x1087 1))⟩,
            ⟨[0], [], [], Fct.val 66 (.int .i64 (ad x1087 1))⟩]) (by kernel_rfl) hz1582 hd1582 (fun _ h => nomatch h) ?_ ?_
        · refine steps_cons (fun own a wx hf hsl hE => ?_) ?_
          · obtain ⟨s_66, -⟩ := hsl
            exact sg_plain rfl rfl (or_add (s_66.trans e1582_66) rfl rfl)
          refine steps_cons (fun own a wx hf hsl hE => ?_) ?_
          · obtain ⟨(f_97 : a.eval (.tmp 97) = .int .i64 (ad x1087 1)), -⟩ := hf
            exact sg_plain rfl rfl (or_move f_97)
          exact steps_nil
        intro own1583 a1583 w1583 hd1583 hz1583 hk1583 hf1583 hE1583
        have e1583_7 : a1583.eval (.tmp 7) = .pointer (some ⟨g818, 0, none⟩) := (hk1583 7 rfl).trans e1582_7
        have e1583_8 : a1583.eval (.tmp 8) = .pointer (some ⟨g820, 0, none⟩) := (hk1583 8 rfl).trans e1582_8
        have e1583_65 : a1583.eval (.tmp 65) = .agg #[.int .i64 (sb p1.1 b3.1.1), .int .i64 (sb q2.1 p1.1), .int .i64 (sb b3.2.1 p1.1), .int .i64 (sb p1.1 q2.1), .int .i64 (sb p1.2 b3.1.2), .int .i64 (sb q2.2 p1.2), .int .i64 (sb b3.2.2 p1.2), .int .i64 (sb p1.2 q2.2)] := (hk1583 65 rfl).trans e1582_65
        obtain ⟨(f_66 : a1583.eval (.tmp 66) = .int .i64 (ad x1087 1)), -⟩ := hf1583 [1] rfl
        have e1583_66 := f_66
        have hX1583 := Evo.step hE1582 (fun _ => Nat.le_refl 0) hE1583 rfl
        have b1583_g818 := BlkO.evo (by decide) hE1583 b1582_g818
        have b1583_g820 := BlkO.evo (by decide) hE1583 b1582_g820
        exact hn1348 _ _ _ hs ⟨(rl [(1577, 1083), (1579, 1085)] own1583), hd1583, hz1583, e1583_7, e1583_8, e1583_65, e1583_66, (Evo.rl_ hX1583 (fun _ => Nat.le_refl 0) rfl), (BlkO.rl_ (mm := [(1577, 1083), (1579, 1085)]) b1583_g818), (BlkO.rl_ (mm := [(1577, 1083), (1579, 1085)]) b1583_g820)⟩
      refine rg_plain_seq (n := 101) (rs := []) (own0 := own1550) (K := [])
          (bs := [0, 1, 3])
          (ds := [⟨[], [12], [], Fct.val 82 (.int .i64 x1545.2)⟩,
          ⟨[0], [], [], Fct.val 83 (.bool (decide (x1545.2 = 0)))⟩,
          ⟨[1], [], [], Fct.val 81 (.bool (decide (x1545.2 = 0)))⟩]) (by kernel_rfl) hz1550 hd1550 (fun _ h => nomatch h) ?_ ?_
      · refine steps_cons (fun own a wx hf hsl hE => ?_) ?_
        · obtain ⟨s_12, -⟩ := hsl
          exact sg_plain rfl rfl (or_move (s_12.trans e1550_12))
        refine steps_cons (fun own a wx hf hsl hE => ?_) ?_
        · obtain ⟨(f_82 : a.eval (.tmp 82) = .int .i64 x1545.2), -⟩ := hf
          exact sg_plain rfl rfl (or_eql f_82 rfl rfl)
        refine steps_cons (fun own a wx hf hsl hE => ?_) ?_
        · obtain ⟨(f_83 : a.eval (.tmp 83) = .bool (decide (x1545.2 = 0))), -⟩ := hf
          exact sg_plain rfl rfl (or_assign f_83)
        exact steps_nil
      intro own1584 a1584 w1584 hd1584 hz1584 hk1584 hf1584 hE1584
      have e1584_7 : a1584.eval (.tmp 7) = .pointer (some ⟨g818, 0, none⟩) := (hk1584 7 rfl).trans e1550_7
      have e1584_8 : a1584.eval (.tmp 8) = .pointer (some ⟨g820, 0, none⟩) := (hk1584 8 rfl).trans e1550_8
      have e1584_11 : a1584.eval (.tmp 11) = .int .i64 x1545.1 := (hk1584 11 rfl).trans e1550_11
      have e1584_12 : a1584.eval (.tmp 12) = .int .i64 x1545.2 := (hk1584 12 rfl).trans e1550_12
      have e1584_65 : a1584.eval (.tmp 65) = .agg #[.int .i64 (sb p1.1 b3.1.1), .int .i64 (sb q2.1 p1.1), .int .i64 (sb b3.2.1 p1.1), .int .i64 (sb p1.1 q2.1), .int .i64 (sb p1.2 b3.1.2), .int .i64 (sb q2.2 p1.2), .int .i64 (sb b3.2.2 p1.2), .int .i64 (sb p1.2 q2.2)] := (hk1584 65 rfl).trans e1550_65
      have e1584_66 : a1584.eval (.tmp 66) = .int .i64 x1087 := (hk1584 66 rfl).trans e1550_66
      obtain ⟨(f_81 : a1584.eval (.tmp 81) = .bool (decide (x1545.2 = 0))), -⟩ := hf1584 [2] rfl
      have e1584_81 := f_81
      have hX1584 := Evo.step hX1550 (fun _ => Nat.le_refl 0) hE1584 rfl
      have b1584_g818 := BlkO.evo (by decide) hE1584 b1550_g818
      have b1584_g820 := BlkO.evo (by decide) hE1584 b1550_g820
      refine fl_cond e1584_81 hs (fun c1585 hs => ?_) (fun c1585 hs => ?_)
      · refine rg_plain_seq (n := 101) (rs := []) (own0 := own1584) (K := [])
            (bs := [0, 1])
            (ds := [⟨[], [11], [], Fct.val 84 (.int .i64 x1545.1)⟩,
            ⟨[0], [], [], Fct.val 85 (.bool (decide (x1545.1 ≤ 0)))⟩]) (by kernel_rfl) hz1584 hd1584 (fun _ h => nomatch h) ?_ ?_
        · refine steps_cons (fun own a wx hf hsl hE => ?_) ?_
          · obtain ⟨s_11, -⟩ := hsl
            exact sg_plain rfl rfl (or_move (s_11.trans e1584_11))
          refine steps_cons (fun own a wx hf hsl hE => ?_) ?_
          · obtain ⟨(f_84 : a.eval (.tmp 84) = .int .i64 x1545.1), -⟩ := hf
            exact sg_plain rfl rfl (or_leq f_84 rfl rfl)
          exact steps_nil
        intro own1586 a1586 w1586 hd1586 hz1586 hk1586 hf1586 hE1586
        have e1586_7 : a1586.eval (.tmp 7) = .pointer (some ⟨g818, 0, none⟩) := (hk1586 7 rfl).trans e1584_7
        have e1586_8 : a1586.eval (.tmp 8) = .pointer (some ⟨g820, 0, none⟩) := (hk1586 8 rfl).trans e1584_8
        have e1586_65 : a1586.eval (.tmp 65) = .agg #[.int .i64 (sb p1.1 b3.1.1), .int .i64 (sb q2.1 p1.1), .int .i64 (sb b3.2.1 p1.1), .int .i64 (sb p1.1 q2.1), .int .i64 (sb p1.2 b3.1.2), .int .i64 (sb q2.2 p1.2), .int .i64 (sb b3.2.2 p1.2), .int .i64 (sb p1.2 q2.2)] := (hk1586 65 rfl).trans e1584_65
        have e1586_66 : a1586.eval (.tmp 66) = .int .i64 x1087 := (hk1586 66 rfl).trans e1584_66
        obtain ⟨(f_85 : a1586.eval (.tmp 85) = .bool (decide (x1545.1 ≤ 0))), -⟩ := hf1586 [1] rfl
        have e1586_85 := f_85
        have hX1586 := Evo.step hX1584 (fun _ => Nat.le_refl 0) hE1586 rfl
        have b1586_g818 := BlkO.evo (by decide) hE1586 b1584_g818
        have b1586_g820 := BlkO.evo (by decide) hE1586 b1584_g820
        refine fl_cond e1586_85 hs (fun c1587 hs => ?_) (fun c1587 hs => ?_)
        · refine rg_plain_seq (n := 101) (rs := []) (own0 := own1586) (K := [])
              (bs := [0])
              (ds := [⟨[], [], [], Fct.val 6 (.bool false)⟩]) (by kernel_rfl) hz1586 hd1586 (fun _ h => nomatch h) ?_ ?_
          · refine steps_cons (fun own a wx hf hsl hE => ?_) ?_
            · exact sg_plain rfl rfl (or_assign rfl)
            exact steps_nil
          intro own1588 a1588 w1588 hd1588 hz1588 hk1588 hf1588 hE1588
          obtain ⟨(f_6 : a1588.eval (.tmp 6) = .bool false), -⟩ := hf1588 [0] rfl
          have e1588_6 := f_6
          have hX1588 := Evo.step hX1586 (fun _ => Nat.le_refl 0) hE1588 rfl
          refine fl_ret ?_
          refine hp1551 _ _ _ rfl ?_
          refine hp1481 _ _ _ rfl ?_
          refine hp1353 _ _ _ rfl ?_
          replace hs := hz1348 _ hs
          refine hp1348 _ _ _ rfl ?_
          refine hp827 _ _ _ rfl ?_
          refine hp825 _ _ _ rfl ?_
          obtain rfl := osome hs
          exact hret _ _ _ _ (.inl rfl) hd1588 (results1_ rfl (RVal.tmp_ e1588_6)) ⟨own1588, rfl, hX1588⟩
        refine fl_skip ?_
        exact (K1581 _ _ (rl [(1083, 1577), (1085, 1579)] own1586) first1084 last1086 hd1586 hz1586 e1586_7 e1586_8 e1586_65 e1586_66 (Evo.rl_ hX1586 (fun _ => Nat.le_refl 0) rfl) (BlkO.rl_ (mm := [(1083, 1577), (1085, 1579)]) b1586_g818) (BlkO.rl_ (mm := [(1083, 1577), (1085, 1579)]) b1586_g820) hs).1
      refine rg_plain_seq (n := 101) (rs := []) (own0 := own1584) (K := [])
          (bs := [0, 1, 3])
          (ds := [⟨[], [12], [], Fct.val 87 (.int .i64 x1545.2)⟩,
          ⟨[0], [], [], Fct.val 88 (.bool (decide (0 < x1545.2)))⟩,
          ⟨[1], [], [], Fct.val 86 (.bool (decide (0 < x1545.2)))⟩]) (by kernel_rfl) hz1584 hd1584 (fun _ h => nomatch h) ?_ ?_
      · refine steps_cons (fun own a wx hf hsl hE => ?_) ?_
        · obtain ⟨s_12, -⟩ := hsl
          exact sg_plain rfl rfl (or_move (s_12.trans e1584_12))
        refine steps_cons (fun own a wx hf hsl hE => ?_) ?_
        · obtain ⟨(f_87 : a.eval (.tmp 87) = .int .i64 x1545.2), -⟩ := hf
          exact sg_plain rfl rfl (or_gtr f_87 rfl rfl)
        refine steps_cons (fun own a wx hf hsl hE => ?_) ?_
        · obtain ⟨(f_88 : a.eval (.tmp 88) = .bool (decide (0 < x1545.2))), -⟩ := hf
          exact sg_plain rfl rfl (or_assign f_88)
        exact steps_nil
      intro own1589 a1589 w1589 hd1589 hz1589 hk1589 hf1589 hE1589
      have e1589_7 : a1589.eval (.tmp 7) = .pointer (some ⟨g818, 0, none⟩) := (hk1589 7 rfl).trans e1584_7
      have e1589_8 : a1589.eval (.tmp 8) = .pointer (some ⟨g820, 0, none⟩) := (hk1589 8 rfl).trans e1584_8
      have e1589_11 : a1589.eval (.tmp 11) = .int .i64 x1545.1 := (hk1589 11 rfl).trans e1584_11
      have e1589_12 : a1589.eval (.tmp 12) = .int .i64 x1545.2 := (hk1589 12 rfl).trans e1584_12
      have e1589_65 : a1589.eval (.tmp 65) = .agg #[.int .i64 (sb p1.1 b3.1.1), .int .i64 (sb q2.1 p1.1), .int .i64 (sb b3.2.1 p1.1), .int .i64 (sb p1.1 q2.1), .int .i64 (sb p1.2 b3.1.2), .int .i64 (sb q2.2 p1.2), .int .i64 (sb b3.2.2 p1.2), .int .i64 (sb p1.2 q2.2)] := (hk1589 65 rfl).trans e1584_65
      have e1589_66 : a1589.eval (.tmp 66) = .int .i64 x1087 := (hk1589 66 rfl).trans e1584_66
      obtain ⟨(f_86 : a1589.eval (.tmp 86) = .bool (decide (0 < x1545.2))), -⟩ := hf1589 [2] rfl
      have e1589_86 := f_86
      have hX1589 := Evo.step hX1584 (fun _ => Nat.le_refl 0) hE1589 rfl
      have b1589_g818 := BlkO.evo (by decide) hE1589 b1584_g818
      have b1589_g820 := BlkO.evo (by decide) hE1589 b1584_g820
      refine fl_cond e1589_86 hs (fun c1590 hs => ?_) (fun c1590 hs => ?_)
      · refine rg_plain_seq (n := 101) (rs := []) (own0 := own1589) (K := [1592])
            (bs := [0, 1, 0, 7, 0, 31])
            (ds := [⟨[], [11], [], Fct.val 89 (.int .i64 x1545.1)⟩,
            ⟨[0], [], [], Fct.val 90 (.int .i64 (ng x1545.1))⟩,
            ⟨[], [12], [], Fct.val 91 (.int .i64 x1545.2)⟩,
            ⟨[1, 2], [], [], Fct.val 92 (.agg #[.int .i64 (ng x1545.1), .int .i64 x1545.2])⟩,
            ⟨[], [], [], Fct.blk 1592 13 (fun g => .pointer (some ⟨g, 0, none⟩)) 65 #[.int .i64 0, .int .i64 0]⟩,
            ⟨[4, 3], [], [1592], Fct.blk 1593 13 (fun g => .pointer (some ⟨g, 0, none⟩)) 65 #[.int .i64 (ng x1545.1), .int .i64 x1545.2]⟩]) (by kernel_rfl) hz1589 hd1589 (fun _ h => nomatch h) ?_ ?_
        · refine steps_cons (fun own a wx hf hsl hE => ?_) ?_
          · obtain ⟨s_11, -⟩ := hsl
            exact sg_plain rfl rfl (or_move (s_11.trans e1589_11))
          refine steps_cons (fun own a wx hf hsl hE => ?_) ?_
          · obtain ⟨(f_89 : a.eval (.tmp 89) = .int .i64 x1545.1), -⟩ := hf
            exact sg_plain rfl rfl (or_neg f_89 rfl)
          refine steps_cons (fun own a wx hf hsl hE => ?_) ?_
          · obtain ⟨s_12, -⟩ := hsl
            exact sg_plain rfl rfl (or_move (s_12.trans e1589_12))
          refine steps_cons (fun own a wx hf hsl hE => ?_) ?_
          · obtain ⟨(f_90 : a.eval (.tmp 90) = .int .i64 (ng x1545.1)), (f_91 : a.eval (.tmp 91) = .int .i64 x1545.2), -⟩ := hf
            exact sg_plain rfl rfl (or_k [(90, .int .i64 (ng x1545.1)), (91, .int .i64 x1545.2)] rfl rfl ⟨f_90, f_91, trivial⟩ (by kernel_rfl))
          refine steps_cons (fun own a wx hf hsl hE => ?_) ?_
          · exact sg_plain rfl rfl (or_new [] rfl rfl trivial (by kernel_rfl))
          refine steps_cons (fun own a wx hf hsl hE => ?_) ?_
          · obtain ⟨⟨g1591, (f_13 : a.eval (.tmp 13) = .pointer (some ⟨g1591, 0, none⟩)), (b_g1591 : BlkO own 1592 wx g1591 65 #[.int .i64 0, .int .i64 0])⟩, (f_92 : a.eval (.tmp 92) = .agg #[.int .i64 (ng x1545.1), .int .i64 x1545.2]), -⟩ := hf
            exact sg_plain rfl rfl (or_store (l := #[.int .i64 (ng x1545.1), .int .i64 x1545.2]) (lab := 1592) (lab2 := 1593) ts65 f_13 f_92 b_g1591 (by simp) (by kernel_rfl) (mem_of rfl) (by decide) (by kernel_rfl) (fun own' a' w' ha hb => ⟨_, (ha 13).trans f_13, hb⟩))
          exact steps_nil
        intro own1594 a1594 w1594 hd1594 hz1594 hk1594 hf1594 hE1594
        have e1594_7 : a1594.eval (.tmp 7) = .pointer (some ⟨g818, 0, none⟩) := (hk1594 7 rfl).trans e1589_7
        have e1594_8 : a1594.eval (.tmp 8) = .pointer (some ⟨g820, 0, none⟩) := (hk1594 8 rfl).trans e1589_8
        have e1594_65 : a1594.eval (.tmp 65) = .agg #[.int .i64 (sb p1.1 b3.1.1), .int .i64 (sb q2.1 p1.1), .int .i64 (sb b3.2.1 p1.1), .int .i64 (sb p1.1 q2.1), .int .i64 (sb p1.2 b3.1.2), .int .i64 (sb q2.2 p1.2), .int .i64 (sb b3.2.2 p1.2), .int .i64 (sb p1.2 q2.2)] := (hk1594 65 rfl).trans e1589_65
        have e1594_66 : a1594.eval (.tmp 66) = .int .i64 x1087 := (hk1594 66 rfl).trans e1589_66
        obtain ⟨⟨g1591, (f_13 : a1594.eval (.tmp 13) = .pointer (some ⟨g1591, 0, none⟩)), (b_g1591 : BlkO own1594 1593 w1594 g1591 65 #[.int .i64 (ng x1545.1), .int .i64 x1545.2])⟩, -⟩ := hf1594 [5] rfl
        have e1594_13 := f_13
        have hX1594 := Evo.step hX1589 (fun _ => Nat.le_refl 0) hE1594 rfl
        have b1594_g818 := BlkO.evo (by decide) hE1594 b1589_g818
        have b1594_g820 := BlkO.evo (by decide) hE1594 b1589_g820
        have b1594_g1591 := b_g1591
        obtain ⟨r1595, hr1595, hs⟩ := obind hs
        refine rg_plain_seq (n := 101) (rs := []) (own0 := own1594) (K := [])
            (bs := [0, 0, 3])
            (ds := [⟨[], [7], [], Fct.val 93 (.agg #[.int .i64 first1084.1, .int .i64 first1084.2])⟩,
            ⟨[], [13], [], Fct.val 94 (.agg #[.int .i64 (ng x1545.1), .int .i64 x1545.2])⟩,
            ⟨[0, 1], [], [], Fct.val 95 (.bool r1595)⟩]) (by kernel_rfl) hz1594 hd1594 (fun _ h => nomatch h) ?_ ?_
        · refine steps_cons (fun own a wx hf hsl hE => ?_) ?_
          · obtain ⟨s_7, -⟩ := hsl
            exact sg_plain rfl rfl (or_load (l := [.int .i64 first1084.1, .int .i64 first1084.2]) ta65 (s_7.trans e1594_7) (Blk.cellsFrom (BlkO.evo (by decide) hE b1594_g818).2 0 rfl) rfl)
          refine steps_cons (fun own a wx hf hsl hE => ?_) ?_
          · obtain ⟨s_13, -⟩ := hsl
            exact sg_plain rfl rfl (or_load (l := [.int .i64 (ng x1545.1), .int .i64 x1545.2]) ta65 (s_13.trans e1594_13) (Blk.cellsFrom (BlkO.evo (by decide) hE b1594_g1591).2 0 rfl) rfl)
          refine steps_cons (fun own a wx hf hsl hE => ?_) ?_
          · obtain ⟨(f_93 : a.eval (.tmp 93) = .agg #[.int .i64 first1084.1, .int .i64 first1084.2]), (f_94 : a.eval (.tmp 94) = .agg #[.int .i64 (ng x1545.1), .int .i64 x1545.2]), -⟩ := hf
            exact sg_plain rfl rfl (or_call cf39 (args2 f_93 f_94) (lineclip_less_w _ first1084 (ng x1545.1, x1545.2)  r1595 hr1595) post_val)
          exact steps_nil
        intro own1596 a1596 w1596 hd1596 hz1596 hk1596 hf1596 hE1596
        have e1596_7 : a1596.eval (.tmp 7) = .pointer (some ⟨g818, 0, none⟩) := (hk1596 7 rfl).trans e1594_7
        have e1596_8 : a1596.eval (.tmp 8) = .pointer (some ⟨g820, 0, none⟩) := (hk1596 8 rfl).trans e1594_8
        have e1596_13 : a1596.eval (.tmp 13) = .pointer (some ⟨g1591, 0, none⟩) := (hk1596 13 rfl).trans e1594_13
        have e1596_65 : a1596.eval (.tmp 65) = .agg #[.int .i64 (sb p1.1 b3.1.1), .int .i64 (sb q2.1 p1.1), .int .i64 (sb b3.2.1 p1.1), .int .i64 (sb p1.1 q2.1), .int .i64 (sb p1.2 b3.1.2), .int .i64 (sb q2.2 p1.2), .int .i64 (sb b3.2.2 p1.2), .int .i64 (sb p1.2 q2.2)] := (hk1596 65 rfl).trans e1594_65
        have e1596_66 : a1596.eval (.tmp 66) = .int .i64 x1087 := (hk1596 66 rfl).trans e1594_66
        obtain ⟨(f_95 : a1596.eval (.tmp 95) = .bool r1595), -⟩ := hf1596 [2] rfl
        have e1596_95 := f_95
        have hX1596 := Evo.step hX1594 (fun _ => Nat.le_refl 0) hE1596 rfl
        have b1596_g818 := BlkO.evo (by decide) hE1596 b1594_g818
        have b1596_g820 := BlkO.evo (by decide) hE1596 b1594_g820
        have b1596_g1591 := BlkO.evo (by decide) hE1596 b1594_g1591
        refine fl_cond e1596_95 hs (fun c1597 hs => ?_) (fun c1597 hs => ?_)
        · refine rg_plain (n := 101) (rs := [Fct.at_ 1083 g818 65 #[.int .i64 first1084.1, .int .i64 first1084.2]]) (own0 := own1596) (K := [1083])
              (bs := [0, 1])
              (ds := [⟨[], [13], [], Fct.val 96 (.agg #[.int .i64 (ng x1545.1), .int .i64 x1545.2])⟩,
              ⟨[0, 2], [7], [1083], Fct.at_ 1598 g818 65 #[.int .i64 (ng x1545.1), .int .i64 x1545.2]⟩]) (by kernel_rfl) hz1596 hd1596 (by simp only [List.forall_mem_cons]; exact ⟨b1596_g818, fun _ h => nomatch h⟩) ?_ ?_
          · refine steps_cons (fun own a wx hf hsl hE => ?_) ?_
            · obtain ⟨s_13, -⟩ := hsl
              exact sg_plain rfl rfl (or_load (l := [.int .i64 (ng x1545.1), .int .i64 x1545.2]) ta65 (s_13.trans e1596_13) (Blk.cellsFrom (BlkO.evo (by decide) hE b1596_g1591).2 0 rfl) rfl)
            refine steps_cons (fun own a wx hf hsl hE => ?_) ?_
            · obtain ⟨(f_96 : a.eval (.tmp 96) = .agg #[.int .i64 (ng x1545.1), .int .i64 x1545.2]), (b_g818 : BlkO own 1083 wx g818 65 #[.int .i64 first1084.1, .int .i64 first1084.2]), -⟩ := hf
              obtain ⟨s_7, -⟩ := hsl
              exact sg_plain rfl rfl (or_store (l := #[.int .i64 (ng x1545.1), .int .i64 x1545.2]) (lab := 1083) (lab2 := 1598) ts65 (s_7.trans e1596_7) f_96 b_g818 (by simp) (by kernel_rfl) (mem_of rfl) (by decide) (by kernel_rfl) (fun own' a' w' ha hb => hb))
            exact steps_nil
          intro own1599 a1599 w1599 hd1599 hz1599 hk1599 hf1599 hE1599
          have e1599_7 : a1599.eval (.tmp 7) = .pointer (some ⟨g818, 0, none⟩) := (hk1599 7 rfl).trans e1596_7
          have e1599_8 : a1599.eval (.tmp 8) = .pointer (some ⟨g820, 0, none⟩) := (hk1599 8 rfl).trans e1596_8
          have e1599_65 : a1599.eval (.tmp 65) = .agg #[.int .i64 (sb p1.1 b3.1.1), .int .i64 (sb q2.1 p1.1), .int .i64 (sb b3.2.1 p1.1), .int .i64 (sb p1.1 q2.1), .int .i64 (sb p1.2 b3.1.2), .int .i64 (sb q2.2 p1.2), .int .i64 (sb b3.2.2 p1.2), .int .i64 (sb p1.2 q2.2)] := (hk1599 65 rfl).trans e1596_65
          have e1599_66 : a1599.eval (.tmp 66) = .int .i64 x1087 := (hk1599 66 rfl).trans e1596_66
          obtain ⟨(b_g818 : BlkO own1599 1598 w1599 g818 65 #[.int .i64 (ng x1545.1), .int .i64 x1545.2]), -⟩ := hf1599 [1] rfl
          have hX1599 := Evo.step hX1596 (fun _ => Nat.le_refl 0) hE1599 rfl
          have b1599_g820 := BlkO.evo (by decide) hE1599 b1596_g820
          have b1599_g818 := b_g818
          exact (K1581 _ _ (rl [(1085, 1579), (1598, 1577)] own1599) (ng x1545.1, x1545.2) last1086 hd1599 hz1599 e1599_7 e1599_8 e1599_65 e1599_66 (Evo.rl_ hX1599 (fun _ => Nat.le_refl 0) rfl) (BlkO.rl_ (mm := [(1085, 1579), (1598, 1577)]) b1599_g818) (BlkO.rl_ (mm := [(1085, 1579), (1598, 1577)]) b1599_g820) hs).1
        refine fl_skip ?_
        exact (K1581 _ _ (rl [(1083, 1577), (1085, 1579)] own1596) first1084 last1086 hd1596 hz1596 e1596_7 e1596_8 e1596_65 e1596_66 (Evo.rl_ hX1596 (fun _ => Nat.le_refl 0) rfl) (BlkO.rl_ (mm := [(1083, 1577), (1085, 1579)]) b1596_g818) (BlkO.rl_ (mm := [(1083, 1577), (1085, 1579)]) b1596_g820) hs).1
      refine rg_plain_seq (n := 101) (rs := []) (own0 := own1589) (K := [1601])
          (bs := [0, 0, 2, 7, 0, 31])
          (ds := [⟨[], [11], [], Fct.val 73 (.int .i64 x1545.1)⟩,
          ⟨[], [12], [], Fct.val 74 (.int .i64 x1545.2)⟩,
          ⟨[1], [], [], Fct.val 75 (.int .i64 (ng x1545.2))⟩,
          ⟨[0, 2], [], [], Fct.val 76 (.agg #[.int .i64 x1545.1, .int .i64 (ng x1545.2)])⟩,
          ⟨[], [], [], Fct.blk 1601 14 (fun g => .pointer (some ⟨g, 0, none⟩)) 65 #[.int .i64 0, .int .i64 0]⟩,
          ⟨[4, 3], [], [1601], Fct.blk 1602 14 (fun g => .pointer (some ⟨g, 0, none⟩)) 65 #[.int .i64 x1545.1, .int .i64 (ng x1545.2)]⟩]) (by kernel_rfl) hz1589 hd1589 (fun _ h => nomatch h) ?_ ?_
      · refine steps_cons (fun own a wx hf hsl hE => ?_) ?_
        · obtain ⟨s_11, -⟩ := hsl
          exact sg_plain rfl rfl (or_move (s_11.trans e1589_11))
        refine steps_cons (fun own a wx hf hsl hE => ?_) ?_
        · obtain ⟨s_12, -⟩ := hsl
          exact sg_plain rfl rfl (or_move (s_12.trans e1589_12))
        refine steps_cons (fun own a wx hf hsl hE => ?_) ?_
        · obtain ⟨(f_74 : a.eval (.tmp 74) = .int .i64 x1545.2), -⟩ := hf
          exact sg_plain rfl rfl (or_neg f_74 rfl)
        refine steps_cons (fun own a wx hf hsl hE => ?_) ?_
        · obtain ⟨(f_73 : a.eval (.tmp 73) = .int .i64 x1545.1), (f_75 : a.eval (.tmp 75) = .int .i64 (ng x1545.2)), -⟩ := hf
          exact sg_plain rfl rfl (or_k [(73, .int .i64 x1545.1), (75, .int .i64 (ng x1545.2))] rfl rfl ⟨f_73, f_75, trivial⟩ (by kernel_rfl))
        refine steps_cons (fun own a wx hf hsl hE => ?_) ?_
        · exact sg_plain rfl rfl (or_new [] rfl rfl trivial (by kernel_rfl))
        refine steps_cons (fun own a wx hf hsl hE => ?_) ?_
        · obtain ⟨⟨g1600, (f_14 : a.eval (.tmp 14) = .pointer (some ⟨g1600, 0, none⟩)), (b_g1600 : BlkO own 1601 wx g1600 65 #[.int .i64 0, .int .i64 0])⟩, (f_76 : a.eval (.tmp 76) = .agg #[.int .i64 x1545.1, .int .i64 (ng x1545.2)]), -⟩ := hf
          exact sg_plain rfl rfl (or_store (l := #[.int .i64 x1545.1, .int .i64 (ng x1545.2)]) (lab := 1601) (lab2 := 1602) ts65 f_14 f_76 b_g1600 (by simp) (by kernel_rfl) (mem_of rfl) (by decide) (by kernel_rfl) (fun own' a' w' ha hb => ⟨_, (ha 14).trans f_14, hb⟩))
        exact steps_nil
      intro own1603 a1603 w1603 hd1603 hz1603 hk1603 hf1603 hE1603
      have e1603_7 : a1603.eval (.tmp 7) = .pointer (some ⟨g818, 0, none⟩) := (hk1603 7 rfl).trans e1589_7
      have e1603_8 : a1603.eval (.tmp 8) = .pointer (some ⟨g820, 0, none⟩) := (hk1603 8 rfl).trans e1589_8
      have e1603_65 : a1603.eval (.tmp 65) = .agg #[.int .i64 (sb p1.1 b3.1.1), .int .i64 (sb q2.1 p1.1), .int .i64 (sb b3.2.1 p1.1), .int .i64 (sb p1.1 q2.1), .int .i64 (sb p1.2 b3.1.2), .int .i64 (sb q2.2 p1.2), .int .i64 (sb b3.2.2 p1.2), .int .i64 (sb p1.2 q2.2)] := (hk1603 65 rfl).trans e1589_65
      have e1603_66 : a1603.eval (.tmp 66) = .int .i64 x1087 := (hk1603 66 rfl).trans e1589_66
      obtain ⟨⟨g1600, (f_14 : a1603.eval (.tmp 14) = .pointer (some ⟨g1600, 0, none⟩)), (b_g1600 : BlkO own1603 1602 w1603 g1600 65 #[.int .i64 x1545.1, .int .i64 (ng x1545.2)])⟩, -⟩ := hf1603 [5] rfl
      have e1603_14 := f_14
      have hX1603 := Evo.step hX1589 (fun _ => Nat.le_refl 0) hE1603 rfl
      have b1603_g818 := BlkO.evo (by decide) hE1603 b1589_g818
      have b1603_g820 := BlkO.evo (by decide) hE1603 b1589_g820
      have b1603_g1600 := b_g1600
      obtain ⟨r1604, hr1604, hs⟩ := obind hs
      refine rg_plain_seq (n := 101) (rs := []) (own0 := own1603) (K := [])
          (bs := [0, 0, 3])
          (ds := [⟨[], [14], [], Fct.val 77 (.agg #[.int .i64 x1545.1, .int .i64 (ng x1545.2)])⟩,
          ⟨[], [8], [], Fct.val 78 (.agg #[.int .i64 last1086.1, .int .i64 last1086.2])⟩,
          ⟨[0, 1], [], [], Fct.val 79 (.bool r1604)⟩]) (by kernel_rfl) hz1603 hd1603 (fun _ h => nomatch h) ?_ ?_
      · refine steps_cons (fun own a wx hf hsl hE => ?_) ?_
        · obtain ⟨s_14, -⟩ := hsl
          exact sg_plain rfl rfl (or_load (l := [.int .i64 x1545.1, .int .i64 (ng x1545.2)]) ta65 (s_14.trans e1603_14) (Blk.cellsFrom (BlkO.evo (by decide) hE b1603_g1600).2 0 rfl) rfl)
        refine steps_cons (fun own a wx hf hsl hE => ?_) ?_
        · obtain ⟨s_8, -⟩ := hsl
          exact sg_plain rfl rfl (or_load (l := [.int .i64 last1086.1, .int .i64 last1086.2]) ta65 (s_8.trans e1603_8) (Blk.cellsFrom (BlkO.evo (by decide) hE b1603_g820).2 0 rfl) rfl)
        refine steps_cons (fun own a wx hf hsl hE => ?_) ?_
        · obtain ⟨(f_77 : a.eval (.tmp 77) = .agg #[.int .i64 x1545.1, .int .i64 (ng x1545.2)]), (f_78 : a.eval (.tmp 78) = .agg #[.int .i64 last1086.1, .int .i64 last1086.2]), -⟩ := hf
          exact sg_plain rfl rfl (or_call cf39 (args2 f_77 f_78) (lineclip_less_w _ (x1545.1, ng x1545.2) last1086  r1604 hr1604) post_val)
        exact steps_nil
      intro own1605 a1605 w1605 hd1605 hz1605 hk1605 hf1605 hE1605
      have e1605_7 : a1605.eval (.tmp 7) = .pointer (some ⟨g818, 0, none⟩) := (hk1605 7 rfl).trans e1603_7
      have e1605_8 : a1605.eval (.tmp 8) = .pointer (some ⟨g820, 0, none⟩) := (hk1605 8 rfl).trans e1603_8
      have e1605_14 : a1605.eval (.tmp 14) = .pointer (some ⟨g1600, 0, none⟩) := (hk1605 14 rfl).trans e1603_14
      have e1605_65 : a1605.eval (.tmp 65) = .agg #[.int .i64 (sb p1.1 b3.1.1), .int .i64 (sb q2.1 p1.1), .int .i64 (sb b3.2.1 p1.1), .int .i64 (sb p1.1 q2.1), .int .i64 (sb p1.2 b3.1.2), .int .i64 (sb q2.2 p1.2), .int .i64 (sb b3.2.2 p1.2), .int .i64 (sb p1.2 q2.2)] := (hk1605 65 rfl).trans e1603_65
      have e1605_66 : a1605.eval (.tmp 66) = .int .i64 x1087 := (hk1605 66 rfl).trans e1603_66
      obtain ⟨(f_79 : a1605.eval (.tmp 79) = .bool r1604), -⟩ := hf1605 [2] rfl
      have e1605_79 := f_79
      have hX1605 := Evo.step hX1603 (fun _ => Nat.le_refl 0) hE1605 rfl
      have b1605_g818 := BlkO.evo (by decide) hE1605 b1603_g818
      have b1605_g820 := BlkO.evo (by decide) hE1605 b1603_g820
      have b1605_g1600 := BlkO.evo (by decide) hE1605 b1603_g1600
      refine fl_cond e1605_79 hs (fun c1606 hs => ?_) (fun c1606 hs => ?_)
      · refine rg_plain (n := 101) (rs := [Fct.at_ 1085 g820 65 #[.int .i64 last1086.1, .int .i64 last1086.2]]) (own0 := own1605) (K := [1085])
            (bs := [0, 1])
            (ds := [⟨[], [14], [], Fct.val 80 (.agg #[.int .i64 x1545.1, .int .i64 (ng x1545.2)])⟩,
            ⟨[0, 2], [8], [1085], Fct.at_ 1607 g820 65 #[.int .i64 x1545.1, .int .i64 (ng x1545.2)]⟩]) (by kernel_rfl) hz1605 hd1605 (by simp only [List.forall_mem_cons]; exact ⟨b1605_g820, fun _ h => nomatch h⟩) ?_ ?_
        · refine steps_cons (fun own a wx hf hsl hE => ?_) ?_
          · obtain ⟨s_14, -⟩ := hsl
            exact sg_plain rfl rfl (or_load (l := [.int .i64 x1545.1, .int .i64 (ng x1545.2)]) ta65 (s_14.trans e1605_14) (Blk.cellsFrom (BlkO.evo (by decide) hE b1605_g1600).2 0 rfl) rfl)
          refine steps_cons (fun own a wx hf hsl hE => ?_) ?_
          · obtain ⟨(f_80 : a.eval (.tmp 80) = .agg #[.int .i64 x1545.1, .int .i64 (ng x1545.2)]), (b_g820 : BlkO own 1085 wx g820 65 #[.int .i64 last1086.1, .int .i64 last1086.2]), -⟩ := hf
            obtain ⟨s_8, -⟩ := hsl
            exact sg_plain rfl rfl (or_store (l := #[.int .i64 x1545.1, .int .i64 (ng x1545.2)]) (lab := 1085) (lab2 := 1607) ts65 (s_8.trans e1605_8) f_80 b_g820 (by simp) (by kernel_rfl) (mem_of rfl) (by decide) (by kernel_rfl) (fun own' a' w' ha hb => hb))
          exact steps_nil
        intro own1608 a1608 w1608 hd1608 hz1608 hk1608 hf1608 hE1608
        have e1608_7 : a1608.eval (.tmp 7) = .pointer (some ⟨g818, 0, none⟩) := (hk1608 7 rfl).trans e1605_7
        have e1608_8 : a1608.eval (.tmp 8) = .pointer (some ⟨g820, 0, none⟩) := (hk1608 8 rfl).trans e1605_8
        have e1608_65 : a1608.eval (.tmp 65) = .agg #[.int .i64 (sb p1.1 b3.1.1), .int .i64 (sb q2.1 p1.1), .int .i64 (sb b3.2.1 p1.1), .int .i64 (sb p1.1 q2.1), .int .i64 (sb p1.2 b3.1.2), .int .i64 (sb q2.2 p1.2), .int .i64 (sb b3.2.2 p1.2), .int .i64 (sb p1.2 q2.2)] := (hk1608 65 rfl).trans e1605_65
        have e1608_66 : a1608.eval (.tmp 66) = .int .i64 x1087 := (hk1608 66 rfl).trans e1605_66
        obtain ⟨(b_g820 : BlkO own1608 1607 w1608 g820 65 #[.int .i64 x1545.1, .int .i64 (ng x1545.2)]), -⟩ := hf1608 [1] rfl
        have hX1608 := Evo.step hX1605 (fun _ => Nat.le_refl 0) hE1608 rfl
        have b1608_g818 := BlkO.evo (by decide) hE1608 b1605_g818
        have b1608_g820 := b_g820
        exact (K1581 _ _ (rl [(1083, 1577), (1607, 1579)] own1608) first1084 (x1545.1, ng x1545.2) hd1608 hz1608 e1608_7 e1608_8 e1608_65 e1608_66 (Evo.rl_ hX1608 (fun _ => Nat.le_refl 0) rfl) (BlkO.rl_ (mm := [(1083, 1577), (1607, 1579)]) b1608_g818) (BlkO.rl_ (mm := [(1083, 1577), (1607, 1579)]) b1608_g820) hs).1
      refine fl_skip ?_
      exact (K1581 _ _ (rl [(1083, 1577), (1085, 1579)] own1605) first1084 last1086 hd1605 hz1605 e1605_7 e1605_8 e1605_65 e1605_66 (Evo.rl_ hX1605 (fun _ => Nat.le_refl 0) rfl) (BlkO.rl_ (mm := [(1083, 1577), (1085, 1579)]) b1605_g818) (BlkO.rl_ (mm := [(1083, 1577), (1085, 1579)]) b1605_g820) hs).1
    refine fl_exit ?_
    refine hp1351 _ _ _ rfl ?_
    replace hs := hz1348 _ hs
    refine hp1348 _ _ _ rfl ?_
    refine hx827 _ _ ?_
    refine hn825 _ _ ?_
    obtain ⟨r1609, hr1609, hs⟩ := obind hs
    refine rg_plain_seq (n := 101) (rs := []) (own0 := own1350) (K := [])
        (bs := [0, 0, 3, 7])
        (ds := [⟨[], [7], [], Fct.val 98 (.agg #[.int .i64 first1084.1, .int .i64 first1084.2])⟩,
        ⟨[], [8], [], Fct.val 99 (.agg #[.int .i64 last1086.1, .int .i64 last1086.2])⟩,
        ⟨[0, 1], [], [], Fct.val 100 (.bool r1609)⟩,
        ⟨[2], [], [], Fct.val 6 (.bool r1609)⟩]) (by kernel_rfl) hz1350 hd1350 (fun _ h => nomatch h) ?_ ?_
    · refine steps_cons (fun own a wx hf hsl hE => ?_) ?_
      · obtain ⟨s_7, -⟩ := hsl
        exact sg_plain rfl rfl (or_load (l := [.int .i64 first1084.1, .int .i64 first1084.2]) ta65 (s_7.trans e1350_7) (Blk.cellsFrom (BlkO.evo (by decide) hE b1350_g818).2 0 rfl) rfl)
      refine steps_cons (fun own a wx hf hsl hE => ?_) ?_
      · obtain ⟨s_8, -⟩ := hsl
        exact sg_plain rfl rfl (or_load (l := [.int .i64 last1086.1, .int .i64 last1086.2]) ta65 (s_8.trans e1350_8) (Blk.cellsFrom (BlkO.evo (by decide) hE b1350_g820).2 0 rfl) rfl)
      refine steps_cons (fun own a wx hf hsl hE => ?_) ?_
      · obtain ⟨(f_98 : a.eval (.tmp 98) = .agg #[.int .i64 first1084.1, .int .i64 first1084.2]), (f_99 : a.eval (.tmp 99) = .agg #[.int .i64 last1086.1, .int .i64 last1086.2]), -⟩ := hf
        exact sg_plain rfl rfl (or_call cf39 (args2 f_98 f_99) (lineclip_less_w _ first1084 last1086  r1609 hr1609) post_val)
      refine steps_cons (fun own a wx hf hsl hE => ?_) ?_
      · obtain ⟨(f_100 : a.eval (.tmp 100) = .bool r1609), -⟩ := hf
        exact sg_plain rfl rfl (or_assign f_100)
      exact steps_nil
    intro own1610 a1610 w1610 hd1610 hz1610 hk1610 hf1610 hE1610
    obtain ⟨(f_6 : a1610.eval (.tmp 6) = .bool r1609), -⟩ := hf1610 [3] rfl
    have e1610_6 := f_6
    have hX1610 := Evo.step hX1350 (fun _ => Nat.le_refl 0) hE1610 rfl
    refine fl_ret ?_
    obtain rfl := (osome hs).symm
    exact hret _ _ _ _ (.inl rfl) hd1610 (results1_ rfl (RVal.tmp_ e1610_6)) ⟨own1610, rfl, hX1610⟩

theorem lineclip_Meets_w (w : World) (l1 : List (Int × Int)) (Al1 : Option Addr) (cl1 : Nat) (b2 : (Int × Int) × (Int × Int)) (hl1 : RdO (fun _ => 0) [0] w R34 Al1 cl1 l1) (r : Bool) (hs : lineclip_Meets l1 b2 = some r) :
    Calls Try.prog 19 #[.slice Al1 l1.length cl1, .agg #[.int .i64 b2.1.1, .int .i64 b2.1.2, .int .i64 b2.2.1, .int .i64 b2.2.2]] w fun e w' => ∃ own' : Own, e = .returned (.bool r) ∧ Evo [] (fun _ => 0) own' w w' := by
  refine fl_enter (n := 52) rfl rfl rfl (Nat.le_of_ble_eq_true rfl) ?_
  intro a0 Q hd0 hz0 harg hret
  have ha0 := harg 0 _ rfl
  have ha1 := harg 1 _ rfl
  clear harg
  have hE0 : Evo [] (fun _ => 0) (fun _ => 0) w w := Evo.refl _ _ _
  refine rg_plain_seq (n := 52) (rs := []) (own0 := (fun _ => 0)) (K := [])
      (bs := [0, 0])
      (ds := [⟨[], [1], [], Fct.blk 87 3 (fun g => .pointer (some ⟨g, 0, none⟩)) 36 #[.int .i64 b2.1.1, .int .i64 b2.1.2, .int .i64 b2.2.1, .int .i64 b2.2.2]⟩,
      ⟨[], [], [], Fct.val 4 (.bool false)⟩]) (by kernel_rfl) hz0 hd0 (fun _ h => nomatch h) ?_ ?_
  · refine steps_cons (fun own a wx hf hsl hE => ?_) ?_
    · obtain ⟨s_1, -⟩ := hsl
      exact sg_plain rfl rfl (or_new [(1, .agg #[.int .i64 b2.1.1, .int .i64 b2.1.2, .int .i64 b2.2.1, .int .i64 b2.2.2])] rfl rfl ⟨(s_1.trans ha1), trivial⟩ (by kernel_rfl))
    refine steps_cons (fun own a wx hf hsl hE => ?_) ?_
    · exact sg_plain rfl rfl (or_assign rfl)
    exact steps_nil
  intro own88 a88 w88 hd88 hz88 hk88 hf88 hE88
  have e88_0 : a88.eval (.tmp 0) = .slice Al1 l1.length cl1 := (hk88 0 rfl).trans ha0
  obtain ⟨⟨g86, (f_3 : a88.eval (.tmp 3) = .pointer (some ⟨g86, 0, none⟩)), (b_g86 : BlkO own88 87 w88 g86 36 #[.int .i64 b2.1.1, .int .i64 b2.1.2, .int .i64 b2.2.1, .int .i64 b2.2.2])⟩, -⟩ := hf88 [0] rfl
  have e88_3 := f_3
  have hX88 := Evo.step hE0 (fun _ => Nat.le_refl 0) hE88 rfl
  have b88_Al1 := RdO.evo rfl hE88 hl1
  have b88_g86 := b_g86
  refine fl_seq (fun Q89 hn89 hp89 => ?_)
  refine rg_plain_seq (n := 52) (rs := []) (own0 := own88) (K := [])
      (bs := [0])
      (ds := [⟨[], [], [], Fct.val 5 (.int .i64 1)⟩]) (by kernel_rfl) hz88 hd88 (fun _ h => nomatch h) ?_ ?_
  · refine steps_cons (fun own a wx hf hsl hE => ?_) ?_
    · exact sg_plain rfl rfl (or_assign rfl)
    exact steps_nil
  intro own90 a90 w90 hd90 hz90 hk90 hf90 hE90
  have e90_0 : a90.eval (.tmp 0) = .slice Al1 l1.length cl1 := (hk90 0 rfl).trans e88_0
  have e90_3 : a90.eval (.tmp 3) = .pointer (some ⟨g86, 0, none⟩) := (hk90 3 rfl).trans e88_3
  obtain ⟨(f_5 : a90.eval (.tmp 5) = .int .i64 1), -⟩ := hf90 [0] rfl
  have e90_5 := f_5
  have hX90 := Evo.step hX88 (fun _ => Nat.le_refl 0) hE90 rfl
  have b90_Al1 := RdO.evo rfl hE90 b88_Al1
  have b90_g86 := BlkO.evo (by decide) hE90 b88_g86
  refine fl_block (fun Q91 hn91 hx91 hp91 => ?_)
  refine fl_loop (body := (fun s => lineclip_Meets_b1 l1 b2 s)) (z := r) (show loopO _ _ = _ from hs) (fun (i114 : Int) a wx => ∃ (ox : Own), a.defers = [] ∧ a.tmps.size = 52 ∧ a.eval (.tmp 0) = .slice Al1 l1.length cl1 ∧ a.eval (.tmp 3) = .pointer (some ⟨g86, 0, none⟩) ∧ a.eval (.tmp 5) = .int .i64 i114 ∧ Evo [] (fun _ => 0) ox w wx ∧ RdO ox [0] wx R34 Al1 cl1 l1 ∧ BlkO ox 87 wx g86 36 #[.int .i64 b2.1.1, .int .i64 b2.1.2, .int .i64 b2.2.1, .int .i64 b2.2.2]) ?_ ?_
  · exact ⟨own90, hd90, hz90, e90_0, e90_3, e90_5, hX90, b90_Al1, b90_g86⟩
  · rintro i114 zz137 a137 w137 ⟨own137, hd138, hz138, e138_0, e138_3, e138_5, hE138, b138_Al1, b138_g86⟩ hs Q137 hn137 hp137 hz137
    have hs : lineclip_Meets_b1 l1 b2 i114 = some zz137 := hs
    refine fl_seq (fun Q139 hn139 hp139 => ?_)
    refine rg_plain_seq (n := 52) (rs := []) (own0 := own137) (K := [])
        (bs := [0, 0, 2, 7])
        (ds := [⟨[], [5], [], Fct.val 6 (.int .i64 i114)⟩,
        ⟨[], [0], [], Fct.val 7 (.slice Al1 l1.length cl1)⟩,
        ⟨[1], [], [], Fct.val 8 (.int .i64 (l1.length : Int))⟩,
        ⟨[0, 2], [], [], Fct.val 9 (.bool (decide (i114 < (l1.length : Int))))⟩]) (by kernel_rfl) hz138 hd138 (fun _ h => nomatch h) ?_ ?_
    · refine steps_cons (fun own a wx hf hsl hE => ?_) ?_
      · obtain ⟨s_5, -⟩ := hsl
        exact sg_plain rfl rfl (or_move (s_5.trans e138_5))
      refine steps_cons (fun own a wx hf hsl hE => ?_) ?_
      · obtain ⟨s_0, -⟩ := hsl
        exact sg_plain rfl rfl (or_move (s_0.trans e138_0))
      refine steps_cons (fun own a wx hf hsl hE => ?_) ?_
      · obtain ⟨(f_7 : a.eval (.tmp 7) = .slice Al1 l1.length cl1), -⟩ := hf
        exact sg_plain rfl rfl (or_len tu24 f_7 rfl)
      refine steps_cons (fun own a wx hf hsl hE => ?_) ?_
      · obtain ⟨(f_6 : a.eval (.tmp 6) = .int .i64 i114), (f_8 : a.eval (.tmp 8) = .int .i64 (l1.length : Int)), -⟩ := hf
        exact sg_plain rfl rfl (or_lss f_6 f_8 rfl)
      exact steps_nil
    intro own140 a140 w140 hd140 hz140 hk140 hf140 hE140
    have e140_0 : a140.eval (.tmp 0) = .slice Al1 l1.length cl1 := (hk140 0 rfl).trans e138_0
    have e140_3 : a140.eval (.tmp 3) = .pointer (some ⟨g86, 0, none⟩) := (hk140 3 rfl).trans e138_3
    have e140_5 : a140.eval (.tmp 5) = .int .i64 i114 := (hk140 5 rfl).trans e138_5
    obtain ⟨(f_9 : a140.eval (.tmp 9) = .bool (decide (i114 < (l1.length : Int)))), -⟩ := hf140 [3] rfl
    have e140_9 := f_9
    have hX140 := Evo.step hE138 (fun _ => Nat.le_refl 0) hE140 rfl
    have b140_Al1 := RdO.evo rfl hE140 b138_Al1
    have b140_g86 := BlkO.evo (by decide) hE140 b138_g86
    refine fl_cond e140_9 hs (fun c141 hs => ?_) (fun c141 hs => ?_)
    · refine fl_skip ?_
      refine hn139 _ _ ?_
      refine fl_seq (fun Q142 hn142 hp142 => ?_)
      refine fl_block (fun Q143 hn143 hx143 hp143 => ?_)
      obtain ⟨x144, hx144, hs⟩ := obind hs
      obtain ⟨x145, hx145, hs⟩ := obind hs
      obtain ⟨x146, hx146, hs⟩ := obind hs
      obtain ⟨x147, hx147, hs⟩ := obind hs
      obtain ⟨r150, hr150, hs⟩ := obind hs
      obtain ⟨r151, hr151, hs⟩ := obind hs
      obtain ⟨x152, hx152, hs⟩ := obind hs
      obtain ⟨x153, hx153, hs⟩ := obind hs
      obtain ⟨x154, hx154, hs⟩ := obind hs
      obtain ⟨r155, hr155, hs⟩ := obind hs
      refine rg_draw_seq g_mixed (n := 52) (rs := []) (own0 := own140) (K := [])
          (bs := [0, 0, 2, 7, 15, 0, 0, 96, 224, 511, 1023, 2047, 2047, 6143, 16383, 32767, 2047, 2047, 198655, 460799, 1048575, 2097151, 4194303, 8388607, 16777215, 33554431, 67108863, 134217727, 268435455, 268435455, 805306367, 2147483647, 4294967295, 268435455, 268435455, 26038239231, 60397977599, 268435455, 274877906943, 549755813887])
          (ds := [⟨[], [0], [], Fct.val 12 (.slice Al1 l1.length cl1)⟩,
          ⟨[], [5], [], Fct.val 13 (.int .i64 i114)⟩,
          ⟨[1], [], [], Fct.val 14 (.int .i64 (sb i114 1))⟩,
          ⟨[0, 2], [], [], Fct.val 15 (.pointer (some ((adr Al1).add ((sb i114 1 : Int).toNat * R34.s))))⟩,
          ⟨[3], [], [], Fct.val 16 (.agg #[.int .i64 x144.1, .int .i64 x144.2])⟩,
          ⟨[], [0], [], Fct.val 17 (.slice Al1 l1.length cl1)⟩,
          ⟨[], [5], [], Fct.val 18 (.int .i64 i114)⟩,
          ⟨[5, 6], [], [], Fct.val 19 (.pointer (some ((adr Al1).add ((i114 : Int).toNat * R34.s))))⟩,
          ⟨[7], [], [], Fct.val 20 (.agg #[.int .i64 x145.1, .int .i64 x145.2])⟩,
          ⟨[4, 8], [], [], Fct.val 21 (.bool (!decide (x144 = x145)))⟩,
          ⟨[9], [], [], Fct.val 22 (.bool (!decide (x144 = x145)))⟩,
          ⟨[10], [0], [], Fct.cond (!decide (x144 = x145)) (some 23) (Fct.val 23 (.slice Al1 l1.length cl1))⟩,
          ⟨[10], [5], [], Fct.cond (!decide (x144 = x145)) (some 24) (Fct.val 24 (.int .i64 i114))⟩,
          ⟨[10, 12], [], [], Fct.cond (!decide (x144 = x145)) (some 25) (Fct.val 25 (.int .i64 (sb i114 1)))⟩,
          ⟨[10, 11, 13], [], [], Fct.cond (!decide (x144 = x145)) (some 26) (Fct.val 26 (.pointer (some ((adr Al1).add ((sb i114 1 : Int).toNat * R34.s)))))⟩,
          ⟨[10, 14], [], [], Fct.cond (!decide (x144 = x145)) (some 27) (Fct.val 27 (.agg #[.int .i64 x146.1, .int .i64 x146.2]))⟩,
          ⟨[10], [0], [], Fct.cond (!decide (x144 = x145)) (some 28) (Fct.val 28 (.slice Al1 l1.length cl1))⟩,
          ⟨[10], [5], [], Fct.cond (!decide (x144 = x145)) (some 29) (Fct.val 29 (.int .i64 i114))⟩,
          ⟨[10, 16, 17], [], [], Fct.cond (!decide (x144 = x145)) (some 30) (Fct.val 30 (.pointer (some ((adr Al1).add ((i114 : Int).toNat * R34.s)))))⟩,
          ⟨[10, 18], [], [], Fct.cond (!decide (x144 = x145)) (some 31) (Fct.val 31 (.agg #[.int .i64 x147.1, .int .i64 x147.2]))⟩,
          ⟨[10, 15, 19], [], [], Fct.cond (!decide (x144 = x145)) (some 32) (Fct.row 149 [] 32 34 R34 [x146, x147])⟩,
          ⟨[10, 20], [], [], Fct.cond (!decide (x144 = x145)) (some 33) (Fct.val 33 (.bool r150))⟩,
          ⟨[10, 21], [], [], Fct.val 34 (.bool ((!decide (x144 = x145)) && r150))⟩,
          ⟨[22], [], [], Fct.val 35 (.bool ((!decide (x144 = x145)) && r150))⟩,
          ⟨[23], [3], [], Fct.cond ((!decide (x144 = x145)) && r150) (some 36) (Fct.val 36 (.agg #[.int .i64 b2.1.1, .int .i64 b2.1.2, .int .i64 b2.2.1, .int .i64 b2.2.2]))⟩,
          ⟨[23, 24], [], [], Fct.cond ((!decide (x144 = x145)) && r150) (some 37) (Fct.val 37 (.bool r151))⟩,
          ⟨[23, 25], [], [], Fct.val 38 (.bool x152)⟩,
          ⟨[26], [], [], Fct.val 39 (.bool x152)⟩,
          ⟨[27], [0], [], Fct.cond x152 (some 40) (Fct.val 40 (.slice Al1 l1.length cl1))⟩,
          ⟨[27], [5], [], Fct.cond x152 (some 41) (Fct.val 41 (.int .i64 i114))⟩,
          ⟨[27, 29], [], [], Fct.cond x152 (some 42) (Fct.val 42 (.int .i64 (sb i114 1)))⟩,
          ⟨[27, 28, 30], [], [], Fct.cond x152 (some 43) (Fct.val 43 (.pointer (some ((adr Al1).add ((sb i114 1 : Int).toNat * R34.s)))))⟩,
          ⟨[27, 31], [], [], Fct.cond x152 (some 44) (Fct.val 44 (.agg #[.int .i64 x153.1, .int .i64 x153.2]))⟩,
          ⟨[27], [0], [], Fct.cond x152 (some 45) (Fct.val 45 (.slice Al1 l1.length cl1))⟩,
          ⟨[27], [5], [], Fct.cond x152 (some 46) (Fct.val 46 (.int .i64 i114))⟩,
          ⟨[27, 33, 34], [], [], Fct.cond x152 (some 47) (Fct.val 47 (.pointer (some ((adr Al1).add ((i114 : Int).toNat * R34.s)))))⟩,
          ⟨[27, 35], [], [], Fct.cond x152 (some 48) (Fct.val 48 (.agg #[.int .i64 x154.1, .int .i64 x154.2]))⟩,
          ⟨[27], [3], [], Fct.cond x152 (some 49) (Fct.val 49 (.agg #[.int .i64 b2.1.1, .int .i64 b2.1.2, .int .i64 b2.2.1, .int .i64 b2.2.2]))⟩,
          ⟨[27, 32, 36, 37], [], [], Fct.cond x152 (some 50) (Fct.val 50 (.bool r155))⟩,
          ⟨[27, 38], [], [], Fct.val 51 (.bool (x152 && r155))⟩]) (by kernel_rfl) hz140 hd140 (fun _ h => nomatch h) ?_ ?_
      · refine steps_cons (fun own a wx hf hsl hE => ?_) ?_
        · obtain ⟨s_0, -⟩ := hsl
          exact sg_plain rfl rfl (or_move (s_0.trans e140_0))
        refine steps_cons (fun own a wx hf hsl hE => ?_) ?_
        · obtain ⟨s_5, -⟩ := hsl
          exact sg_plain rfl rfl (or_move (s_5.trans e140_5))
        refine steps_cons (fun own a wx hf hsl hE => ?_) ?_
        · obtain ⟨(f_13 : a.eval (.tmp 13) = .int .i64 i114), -⟩ := hf
          exact sg_plain rfl rfl (or_sub f_13 rfl rfl)
        refine steps_cons (fun own a wx hf hsl hE => ?_) ?_
        · obtain ⟨(f_12 : a.eval (.tmp 12) = .slice Al1 l1.length cl1), (f_14 : a.eval (.tmp 14) = .int .i64 (sb i114 1)), -⟩ := hf
          exact sg_plain rfl rfl (or_index (R := R34) (l := l1) tl24 f_12 f_14 (RdO.some_ b140_Al1 hx144) hx144)
        refine steps_cons (fun own a wx hf hsl hE => ?_) ?_
        · obtain ⟨(f_15 : a.eval (.tmp 15) = .pointer (some ((adr Al1).add ((sb i114 1 : Int).toNat * R34.s)))), -⟩ := hf
          exact sg_plain rfl rfl (or_load (l := E34.f x144) ta34 f_15 (RdO.cells (F := E34) (RdO.evo rfl hE b140_Al1) hx144) rfl)
        refine steps_cons (fun own a wx hf hsl hE => ?_) ?_
        · obtain ⟨s_0, -⟩ := hsl
          exact sg_plain rfl rfl (or_move (s_0.trans e140_0))
        refine steps_cons (fun own a wx hf hsl hE => ?_) ?_
        · obtain ⟨s_5, -⟩ := hsl
          exact sg_plain rfl rfl (or_move (s_5.trans e140_5))
        refine steps_cons (fun own a wx hf hsl hE => ?_) ?_
        · obtain ⟨(f_17 : a.eval (.tmp 17) = .slice Al1 l1.length cl1), (f_18 : a.eval (.tmp 18) = .int .i64 i114), -⟩ := hf
          exact sg_plain rfl rfl (or_index (R := R34) (l := l1) tl24 f_17 f_18 (RdO.some_ b140_Al1 hx145) hx145)
        refine steps_cons (fun own a wx hf hsl hE => ?_) ?_
        · obtain ⟨(f_19 : a.eval (.tmp 19) = .pointer (some ((adr Al1).add ((i114 : Int).toNat * R34.s)))), -⟩ := hf
          exact sg_plain rfl rfl (or_load (l := E34.f x145) ta34 f_19 (RdO.cells (F := E34) (RdO.evo rfl hE b140_Al1) hx145) rfl)
        refine steps_cons (fun own a wx hf hsl hE => ?_) ?_
        · obtain ⟨(f_16 : a.eval (.tmp 16) = .agg #[.int .i64 x144.1, .int .i64 x144.2]), (f_20 : a.eval (.tmp 20) = .agg #[.int .i64 x145.1, .int .i64 x145.2]), -⟩ := hf
          exact sg_plain rfl rfl (or_neqA sg34 f_16 f_20 (sn34 x144.1 x144.2 x145.1 x145.2 _) rfl)
        refine steps_cons (fun own a wx hf hsl hE => ?_) ?_
        · obtain ⟨(f_21 : a.eval (.tmp 21) = .bool (!decide (x144 = x145))), -⟩ := hf
          exact sg_plain rfl rfl (or_move f_21)
        refine steps_cons (fun own a wx hf hsl hE => ?_) ?_
        · obtain ⟨(f_22 : a.eval (.tmp 22) = .bool (!decide (x144 = x145))), -⟩ := hf
          obtain ⟨s_0, -⟩ := hsl
          refine sg_t rfl rfl rfl f_22 (fun hg => ?_)
          exact or_move (s_0.trans e140_0)
        refine steps_cons (fun own a wx hf hsl hE => ?_) ?_
        · obtain ⟨(f_22 : a.eval (.tmp 22) = .bool (!decide (x144 = x145))), -⟩ := hf
          obtain ⟨s_5, -⟩ := hsl
          refine sg_t rfl rfl rfl f_22 (fun hg => ?_)
          exact or_move (s_5.trans e140_5)
        refine steps_cons (fun own a wx hf hsl hE => ?_) ?_
        · obtain ⟨(f_22 : a.eval (.tmp 22) = .bool (!decide (x144 = x145))), c_24, -⟩ := hf
          refine sg_t rfl rfl rfl f_22 (fun hg => ?_)
          have f_24 : a.eval (.tmp 24) = .int .i64 i114 := c_24.1 hg
          exact or_sub f_24 rfl rfl
        refine steps_cons (fun own a wx hf hsl hE => ?_) ?_
        · obtain ⟨(f_22 : a.eval (.tmp 22) = .bool (!decide (x144 = x145))), c_23, c_25, -⟩ := hf
          refine sg_t rfl rfl rfl f_22 (fun hg => ?_)
          have f_23 : a.eval (.tmp 23) = .slice Al1 l1.length cl1 := c_23.1 hg
          have f_25 : a.eval (.tmp 25) = .int .i64 (sb i114 1) := c_25.1 hg
          exact or_index (R := R34) (l := l1) tl24 f_23 f_25 (RdO.some_ b140_Al1 (gd_t hx146 hg)) (gd_t hx146 hg)
        refine steps_cons (fun own a wx hf hsl hE => ?_) ?_
        · obtain ⟨(f_22 : a.eval (.tmp 22) = .bool (!decide (x144 = x145))), c_26, -⟩ := hf
          refine sg_t rfl rfl rfl f_22 (fun hg => ?_)
          have f_26 : a.eval (.tmp 26) = .pointer (some ((adr Al1).add ((sb i114 1 : Int).toNat * R34.s))) := c_26.1 hg
          exact or_load (l := E34.f x146) ta34 f_26 (RdO.cells (F := E34) (RdO.evo rfl hE b140_Al1) (gd_t hx146 hg)) rfl
        refine steps_cons (fun own a wx hf hsl hE => ?_) ?_
        · obtain ⟨(f_22 : a.eval (.tmp 22) = .bool (!decide (x144 = x145))), -⟩ := hf
          obtain ⟨s_0, -⟩ := hsl
          refine sg_t rfl rfl rfl f_22 (fun hg => ?_)
          exact or_move (s_0.trans e140_0)
        refine steps_cons (fun own a wx hf hsl hE => ?_) ?_
        · obtain ⟨(f_22 : a.eval (.tmp 22) = .bool (!decide (x144 = x145))), -⟩ := hf
          obtain ⟨s_5, -⟩ := hsl
          refine sg_t rfl rfl rfl f_22 (fun hg => ?_)
          exact or_move (s_5.trans e140_5)
        refine steps_cons (fun own a wx hf hsl hE => ?_) ?_
        · obtain ⟨(f_22 : a.eval (.tmp 22) = .bool (!decide (x144 = x145))), c_28, c_29, -⟩ := hf
          refine sg_t rfl rfl rfl f_22 (fun hg => ?_)
          have f_28 : a.eval (.tmp 28) = .slice Al1 l1.length cl1 := c_28.1 hg
          have f_29 : a.eval (.tmp 29) = .int .i64 i114 := c_29.1 hg
          exact or_index (R := R34) (l := l1) tl24 f_28 f_29 (RdO.some_ b140_Al1 (gd_t hx147 hg)) (gd_t hx147 hg)
        refine steps_cons (fun own a wx hf hsl hE => ?_) ?_
        · obtain ⟨(f_22 : a.eval (.tmp 22) = .bool (!decide (x144 = x145))), c_30, -⟩ := hf
          refine sg_t rfl rfl rfl f_22 (fun hg => ?_)
          have f_30 : a.eval (.tmp 30) = .pointer (some ((adr Al1).add ((i114 : Int).toNat * R34.s))) := c_30.1 hg
          exact or_load (l := E34.f x147) ta34 f_30 (RdO.cells (F := E34) (RdO.evo rfl hE b140_Al1) (gd_t hx147 hg)) rfl
        refine steps_cons (fun own a wx hf hsl hE => ?_) ?_
        · obtain ⟨(f_22 : a.eval (.tmp 22) = .bool (!decide (x144 = x145))), c_27, c_31, -⟩ := hf
          refine sg_t rfl rfl rfl f_22 (fun hg => ?_)
          have f_27 : a.eval (.tmp 27) = .agg #[.int .i64 x146.1, .int .i64 x146.2] := c_27.1 hg
          have f_31 : a.eval (.tmp 31) = .agg #[.int .i64 x147.1, .int .i64 x147.2] := c_31.1 hg
          exact or_lit (lab := 149) (e := 34) (cs := #[.int .i64 x146.1, .int .i64 x146.2, .int .i64 x147.1, .int .i64 x147.2]) (F := E34) (or_new [(27, .agg #[.int .i64 x146.1, .int .i64 x146.2]), (31, .agg #[.int .i64 x147.1, .int .i64 x147.2])] rfl rfl ⟨f_27, f_31, trivial⟩ (by kernel_rfl)) rfl rfl (show 2 ≤ maxLen by decide)
        refine steps_cons (fun own a wx hf hsl hE => ?_) ?_
        · obtain ⟨(f_22 : a.eval (.tmp 22) = .bool (!decide (x144 = x145))), c_32, -⟩ := hf
          refine sg_t rfl rfl rfl f_22 (fun hg => ?_)
          obtain ⟨⟨A148, cA148⟩, (f_32 : a.eval (.tmp 32) = .slice A148 [x146, x147].length cA148), (b_A148 : RwO own 149 [] wx 34 R34 A148 cA148 [x146, x147])⟩ := c_32.1 hg
          exact or_call cf29 (args1 f_32) (exact_Right_w _ [x146, x147] A148 cA148 (RdO.zero (RwO.rd b_A148)) r150 (gd_t hr150 hg)) post_val
        refine steps_cons (fun own a wx hf hsl hE => ?_) ?_
        · obtain ⟨(f_22 : a.eval (.tmp 22) = .bool (!decide (x144 = x145))), c_33, -⟩ := hf
          exact sg_plain rfl rfl (or_and f_22 (fun hx => c_33.1 hx) rfl rfl)
        refine steps_cons (fun own a wx hf hsl hE => ?_) ?_
        · obtain ⟨(f_34 : a.eval (.tmp 34) = .bool ((!decide (x144 = x145)) && r150)), -⟩ := hf
          exact sg_plain rfl rfl (or_move f_34)
        refine steps_cons (fun own a wx hf hsl hE => ?_) ?_
        · obtain ⟨(f_35 : a.eval (.tmp 35) = .bool ((!decide (x144 = x145)) && r150)), -⟩ := hf
          obtain ⟨s_3, -⟩ := hsl
          refine sg_t rfl rfl rfl f_35 (fun hg => ?_)
          exact or_load (l := [.int .i64 b2.1.1, .int .i64 b2.1.2, .int .i64 b2.2.1, .int .i64 b2.2.2]) ta36 (s_3.trans e140_3) (Blk.cellsFrom (BlkO.evo (by decide) hE b140_g86).2 0 rfl) rfl
        refine steps_cons (fun own a wx hf hsl hE => ?_) ?_
        · obtain ⟨(f_35 : a.eval (.tmp 35) = .bool ((!decide (x144 = x145)) && r150)), c_36, -⟩ := hf
          refine sg_t rfl rfl rfl f_35 (fun hg => ?_)
          have f_36 : a.eval (.tmp 36) = .agg #[.int .i64 b2.1.1, .int .i64 b2.1.2, .int .i64 b2.2.1, .int .i64 b2.2.2] := c_36.1 hg
          exact or_call cf22 (args1 f_36) (rows_Right_w _ b2  r151 (gd_t hr151 hg)) post_val
        refine steps_cons (fun own a wx hf hsl hE => ?_) ?_
        · obtain ⟨(f_35 : a.eval (.tmp 35) = .bool ((!decide (x144 = x145)) && r150)), c_37, -⟩ := hf
          exact sg_plain rfl rfl (or_and f_35 (fun hx => c_37.1 hx) rfl (osome hx152).symm)
        refine steps_cons (fun own a wx hf hsl hE => ?_) ?_
        · obtain ⟨(f_38 : a.eval (.tmp 38) = .bool x152), -⟩ := hf
          exact sg_plain rfl rfl (or_move f_38)
        refine steps_cons (fun own a wx hf hsl hE => ?_) ?_
        · obtain ⟨(f_39 : a.eval (.tmp 39) = .bool x152), -⟩ := hf
          obtain ⟨s_0, -⟩ := hsl
          refine sg_t rfl rfl rfl f_39 (fun hg => ?_)
          exact or_move (s_0.trans e140_0)
        refine steps_cons (fun own a wx hf hsl hE => ?_) ?_
        · obtain ⟨(f_39 : a.eval (.tmp 39) = .bool x152), -⟩ := hf
          obtain ⟨s_5, -⟩ := hsl
          refine sg_t rfl rfl rfl f_39 (fun hg => ?_)
          exact or_move (s_5.trans e140_5)
        refine steps_cons (fun own a wx hf hsl hE => ?_) ?_
        · obtain ⟨(f_39 : a.eval (.tmp 39) = .bool x152), c_41, -⟩ := hf
          refine sg_t rfl rfl rfl f_39 (fun hg => ?_)
          have f_41 : a.eval (.tmp 41) = .int .i64 i114 := c_41.1 hg
          exact or_sub f_41 rfl rfl
        refine steps_cons (fun own a wx hf hsl hE => ?_) ?_
        · obtain ⟨(f_39 : a.eval (.tmp 39) = .bool x152), c_40, c_42, -⟩ := hf
          refine sg_t rfl rfl rfl f_39 (fun hg => ?_)
          have f_40 : a.eval (.tmp 40) = .slice Al1 l1.length cl1 := c_40.1 hg
          have f_42 : a.eval (.tmp 42) = .int .i64 (sb i114 1) := c_42.1 hg
          exact or_index (R := R34) (l := l1) tl24 f_40 f_42 (RdO.some_ b140_Al1 (gd_t hx153 hg)) (gd_t hx153 hg)
        refine steps_cons (fun own a wx hf hsl hE => ?_) ?_
        · obtain ⟨(f_39 : a.eval (.tmp 39) = .bool x152), c_43, -⟩ := hf
          refine sg_t rfl rfl rfl f_39 (fun hg => ?_)
          have f_43 : a.eval (.tmp 43) = .pointer (some ((adr Al1).add ((sb i114 1 : Int).toNat * R34.s))) := c_43.1 hg
          exact or_load (l := E34.f x153) ta34 f_43 (RdO.cells (F := E34) (RdO.evo rfl hE b140_Al1) (gd_t hx153 hg)) rfl
        refine steps_cons (fun own a wx hf hsl hE => ?_) ?_
        · obtain ⟨(f_39 : a.eval (.tmp 39) = .bool x152), -⟩ := hf
          obtain ⟨s_0, -⟩ := hsl
          refine sg_t rfl rfl rfl f_39 (fun hg => ?_)
          exact or_move (s_0.trans e140_0)
        refine steps_cons (fun own a wx hf hsl hE => ?_) ?_
        · obtain ⟨(f_39 : a.eval (.tmp 39) = .bool x152), -⟩ := hf
          obtain ⟨s_5, -⟩ := hsl
          refine sg_t rfl rfl rfl f_39 (fun hg => ?_)
          exact or_move (s_5.trans e140_5)
        refine steps_cons (fun own a wx hf hsl hE => ?_) ?_
        · obtain ⟨(f_39 : a.eval (.tmp 39) = .bool x152), c_45, c_46, -⟩ := hf
          refine sg_t rfl rfl rfl f_39 (fun hg => ?_)
          have f_45 : a.eval (.tmp 45) = .slice Al1 l1.length cl1 := c_45.1 hg
          have f_46 : a.eval (.tmp 46) = .int .i64 i114 := c_46.1 hg
          exact or_index (R := R34) (l := l1) tl24 f_45 f_46 (RdO.some_ b140_Al1 (gd_t hx154 hg)) (gd_t hx154 hg)
        refine steps_cons (fun own a wx hf hsl hE => ?_) ?_
        · obtain ⟨(f_39 : a.eval (.tmp 39) = .bool x152), c_47, -⟩ := hf
          refine sg_t rfl rfl rfl f_39 (fun hg => ?_)
          have f_47 : a.eval (.tmp 47) = .pointer (some ((adr Al1).add ((i114 : Int).toNat * R34.s))) := c_47.1 hg
          exact or_load (l := E34.f x154) ta34 f_47 (RdO.cells (F := E34) (RdO.evo rfl hE b140_Al1) (gd_t hx154 hg)) rfl
        refine steps_cons (fun own a wx hf hsl hE => ?_) ?_
        · obtain ⟨(f_39 : a.eval (.tmp 39) = .bool x152), -⟩ := hf
          obtain ⟨s_3, -⟩ := hsl
          refine sg_t rfl rfl rfl f_39 (fun hg => ?_)
          exact or_load (l := [.int .i64 b2.1.1, .int .i64 b2.1.2, .int .i64 b2.2.1, .int .i64 b2.2.2]) ta36 (s_3.trans e140_3) (Blk.cellsFrom (BlkO.evo (by decide) hE b140_g86).2 0 rfl) rfl
        refine steps_cons (fun own a wx hf hsl hE => ?_) ?_
        · obtain ⟨(f_39 : a.eval (.tmp 39) = .bool x152), c_44, c_48, c_49, -⟩ := hf
          refine sg_t rfl rfl rfl f_39 (fun hg => ?_)
          have f_44 : a.eval (.tmp 44) = .agg #[.int .i64 x153.1, .int .i64 x153.2] := c_44.1 hg
          have f_48 : a.eval (.tmp 48) = .agg #[.int .i64 x154.1, .int .i64 x154.2] := c_48.1 hg
          have f_49 : a.eval (.tmp 49) = .agg #[.int .i64 b2.1.1, .int .i64 b2.1.2, .int .i64 b2.2.1, .int .i64 b2.2.2] := c_49.1 hg
          exact or_call cf32 (args3 f_44 f_48 f_49) (lineclip_inside_w _ x153 x154 b2  r155 (gd_t hr155 hg)) post_val
        refine steps_cons (fun own a wx hf hsl hE => ?_) ?_
        · obtain ⟨(f_39 : a.eval (.tmp 39) = .bool x152), c_50, -⟩ := hf
          exact sg_plain rfl rfl (or_and f_39 (fun hx => c_50.1 hx) rfl rfl)
        exact steps_nil
      intro own156 a156 w156 hd156 hz156 hk156 hf156 hE156
      have e156_0 : a156.eval (.tmp 0) = .slice Al1 l1.length cl1 := (hk156 0 rfl).trans e140_0
      have e156_3 : a156.eval (.tmp 3) = .pointer (some ⟨g86, 0, none⟩) := (hk156 3 rfl).trans e140_3
      have e156_5 : a156.eval (.tmp 5) = .int .i64 i114 := (hk156 5 rfl).trans e140_5
      obtain ⟨(f_51 : a156.eval (.tmp 51) = .bool (x152 && r155)), -⟩ := hf156 [39] rfl
      have e156_51 := f_51
      have hX156 := Evo.step hX140 (fun _ => Nat.le_refl 0) hE156 rfl
      have b156_Al1 := RdO.evo rfl hE156 b140_Al1
      have b156_g86 := BlkO.evo (by decide) hE156 b140_g86
      refine fl_cond e156_51 hs (fun c157 hs => ?_) (fun c157 hs => ?_)
      · refine rg_plain_seq (n := 52) (rs := []) (own0 := own156) (K := [])
            (bs := [0])
            (ds := [⟨[], [], [], Fct.val 4 (.bool true)⟩]) (by kernel_rfl) hz156 hd156 (fun _ h => nomatch h) ?_ ?_
        · refine steps_cons (fun own a wx hf hsl hE => ?_) ?_
          · exact sg_plain rfl rfl (or_assign rfl)
          exact steps_nil
        intro own158 a158 w158 hd158 hz158 hk158 hf158 hE158
        obtain ⟨(f_4 : a158.eval (.tmp 4) = .bool true), -⟩ := hf158 [0] rfl
        have e158_4 := f_4
        have hX158 := Evo.step hX156 (fun _ => Nat.le_refl 0) hE158 rfl
        refine fl_ret ?_
        refine hp143 _ _ _ rfl ?_
        refine hp142 _ _ _ rfl ?_
        replace hs := hz137 _ hs
        refine hp137 _ _ _ rfl ?_
        refine hp91 _ _ _ rfl ?_
        refine hp89 _ _ _ rfl ?_
        obtain rfl := osome hs
        exact hret _ _ _ _ (.inl rfl) hd158 (results1_ rfl (RVal.tmp_ e158_4)) ⟨own158, rfl, hX158⟩
      refine fl_skip ?_
      refine hn143 _ _ ?_
      refine hn142 _ _ ?_
      refine rg_plain (n := 52) (rs := []) (own0 := own156) (K := [])
          (bs := [0, 1, 3])
          (ds := [⟨[], [5], [], Fct.val 10 (.int .i64 i114)⟩,
          ⟨[0], [], [], Fct.val 11 (.int .i64 (ad i114 1))⟩,
          ⟨[1], [], [], Fct.val 5 (.int .i64 (ad i114 1))⟩]) (by kernel_rfl) hz156 hd156 (fun _ h => nomatch h) ?_ ?_
      · refine steps_cons (fun own a wx hf hsl hE => ?_) ?_
        · obtain ⟨s_5, -⟩ := hsl
          exact sg_plain rfl rfl (or_move (s_5.trans e156_5))
        refine steps_cons (fun own a wx hf hsl hE => ?_) ?_
        · obtain ⟨(f_10 : a.eval (.tmp 10) = .int .i64 i114), -⟩ := hf
          exact sg_plain rfl rfl (or_add f_10 rfl rfl)
        refine steps_cons (fun own a wx hf hsl hE => ?_) ?_
        · obtain ⟨(f_11 : a.eval (.tmp 11) = .int .i64 (ad i114 1)), -⟩ := hf
          exact sg_plain rfl rfl (or_assign f_11)
        exact steps_nil
      intro own159 a159 w159 hd159 hz159 hk159 hf159 hE159
      have e159_0 : a159.eval (.tmp 0) = .slice Al1 l1.length cl1 := (hk159 0 rfl).trans e156_0
      have e159_3 : a159.eval (.tmp 3) = .pointer (some ⟨g86, 0, none⟩) := (hk159 3 rfl).trans e156_3
      obtain ⟨(f_5 : a159.eval (.tmp 5) = .int .i64 (ad i114 1)), -⟩ := hf159 [2] rfl
      have e159_5 := f_5
      have hX159 := Evo.step hX156 (fun _ => Nat.le_refl 0) hE159 rfl
      have b159_Al1 := RdO.evo rfl hE159 b156_Al1
      have b159_g86 := BlkO.evo (by decide) hE159 b156_g86
      exact hn137 _ _ _ hs ⟨own159, hd159, hz159, e159_0, e159_3, e159_5, hX159, b159_Al1, b159_g86⟩
    refine fl_exit ?_
    refine hp139 _ _ _ rfl ?_
    replace hs := hz137 _ hs
    refine hp137 _ _ _ rfl ?_
    refine hx91 _ _ ?_
    refine hn89 _ _ ?_
    refine rg_plain_seq (n := 52) (rs := []) (own0 := own140) (K := [])
        (bs := [0])
        (ds := [⟨[], [], [], Fct.val 4 (.bool false)⟩]) (by kernel_rfl) hz140 hd140 (fun _ h => nomatch h) ?_ ?_
    · refine steps_cons (fun own a wx hf hsl hE => ?_) ?_
      · exact sg_plain rfl rfl (or_assign rfl)
      exact steps_nil
    intro own160 a160 w160 hd160 hz160 hk160 hf160 hE160
    obtain ⟨(f_4 : a160.eval (.tmp 4) = .bool false), -⟩ := hf160 [0] rfl
    have e160_4 := f_4
    have hX160 := Evo.step hX140 (fun _ => Nat.le_refl 0) hE160 rfl
    refine fl_ret ?_
    obtain rfl := osome hs
    exact hret _ _ _ _ (.inl rfl) hd160 (results1_ rfl (RVal.tmp_ e160_4)) ⟨own160, rfl, hX160⟩

theorem rows_Meet_w (w : World) (x1 : (Int × Int) × (Int × Int)) (b2 : (Int × Int) × (Int × Int)) (r : Bool) (hs : rows_Meet x1 b2 = some r) :
    Calls Try.prog 21 #[.agg #[.int .i64 x1.1.1, .int .i64 x1.1.2, .int .i64 x1.2.1, .int .i64 x1.2.2], .agg #[.int .i64 b2.1.1, .int .i64 b2.1.2, .int .i64 b2.2.1, .int .i64 b2.2.2]] w fun e w' => ∃ own' : Own, e = .returned (.bool r) ∧ Evo [] (fun _ => 0) own' w w' := by
  refine fl_enter (n := 47) rfl rfl rfl (Nat.le_of_ble_eq_true rfl) ?_
  intro a0 Q hd0 hz0 harg hret
  have ha0 := harg 0 _ rfl
  have ha1 := harg 1 _ rfl
  clear harg
  have hE0 : Evo [] (fun _ => 0) (fun _ => 0) w w := Evo.refl _ _ _
  refine rg_plain_seq (n := 47) (rs := []) (own0 := (fun _ => 0)) (K := [])
      (bs := [0, 0, 0])
      (ds := [⟨[], [0], [], Fct.blk 22 2 (fun g => .pointer (some ⟨g, 0, none⟩)) 36 #[.int .i64 x1.1.1, .int .i64 x1.1.2, .int .i64 x1.2.1, .int .i64 x1.2.2]⟩,
      ⟨[], [1], [], Fct.blk 24 3 (fun g => .pointer (some ⟨g, 0, none⟩)) 36 #[.int .i64 b2.1.1, .int .i64 b2.1.2, .int .i64 b2.2.1, .int .i64 b2.2.2]⟩,
      ⟨[], [], [], Fct.val 4 (.bool false)⟩]) (by kernel_rfl) hz0 hd0 (fun _ h => nomatch h) ?_ ?_
  · refine steps_cons (fun own a wx hf hsl hE => ?_) ?_
    · obtain ⟨s_0, -⟩ := hsl
      exact sg_plain rfl rfl (or_new [(0, .agg #[.int .i64 x1.1.1, .int .i64 x1.1.2, .int .i64 x1.2.1, .int .i64 x1.2.2])] rfl rfl ⟨(s_0.trans ha0), trivial⟩ (by kernel_rfl))
    refine steps_cons (fun own a wx hf hsl hE => ?_) ?_
    · obtain ⟨s_1, -⟩ := hsl
      exact sg_plain rfl rfl (or_new [(1, .agg #[.int .i64 b2.1.1, .int .i64 b2.1.2, .int .i64 b2.2.1, .int .i64 b2.2.2])] rfl rfl ⟨(s_1.trans ha1), trivial⟩ (by kernel_rfl))
    refine steps_cons (fun own a wx hf hsl hE => ?_) ?_
    · exact sg_plain rfl rfl (or_assign rfl)
    exact steps_nil
  intro own25 a25 w25 hd25 hz25 hk25 hf25 hE25
  obtain ⟨⟨g21, (f_2 : a25.eval (.tmp 2) = .pointer (some ⟨g21, 0, none⟩)), (b_g21 : BlkO own25 22 w25 g21 36 #[.int .i64 x1.1.1, .int .i64 x1.1.2, .int .i64 x1.2.1, .int .i64 x1.2.2])⟩, ⟨g23, (f_3 : a25.eval (.tmp 3) = .pointer (some ⟨g23, 0, none⟩)), (b_g23 : BlkO own25 24 w25 g23 36 #[.int .i64 b2.1.1, .int .i64 b2.1.2, .int .i64 b2.2.1, .int .i64 b2.2.2])⟩, -⟩ := hf25 [0, 1] rfl
  have e25_2 := f_2
  have e25_3 := f_3
  have hX25 := Evo.step hE0 (fun _ => Nat.le_refl 0) hE25 rfl
  have b25_g21 := b_g21
  have b25_g23 := b_g23
  obtain ⟨r26, hr26, hs⟩ := obind hs
  obtain ⟨r27, hr27, hs⟩ := obind hs
  obtain ⟨x28, hx28, hs⟩ := obind hs
  obtain ⟨x29, hx29, hs⟩ := obind hs
  refine rg_plain_seq (n := 47) (rs := []) (own0 := own25) (K := [])
      (bs := [0, 1, 3, 7, 15, 31, 63, 127, 255, 511, 127, 1151, 3199, 8191, 16383, 32767, 65535, 131071, 262143, 65535, 589823, 1638399, 4194303, 8388607, 16777215, 33554431, 67108863, 134217727, 33554431, 301989887, 838860799, 2147483647, 4294967295, 8589934591, 17179869183, 34359738367, 68719476735, 17179869183, 154618822655, 429496729599, 1099511627775, 2199023255551, 4398046511103])
      (ds := [⟨[], [2], [], Fct.val 5 (.agg #[.int .i64 x1.1.1, .int .i64 x1.1.2, .int .i64 x1.2.1, .int .i64 x1.2.2])⟩,
      ⟨[0], [], [], Fct.val 6 (.bool r26)⟩,
      ⟨[1], [], [], Fct.val 7 (.bool r26)⟩,
      ⟨[2], [3], [], Fct.cond r26 (some 8) (Fct.val 8 (.agg #[.int .i64 b2.1.1, .int .i64 b2.1.2, .int .i64 b2.2.1, .int .i64 b2.2.2]))⟩,
      ⟨[2, 3], [], [], Fct.cond r26 (some 9) (Fct.val 9 (.bool r27))⟩,
      ⟨[2, 4], [], [], Fct.val 10 (.bool (r26 && r27))⟩,
      ⟨[5], [], [], Fct.val 11 (.bool (r26 && r27))⟩,
      ⟨[6], [2], [], Fct.cond (r26 && r27) (some 12) (Fct.val 12 (.pointer (some ⟨g21, 0, none⟩)))⟩,
      ⟨[6, 7], [], [], Fct.cond (r26 && r27) (some 13) (Fct.val 13 (.pointer (some ⟨g21, 0, none⟩)))⟩,
      ⟨[6, 8], [], [], Fct.cond (r26 && r27) (some 14) (Fct.val 14 (.int .i64 x1.1.1))⟩,
      ⟨[6], [3], [], Fct.cond (r26 && r27) (some 15) (Fct.val 15 (.pointer (some ⟨g23, 2, none⟩)))⟩,
      ⟨[6, 10], [], [], Fct.cond (r26 && r27) (some 16) (Fct.val 16 (.pointer (some ⟨g23, 2, none⟩)))⟩,
      ⟨[6, 11], [], [], Fct.cond (r26 && r27) (some 17) (Fct.val 17 (.int .i64 b2.2.1))⟩,
      ⟨[6, 9, 12], [], [], Fct.cond (r26 && r27) (some 18) (Fct.val 18 (.bool (decide (x1.1.1 ≤ b2.2.1))))⟩,
      ⟨[6, 13], [], [], Fct.val 19 (.bool x28)⟩,
      ⟨[14], [], [], Fct.val 20 (.bool x28)⟩,
      ⟨[15], [3], [], Fct.cond x28 (some 21) (Fct.val 21 (.pointer (some ⟨g23, 0, none⟩)))⟩,
      ⟨[15, 16], [], [], Fct.cond x28 (some 22) (Fct.val 22 (.pointer (some ⟨g23, 0, none⟩)))⟩,
      ⟨[15, 17], [], [], Fct.cond x28 (some 23) (Fct.val 23 (.int .i64 b2.1.1))⟩,
      ⟨[15], [2], [], Fct.cond x28 (some 24) (Fct.val 24 (.pointer (some ⟨g21, 2, none⟩)))⟩,
      ⟨[15, 19], [], [], Fct.cond x28 (some 25) (Fct.val 25 (.pointer (some ⟨g21, 2, none⟩)))⟩,
      ⟨[15, 20], [], [], Fct.cond x28 (some 26) (Fct.val 26 (.int .i64 x1.2.1))⟩,
      ⟨[15, 18, 21], [], [], Fct.cond x28 (some 27) (Fct.val 27 (.bool (decide (b2.1.1 ≤ x1.2.1))))⟩,
      ⟨[15, 22], [], [], Fct.val 28 (.bool (x28 && (decide (b2.1.1 ≤ x1.2.1))))⟩,
      ⟨[23], [], [], Fct.val 29 (.bool (x28 && (decide (b2.1.1 ≤ x1.2.1))))⟩,
      ⟨[24], [2], [], Fct.cond (x28 && (decide (b2.1.1 ≤ x1.2.1))) (some 30) (Fct.val 30 (.pointer (some ⟨g21, 0, none⟩)))⟩,
      ⟨[24, 25], [], [], Fct.cond (x28 && (decide (b2.1.1 ≤ x1.2.1))) (some 31) (Fct.val 31 (.pointer (some ⟨g21, 1, none⟩)))⟩,
      ⟨[24, 26], [], [], Fct.cond (x28 && (decide (b2.1.1 ≤ x1.2.1))) (some 32) (Fct.val 32 (.int .i64 x1.1.2))⟩,
      ⟨[24], [3], [], Fct.cond (x28 && (decide (b2.1.1 ≤ x1.2.1))) (some 33) (Fct.val 33 (.pointer (some ⟨g23, 2, none⟩)))⟩,
      ⟨[24, 28], [], [], Fct.cond (x28 && (decide (b2.1.1 ≤ x1.2.1))) (some 34) (Fct.val 34 (.pointer (some ⟨g23, 3, none⟩)))⟩,
      ⟨[24, 29], [], [], Fct.cond (x28 && (decide (b2.1.1 ≤ x1.2.1))) (some 35) (Fct.val 35 (.int .i64 b2.2.2))⟩,
      ⟨[24, 27, 30], [], [], Fct.cond (x28 && (decide (b2.1.1 ≤ x1.2.1))) (some 36) (Fct.val 36 (.bool (decide (x1.1.2 ≤ b2.2.2))))⟩,
      ⟨[24, 31], [], [], Fct.val 37 (.bool x29)⟩,
      ⟨[32], [], [], Fct.val 38 (.bool x29)⟩,
      ⟨[33], [3], [], Fct.cond x29 (some 39) (Fct.val 39 (.pointer (some ⟨g23, 0, none⟩)))⟩,
      ⟨[33, 34], [], [], Fct.cond x29 (some 40) (Fct.val 40 (.pointer (some ⟨g23, 1, none⟩)))⟩,
      ⟨[33, 35], [], [], Fct.cond x29 (some 41) (Fct.val 41 (.int .i64 b2.1.2))⟩,
      ⟨[33], [2], [], Fct.cond x29 (some 42) (Fct.val 42 (.pointer (some ⟨g21, 2, none⟩)))⟩,
      ⟨[33, 37], [], [], Fct.cond x29 (some 43) (Fct.val 43 (.pointer (some ⟨g21, 3, none⟩)))⟩,
      ⟨[33, 38], [], [], Fct.cond x29 (some 44) (Fct.val 44 (.int .i64 x1.2.2))⟩,
      ⟨[33, 36, 39], [], [], Fct.cond x29 (some 45) (Fct.val 45 (.bool (decide (b2.1.2 ≤ x1.2.2))))⟩,
      ⟨[33, 40], [], [], Fct.val 46 (.bool (x29 && (decide (b2.1.2 ≤ x1.2.2))))⟩,
      ⟨[41], [], [], Fct.val 4 (.bool (x29 && (decide (b2.1.2 ≤ x1.2.2))))⟩]) (by kernel_rfl) hz25 hd25 (fun _ h => nomatch h) ?_ ?_
  · refine steps_cons (fun own a wx hf hsl hE => ?_) ?_
    · obtain ⟨s_2, -⟩ := hsl
      exact sg_plain rfl rfl (or_load (l := [.int .i64 x1.1.1, .int .i64 x1.1.2, .int .i64 x1.2.1, .int .i64 x1.2.2]) ta36 (s_2.trans e25_2) (Blk.cellsFrom (BlkO.evo (by decide) hE b25_g21).2 0 rfl) rfl)
    refine steps_cons (fun own a wx hf hsl hE => ?_) ?_
    · obtain ⟨(f_5 : a.eval (.tmp 5) = .agg #[.int .i64 x1.1.1, .int .i64 x1.1.2, .int .i64 x1.2.1, .int .i64 x1.2.2]), -⟩ := hf
      exact sg_plain rfl rfl (or_call cf22 (args1 f_5) (rows_Right_w _ x1  r26 hr26) post_val)
    refine steps_cons (fun own a wx hf hsl hE => ?_) ?_
    · obtain ⟨(f_6 : a.eval (.tmp 6) = .bool r26), -⟩ := hf
      exact sg_plain rfl rfl (or_move f_6)
    refine steps_cons (fun own a wx hf hsl hE => ?_) ?_
    · obtain ⟨(f_7 : a.eval (.tmp 7) = .bool r26), -⟩ := hf
      obtain ⟨s_3, -⟩ := hsl
      refine sg_t rfl rfl rfl f_7 (fun hg => ?_)
      exact or_load (l := [.int .i64 b2.1.1, .int .i64 b2.1.2, .int .i64 b2.2.1, .int .i64 b2.2.2]) ta36 (s_3.trans e25_3) (Blk.cellsFrom (BlkO.evo (by decide) hE b25_g23).2 0 rfl) rfl
    refine steps_cons (fun own a wx hf hsl hE => ?_) ?_
    · obtain ⟨(f_7 : a.eval (.tmp 7) = .bool r26), c_8, -⟩ := hf
      refine sg_t rfl rfl rfl f_7 (fun hg => ?_)
      have f_8 : a.eval (.tmp 8) = .agg #[.int .i64 b2.1.1, .int .i64 b2.1.2, .int .i64 b2.2.1, .int .i64 b2.2.2] := c_8.1 hg
      exact or_call cf22 (args1 f_8) (rows_Right_w _ b2  r27 (gd_t hr27 hg)) post_val
    refine steps_cons (fun own a wx hf hsl hE => ?_) ?_
    · obtain ⟨(f_7 : a.eval (.tmp 7) = .bool r26), c_9, -⟩ := hf
      exact sg_plain rfl rfl (or_and f_7 (fun hx => c_9.1 hx) rfl rfl)
    refine steps_cons (fun own a wx hf hsl hE => ?_) ?_
    · obtain ⟨(f_10 : a.eval (.tmp 10) = .bool (r26 && r27)), -⟩ := hf
      exact sg_plain rfl rfl (or_move f_10)
    refine steps_cons (fun own a wx hf hsl hE => ?_) ?_
    · obtain ⟨(f_11 : a.eval (.tmp 11) = .bool (r26 && r27)), -⟩ := hf
      obtain ⟨s_2, -⟩ := hsl
      refine sg_t rfl rfl rfl f_11 (fun hg => ?_)
      exact or_field fo36_0 (s_2.trans e25_2) (by rfl)
    refine steps_cons (fun own a wx hf hsl hE => ?_) ?_
    · obtain ⟨(f_11 : a.eval (.tmp 11) = .bool (r26 && r27)), c_12, -⟩ := hf
      refine sg_t rfl rfl rfl f_11 (fun hg => ?_)
      have f_12 : a.eval (.tmp 12) = .pointer (some ⟨g21, 0, none⟩) := c_12.1 hg
      exact or_field fo34_0 f_12 (by rfl)
    refine steps_cons (fun own a wx hf hsl hE => ?_) ?_
    · obtain ⟨(f_11 : a.eval (.tmp 11) = .bool (r26 && r27)), c_13, -⟩ := hf
      refine sg_t rfl rfl rfl f_11 (fun hg => ?_)
      have f_13 : a.eval (.tmp 13) = .pointer (some ⟨g21, 0, none⟩) := c_13.1 hg
      exact or_load1 to3 f_13 (Blk.at_ (BlkO.evo (by decide) hE b25_g21).2 0 rfl)
    refine steps_cons (fun own a wx hf hsl hE => ?_) ?_
    · obtain ⟨(f_11 : a.eval (.tmp 11) = .bool (r26 && r27)), -⟩ := hf
      obtain ⟨s_3, -⟩ := hsl
      refine sg_t rfl rfl rfl f_11 (fun hg => ?_)
      exact or_field fo36_1 (s_3.trans e25_3) (by rfl)
    refine steps_cons (fun own a wx hf hsl hE => ?_) ?_
    · obtain ⟨(f_11 : a.eval (.tmp 11) = .bool (r26 && r27)), c_15, -⟩ := hf
      refine sg_t rfl rfl rfl f_11 (fun hg => ?_)
      have f_15 : a.eval (.tmp 15) = .pointer (some ⟨g23, 2, none⟩) := c_15.1 hg
      exact or_field fo34_0 f_15 (by rfl)
    refine steps_cons (fun own a wx hf hsl hE => ?_) ?_
    · obtain ⟨(f_11 : a.eval (.tmp 11) = .bool (r26 && r27)), c_16, -⟩ := hf
      refine sg_t rfl rfl rfl f_11 (fun hg => ?_)
      have f_16 : a.eval (.tmp 16) = .pointer (some ⟨g23, 2, none⟩) := c_16.1 hg
      exact or_load1 to3 f_16 (Blk.at_ (BlkO.evo (by decide) hE b25_g23).2 2 rfl)
    refine steps_cons (fun own a wx hf hsl hE => ?_) ?_
    · obtain ⟨(f_11 : a.eval (.tmp 11) = .bool (r26 && r27)), c_14, c_17, -⟩ := hf
      refine sg_t rfl rfl rfl f_11 (fun hg => ?_)
      have f_14 : a.eval (.tmp 14) = .int .i64 x1.1.1 := c_14.1 hg
      have f_17 : a.eval (.tmp 17) = .int .i64 b2.2.1 := c_17.1 hg
      exact or_leq f_14 f_17 rfl
    refine steps_cons (fun own a wx hf hsl hE => ?_) ?_
    · obtain ⟨(f_11 : a.eval (.tmp 11) = .bool (r26 && r27)), c_18, -⟩ := hf
      exact sg_plain rfl rfl (or_and f_11 (fun hx => c_18.1 hx) rfl (osome hx28).symm)
    refine steps_cons (fun own a wx hf hsl hE => ?_) ?_
    · obtain ⟨(f_19 : a.eval (.tmp 19) = .bool x28), -⟩ := hf
      exact sg_plain rfl rfl (or_move f_19)
    refine steps_cons (fun own a wx hf hsl hE => ?_) ?_
    · obtain ⟨(f_20 : a.eval (.tmp 20) = .bool x28), -⟩ := hf
      obtain ⟨s_3, -⟩ := hsl
      refine sg_t rfl rfl rfl f_20 (fun hg => ?_)
      exact or_field fo36_0 (s_3.trans e25_3) (by rfl)
    refine steps_cons (fun own a wx hf hsl hE => ?_) ?_
    · obtain ⟨(f_20 : a.eval (.tmp 20) = .bool x28), c_21, -⟩ := hf
      refine sg_t rfl rfl rfl f_20 (fun hg => ?_)
      have f_21 : a.eval (.tmp 21) = .pointer (some ⟨g23, 0, none⟩) := c_21.1 hg
      exact or_field fo34_0 f_21 (by rfl)
    refine steps_cons (fun own a wx hf hsl hE => ?_) ?_
    · obtain ⟨(f_20 : a.eval (.tmp 20) = .bool x28), c_22, -⟩ := hf
      refine sg_t rfl rfl rfl f_20 (fun hg => ?_)
      have f_22 : a.eval (.tmp 22) = .pointer (some ⟨g23, 0, none⟩) := c_22.1 hg
      exact or_load1 to3 f_22 (Blk.at_ (BlkO.evo (by decide) hE b25_g23).2 0 rfl)
    refine steps_cons (fun own a wx hf hsl hE => ?_) ?_
    · obtain ⟨(f_20 : a.eval (.tmp 20) = .bool x28), -⟩ := hf
      obtain ⟨s_2, -⟩ := hsl
      refine sg_t rfl rfl rfl f_20 (fun hg => ?_)
      exact or_field fo36_1 (s_2.trans e25_2) (by rfl)
    refine steps_cons (fun own a wx hf hsl hE => ?_) ?_
    · obtain ⟨(f_20 : a.eval (.tmp 20) = .bool x28), c_24, -⟩ := hf
      refine sg_t rfl rfl rfl f_20 (fun hg => ?_)
      have f_24 : a.eval (.tmp 24) = .pointer (some ⟨g21, 2, none⟩) := c_24.1 hg
      exact or_field fo34_0 f_24 (by rfl)
    refine steps_cons (fun own a wx hf hsl hE => ?_) ?_
    · obtain ⟨(f_20 : a.eval (.tmp 20) = .bool x28), c_25, -⟩ := hf
      refine sg_t rfl rfl rfl f_20 (fun hg => ?_)
      have f_25 : a.eval (.tmp 25) = .pointer (some ⟨g21, 2, none⟩) := c_25.1 hg
      exact or_load1 to3 f_25 (Blk.at_ (BlkO.evo (by decide) hE b25_g21).2 2 rfl)
    refine steps_cons (fun own a wx hf hsl hE => ?_) ?_
    · obtain ⟨(f_20 : a.eval (.tmp 20) = .bool x28), c_23, c_26, -⟩ := hf
      refine sg_t rfl rfl rfl f_20 (fun hg => ?_)
      have f_23 : a.eval (.tmp 23) = .int .i64 b2.1.1 := c_23.1 hg
      have f_26 : a.eval (.tmp 26) = .int .i64 x1.2.1 := c_26.1 hg
      exact or_leq f_23 f_26 rfl
    refine steps_cons (fun own a wx hf hsl hE => ?_) ?_
    · obtain ⟨(f_20 : a.eval (.tmp 20) = .bool x28), c_27, -⟩ := hf
      exact sg_plain rfl rfl (or_and f_20 (fun hx => c_27.1 hx) rfl rfl)
    refine steps_cons (fun own a wx hf hsl hE => ?_) ?_
    · obtain ⟨(f_28 : a.eval (.tmp 28) = .bool (x28 && (decide (b2.1.1 ≤ x1.2.1)))), -⟩ := hf
      exact sg_plain rfl rfl (or_move f_28)
    refine steps_cons (fun own a wx hf hsl hE => ?_) ?_
    · obtain ⟨(f_29 : a.eval (.tmp 29) = .bool (x28 && (decide (b2.1.1 ≤ x1.2.1)))), -⟩ := hf
      obtain ⟨s_2, -⟩ := hsl
      refine sg_t rfl rfl rfl f_29 (fun hg => ?_)
      exact or_field fo36_0 (s_2.trans e25_2) (by rfl)
    refine steps_cons (fun own a wx hf hsl hE => ?_) ?_
    · obtain ⟨(f_29 : a.eval (.tmp 29) = .bool (x28 && (decide (b2.1.1 ≤ x1.2.1)))), c_30, -⟩ := hf
      refine sg_t rfl rfl rfl f_29 (fun hg => ?_)
      have f_30 : a.eval (.tmp 30) = .pointer (some ⟨g21, 0, none⟩) := c_30.1 hg
      exact or_field fo34_1 f_30 (by rfl)
    refine steps_cons (fun own a wx hf hsl hE => ?_) ?_
    · obtain ⟨(f_29 : a.eval (.tmp 29) = .bool (x28 && (decide (b2.1.1 ≤ x1.2.1)))), c_31, -⟩ := hf
      refine sg_t rfl rfl rfl f_29 (fun hg => ?_)
      have f_31 : a.eval (.tmp 31) = .pointer (some ⟨g21, 1, none⟩) := c_31.1 hg
      exact or_load1 to3 f_31 (Blk.at_ (BlkO.evo (by decide) hE b25_g21).2 1 rfl)
    refine steps_cons (fun own a wx hf hsl hE => ?_) ?_
    · obtain ⟨(f_29 : a.eval (.tmp 29) = .bool (x28 && (decide (b2.1.1 ≤ x1.2.1)))), -⟩ := hf
      obtain ⟨s_3, -⟩ := hsl
      refine sg_t rfl rfl rfl f_29 (fun hg => ?_)
      exact or_field fo36_1 (s_3.trans e25_3) (by rfl)
    refine steps_cons (fun own a wx hf hsl hE => ?_) ?_
    · obtain ⟨(f_29 : a.eval (.tmp 29) = .bool (x28 && (decide (b2.1.1 ≤ x1.2.1)))), c_33, -⟩ := hf
      refine sg_t rfl rfl rfl f_29 (fun hg => ?_)
      have f_33 : a.eval (.tmp 33) = .pointer (some ⟨g23, 2, none⟩) := c_33.1 hg
      exact or_field fo34_1 f_33 (by rfl)
    refine steps_cons (fun own a wx hf hsl hE => ?_) ?_
    · obtain ⟨(f_29 : a.eval (.tmp 29) = .bool (x28 && (decide (b2.1.1 ≤ x1.2.1)))), c_34, -⟩ := hf
      refine sg_t rfl rfl rfl f_29 (fun hg => ?_)
      have f_34 : a.eval (.tmp 34) = .pointer (some ⟨g23, 3, none⟩) := c_34.1 hg
      exact or_load1 to3 f_34 (Blk.at_ (BlkO.evo (by decide) hE b25_g23).2 3 rfl)
    refine steps_cons (fun own a wx hf hsl hE => ?_) ?_
    · obtain ⟨(f_29 : a.eval (.tmp 29) = .bool (x28 && (decide (b2.1.1 ≤ x1.2.1)))), c_32, c_35, -⟩ := hf
      refine sg_t rfl rfl rfl f_29 (fun hg => ?_)
      have f_32 : a.eval (.tmp 32) = .int .i64 x1.1.2 := c_32.1 hg
      have f_35 : a.eval (.tmp 35) = .int .i64 b2.2.2 := c_35.1 hg
      exact or_leq f_32 f_35 rfl
    refine steps_cons (fun own a wx hf hsl hE => ?_) ?_
    · obtain ⟨(f_29 : a.eval (.tmp 29) = .bool (x28 && (decide (b2.1.1 ≤ x1.2.1)))), c_36, -⟩ := hf
      exact sg_plain rfl rfl (or_and f_29 (fun hx => c_36.1 hx) rfl (osome hx29).symm)
    refine steps_cons (fun own a wx hf hsl hE => ?_) ?_
    · obtain ⟨(f_37 : a.eval (.tmp 37) = .bool x29), -⟩ := hf
      exact sg_plain rfl rfl (or_move f_37)
    refine steps_cons (fun own a wx hf hsl hE => ?_) ?_
    · obtain ⟨(f_38 : a.eval (.tmp 38) = .bool x29), -⟩ := hf
      obtain ⟨s_3, -⟩ := hsl
      refine sg_t rfl rfl rfl f_38 (fun hg => ?_)
      exact or_field fo36_0 (s_3.trans e25_3) (by rfl)
    refine steps_cons (fun own a wx hf hsl hE => ?_) ?_
    · obtain ⟨(f_38 : a.eval (.tmp 38) = .bool x29), c_39, -⟩ := hf
      refine sg_t rfl rfl rfl f_38 (fun hg => ?_)
      have f_39 : a.eval (.tmp 39) = .pointer (some ⟨g23, 0, none⟩) := c_39.1 hg
      exact or_field fo34_1 f_39 (by rfl)
    refine steps_cons (fun own a wx hf hsl hE => ?_) ?_
    · obtain ⟨(f_38 : a.eval (.tmp 38) = .bool x29), c_40, -⟩ := hf
      refine sg_t rfl rfl rfl f_38 (fun hg => ?_)
      have f_40 : a.eval (.tmp 40) = .pointer (some ⟨g23, 1, none⟩) := c_40.1 hg
      exact or_load1 to3 f_40 (Blk.at_ (BlkO.evo (by decide) hE b25_g23).2 1 rfl)
    refine steps_cons (fun own a wx hf hsl hE => ?_) ?_
    · obtain ⟨(f_38 : a.eval (.tmp 38) = .bool x29), -⟩ := hf
      obtain ⟨s_2, -⟩ := hsl
      refine sg_t rfl rfl rfl f_38 (fun hg => ?_)
      exact or_field fo36_1 (s_2.trans e25_2) (by rfl)
    refine steps_cons (fun own a wx hf hsl hE => ?_) ?_
    · obtain ⟨(f_38 : a.eval (.tmp 38) = .bool x29), c_42, -⟩ := hf
      refine sg_t rfl rfl rfl f_38 (fun hg => ?_)
      have f_42 : a.eval (.tmp 42) = .pointer (some ⟨g21, 2, none⟩) := c_42.1 hg
      exact or_field fo34_1 f_42 (by rfl)
    refine steps_cons (fun own a wx hf hsl hE => ?_) ?_
    · obtain ⟨(f_38 : a.eval (.tmp 38) = .bool x29), c_43, -⟩ := hf
      refine sg_t rfl rfl rfl f_38 (fun hg => ?_)
      have f_43 : a.eval (.tmp 43) = .pointer (some ⟨g21, 3, none⟩) := c_43.1 hg
      exact or_load1 to3 f_43 (Blk.at_ (BlkO.evo (by decide) hE b25_g21).2 3 rfl)
    refine steps_cons (fun own a wx hf hsl hE => ?_) ?_
    · obtain ⟨(f_38 : a.eval (.tmp 38) = .bool x29), c_41, c_44, -⟩ := hf
      refine sg_t rfl rfl rfl f_38 (fun hg => ?_)
      have f_41 : a.eval (.tmp 41) = .int .i64 b2.1.2 := c_41.1 hg
      have f_44 : a.eval (.tmp 44) = .int .i64 x1.2.2 := c_44.1 hg
      exact or_leq f_41 f_44 rfl
    refine steps_cons (fun own a wx hf hsl hE => ?_) ?_
    · obtain ⟨(f_38 : a.eval (.tmp 38) = .bool x29), c_45, -⟩ := hf
      exact sg_plain rfl rfl (or_and f_38 (fun hx => c_45.1 hx) rfl rfl)
    refine steps_cons (fun own a wx hf hsl hE => ?_) ?_
    · obtain ⟨(f_46 : a.eval (.tmp 46) = .bool (x29 && (decide (b2.1.2 ≤ x1.2.2)))), -⟩ := hf
      exact sg_plain rfl rfl (or_assign f_46)
    exact steps_nil
  intro own30 a30 w30 hd30 hz30 hk30 hf30 hE30
  obtain ⟨(f_4 : a30.eval (.tmp 4) = .bool (x29 && (decide (b2.1.2 ≤ x1.2.2)))), -⟩ := hf30 [42] rfl
  have e30_4 := f_4
  have hX30 := Evo.step hX25 (fun _ => Nat.le_refl 0) hE30 rfl
  refine fl_ret ?_
  obtain rfl := osome hs
  exact hret _ _ _ _ (.inl rfl) hd30 (results1_ rfl (RVal.tmp_ e30_4)) ⟨own30, rfl, hX30⟩

set_option maxHeartbeats 2000000 in
theorem law22_LineclipTurns_w (w : World) (l1 : List (Int × Int)) (Al1 : Option Addr) (cl1 : Nat) (b2 : (Int × Int) × (Int × Int)) (hl1 : RdO (fun _ => 0) [0] w R34 Al1 cl1 l1) (r : Bool) (hs : law22_LineclipTurns l1 b2 = some r) :
    Calls Try.prog 5 #[.slice Al1 l1.length cl1, .agg #[.int .i64 b2.1.1, .int .i64 b2.1.2, .int .i64 b2.2.1, .int .i64 b2.2.2]] w fun e w' => ∃ own' : Own, e = .returned (.bool r) ∧ Evo [] (fun _ => 0) own' w w' := by
  refine fl_enter (n := 129) rfl rfl rfl (Nat.le_of_ble_eq_true rfl) ?_
  intro a0 Q hd0 hz0 harg hret
  have ha0 := harg 0 _ rfl
  have ha1 := harg 1 _ rfl
  clear harg
  have hE0 : Evo [] (fun _ => 0) (fun _ => 0) w w := Evo.refl _ _ _
  refine rg_plain_seq (n := 129) (rs := []) (own0 := (fun _ => 0)) (K := [])
      (bs := [0, 0])
      (ds := [⟨[], [1], [], Fct.blk 334 3 (fun g => .pointer (some ⟨g, 0, none⟩)) 36 #[.int .i64 b2.1.1, .int .i64 b2.1.2, .int .i64 b2.2.1, .int .i64 b2.2.2]⟩,
      ⟨[], [], [], Fct.val 4 (.bool false)⟩]) (by kernel_rfl) hz0 hd0 (fun _ h => nomatch h) ?_ ?_
  · refine steps_cons (fun own a wx hf hsl hE => ?_) ?_
    · obtain ⟨s_1, -⟩ := hsl
      exact sg_plain rfl rfl (or_new [(1, .agg #[.int .i64 b2.1.1, .int .i64 b2.1.2, .int .i64 b2.2.1, .int .i64 b2.2.2])] rfl rfl ⟨(s_1.trans ha1), trivial⟩ (by kernel_rfl))
    refine steps_cons (fun own a wx hf hsl hE => ?_) ?_
    · exact sg_plain rfl rfl (or_assign rfl)
    exact steps_nil
  intro own335 a335 w335 hd335 hz335 hk335 hf335 hE335
  have e335_0 : a335.eval (.tmp 0) = .slice Al1 l1.length cl1 := (hk335 0 rfl).trans ha0
  obtain ⟨⟨g333, (f_3 : a335.eval (.tmp 3) = .pointer (some ⟨g333, 0, none⟩)), (b_g333 : BlkO own335 334 w335 g333 36 #[.int .i64 b2.1.1, .int .i64 b2.1.2, .int .i64 b2.2.1, .int .i64 b2.2.2])⟩, -⟩ := hf335 [0] rfl
  have e335_3 := f_3
  have hX335 := Evo.step hE0 (fun _ => Nat.le_refl 0) hE335 rfl
  have b335_Al1 := RdO.evo rfl hE335 hl1
  have b335_g333 := b_g333
  obtain ⟨r336, hr336, hs⟩ := obind hs
  refine rg_plain_seq (n := 129) (rs := []) (own0 := own335) (K := [])
      (bs := [0, 1, 3])
      (ds := [⟨[], [0], [], Fct.val 13 (.slice Al1 l1.length cl1)⟩,
      ⟨[0], [], [], Fct.mems [338, 339, 0] 14 (fun (x : Option Addr × Nat) => .slice x.1 r336.length x.2) (fun (x : Option Addr × Nat) own w => RdO own [338, 339, 0] w R34 x.1 x.2 r336) (fun hk he h => RdO.evo (hits_sub hk (by decide)) he h)⟩,
      ⟨[1], [], [], Fct.rel [0, 14] (fun l => ∀ (A337 : Option Addr) (cA337 : Nat), l.getD 1 undef = .slice A337 r336.length cA337 → l.getD 0 undef = .slice A337 r336.length cA337)⟩]) (by kernel_rfl) hz335 hd335 (fun _ h => nomatch h) ?_ ?_
  · refine steps_cons (fun own a wx hf hsl hE => ?_) ?_
    · obtain ⟨s_0, -⟩ := hsl
      exact sg_plain rfl rfl (or_move (s_0.trans e335_0))
    refine steps_cons (fun own a wx hf hsl hE => ?_) ?_
    · obtain ⟨(f_13 : a.eval (.tmp 13) = .slice Al1 l1.length cl1), -⟩ := hf
      exact sg_plain rfl rfl (or_call cf7 (args1 f_13) (law03_Cut_w _ (forth own (inL [0])) l1 Al1 cl1 inL_le (RdO.alias_ (La := [0]) (RdO.evo rfl hE b335_Al1) (by decide)) r336 hr336) (post_alias (La := [0]) (m' := (look0 [(1, 338), (2, 339)])) (fun own' w' a' x ho hsz h1 h => ⟨x, h1, RdO.backN_ ho hsz h (by decide) (by decide) (by decide)⟩)))
    refine steps_cons (fun own a wx hf hsl hE => ?_) ?_
    · obtain ⟨⟨⟨A337, cA337⟩, (f_14 : a.eval (.tmp 14) = .slice A337 r336.length cA337), (b_A337 : RdO own [338, 339, 0] wx R34 A337 cA337 r336)⟩, -⟩ := hf
      exact sg_plain rfl rfl (or_mono (f := Fct.val 0 (.slice A337 r336.length cA337)) (or_assign f_14) (fun own' a' w' v' hp h => fun _ _ h0' => by cases (f_14.symm.trans ((hp.2 14 (by decide)).symm.trans h0')); exact h))
    exact steps_nil
  intro own340 a340 w340 hd340 hz340 hk340 hf340 hE340
  have e340_3 : a340.eval (.tmp 3) = .pointer (some ⟨g333, 0, none⟩) := (hk340 3 rfl).trans e335_3
  obtain ⟨⟨⟨A337, cA337⟩, (f_14 : a340.eval (.tmp 14) = .slice A337 r336.length cA337), (b_A337 : RdO own340 [338, 339, 0] w340 R34 A337 cA337 r336)⟩, (q_0 : ∀ (A337 : Option Addr) (cA337 : Nat), a340.eval (.tmp 14) = .slice A337 r336.length cA337 → a340.eval (.tmp 0) = .slice A337 r336.length cA337), -⟩ := hf340 [1, 2] rfl
  have f_0 := q_0 _ _ f_14
  have e340_0 := f_0
  have hX340 := Evo.step hX335 (fun _ => Nat.le_refl 0) hE340 rfl
  have b340_g333 := BlkO.evo (by decide) hE340 b335_g333
  have b340_A337 := b_A337
  refine rg_plain_seq (n := 129) (rs := []) (own0 := own340) (K := [])
      (bs := [0])
      (ds := [⟨[], [], [], Fct.val 5 (.slice none 0 0)⟩]) (by kernel_rfl) hz340 hd340 (fun _ h => nomatch h) ?_ ?_
  · refine steps_cons (fun own a wx hf hsl hE => ?_) ?_
    · exact sg_plain rfl rfl (or_assign rfl)
    exact steps_nil
  intro own341 a341 w341 hd341 hz341 hk341 hf341 hE341
  have e341_0 : a341.eval (.tmp 0) = .slice A337 r336.length cA337 := (hk341 0 rfl).trans e340_0
  have e341_3 : a341.eval (.tmp 3) = .pointer (some ⟨g333, 0, none⟩) := (hk341 3 rfl).trans e340_3
  obtain ⟨(f_5 : a341.eval (.tmp 5) = .slice none 0 0), -⟩ := hf341 [0] rfl
  have e341_5 := f_5
  have hX341 := Evo.step hX340 (fun _ => Nat.le_refl 0) hE341 rfl
  have b341_g333 := BlkO.evo (by decide) hE341 b340_g333
  have b341_A337 := RdO.evo rfl hE341 b340_A337
  refine fl_seq (fun Q342 hn342 hp342 => ?_)
  refine rg_plain_seq (n := 129) (rs := []) (own0 := own341) (K := [])
      (bs := [0, 1, 3, 7])
      (ds := [⟨[], [0], [], Fct.val 15 (.slice A337 r336.length cA337)⟩,
      ⟨[0], [], [], Fct.val 16 (.int .i64 (r336.length : Int))⟩,
      ⟨[1], [], [], Fct.val 17 (.int .i64 (sb (r336.length : Int) 1))⟩,
      ⟨[2], [], [], Fct.val 6 (.int .i64 (sb (r336.length : Int) 1))⟩]) (by kernel_rfl) hz341 hd341 (fun _ h => nomatch h) ?_ ?_
  · refine steps_cons (fun own a wx hf hsl hE => ?_) ?_
    · obtain ⟨s_0, -⟩ := hsl
      exact sg_plain rfl rfl (or_move (s_0.trans e341_0))
    refine steps_cons (fun own a wx hf hsl hE => ?_) ?_
    · obtain ⟨(f_15 : a.eval (.tmp 15) = .slice A337 r336.length cA337), -⟩ := hf
      exact sg_plain rfl rfl (or_len tu24 f_15 rfl)
    refine steps_cons (fun own a wx hf hsl hE => ?_) ?_
    · obtain ⟨(f_16 : a.eval (.tmp 16) = .int .i64 (r336.length : Int)), -⟩ := hf
      exact sg_plain rfl rfl (or_sub f_16 rfl rfl)
    refine steps_cons (fun own a wx hf hsl hE => ?_) ?_
    · obtain ⟨(f_17 : a.eval (.tmp 17) = .int .i64 (sb (r336.length : Int) 1)), -⟩ := hf
      exact sg_plain rfl rfl (or_assign f_17)
    exact steps_nil
  intro own343 a343 w343 hd343 hz343 hk343 hf343 hE343
  have e343_0 : a343.eval (.tmp 0) = .slice A337 r336.length cA337 := (hk343 0 rfl).trans e341_0
  have e343_3 : a343.eval (.tmp 3) = .pointer (some ⟨g333, 0, none⟩) := (hk343 3 rfl).trans e341_3
  have e343_5 : a343.eval (.tmp 5) = .slice none 0 0 := (hk343 5 rfl).trans e341_5
  obtain ⟨(f_6 : a343.eval (.tmp 6) = .int .i64 (sb (r336.length : Int) 1)), -⟩ := hf343 [3] rfl
  have e343_6 := f_6
  have hX343 := Evo.step hX341 (fun _ => Nat.le_refl 0) hE343 rfl
  have b343_g333 := BlkO.evo (by decide) hE343 b341_g333
  have b343_A337 := RdO.evo rfl hE343 b341_A337
  refine fl_block (fun Q344 hn344 hx344 hp344 => ?_)
  refine fl_loop (body := (fun s => law22_LineclipTurns_b1 b2 r336 s.1 s.2)) (z := r) (show loopO _ _ = _ from hs) (fun (s : (List (Int × Int)) × Int) a wx => match s with | (t362, i364) => ∃ (ox : Own) (A360 : Option Addr) (c361 : Nat), a.defers = [] ∧ a.tmps.size = 129 ∧ a.eval (.tmp 0) = .slice A337 r336.length cA337 ∧ a.eval (.tmp 3) = .pointer (some ⟨g333, 0, none⟩) ∧ a.eval (.tmp 5) = .slice A360 t362.length c361 ∧ a.eval (.tmp 6) = .int .i64 i364 ∧ Evo [] (fun _ => 0) ox w wx ∧ RdO ox [338, 339, 0] wx R34 A337 cA337 r336 ∧ BlkO ox 334 wx g333 36 #[.int .i64 b2.1.1, .int .i64 b2.1.2, .int .i64 b2.2.1, .int .i64 b2.2.2] ∧ RwO ox 363 [] wx 34 R34 A360 c361 t362) ?_ ?_
  · exact ⟨own343, none, 0, hd343, hz343, e343_0, e343_3, e343_5, e343_6, hX343, b343_A337, b343_g333, RwO.nil_⟩
  · rintro ⟨t362, i364⟩ zz382 a382 w382 ⟨own382, A360, c361, hd383, hz383, e383_0, e383_3, e383_5, e383_6, hE383, b383_A337, b383_g333, b383_A360⟩ hs Q382 hn382 hp382 hz382
    have hs : law22_LineclipTurns_b1 b2 r336 t362 i364 = some zz382 := hs
    refine fl_seq (fun Q384 hn384 hp384 => ?_)
    refine rg_plain_seq (n := 129) (rs := []) (own0 := own382) (K := [])
        (bs := [0, 1])
        (ds := [⟨[], [6], [], Fct.val 18 (.int .i64 i364)⟩,
        ⟨[0], [], [], Fct.val 19 (.bool (decide (0 ≤ i364)))⟩]) (by kernel_rfl) hz383 hd383 (fun _ h => nomatch h) ?_ ?_
    · refine steps_cons (fun own a wx hf hsl hE => ?_) ?_
      · obtain ⟨s_6, -⟩ := hsl
        exact sg_plain rfl rfl (or_move (s_6.trans e383_6))
      refine steps_cons (fun own a wx hf hsl hE => ?_) ?_
      · obtain ⟨(f_18 : a.eval (.tmp 18) = .int .i64 i364), -⟩ := hf
        exact sg_plain rfl rfl (or_geq f_18 rfl rfl)
      exact steps_nil
    intro own385 a385 w385 hd385 hz385 hk385 hf385 hE385
    have e385_0 : a385.eval (.tmp 0) = .slice A337 r336.length cA337 := (hk385 0 rfl).trans e383_0
    have e385_3 : a385.eval (.tmp 3) = .pointer (some ⟨g333, 0, none⟩) := (hk385 3 rfl).trans e383_3
    have e385_5 : a385.eval (.tmp 5) = .slice A360 t362.length c361 := (hk385 5 rfl).trans e383_5
    have e385_6 : a385.eval (.tmp 6) = .int .i64 i364 := (hk385 6 rfl).trans e383_6
    obtain ⟨(f_19 : a385.eval (.tmp 19) = .bool (decide (0 ≤ i364))), -⟩ := hf385 [1] rfl
    have e385_19 := f_19
    have hX385 := Evo.step hE383 (fun _ => Nat.le_refl 0) hE385 rfl
    have b385_A337 := RdO.evo rfl hE385 b383_A337
    have b385_g333 := BlkO.evo (by decide) hE385 b383_g333
    have b385_A360 := RwO.evo rfl hE385 b383_A360
    refine fl_cond e385_19 hs (fun c386 hs => ?_) (fun c386 hs => ?_)
    · refine fl_skip ?_
      refine hn384 _ _ ?_
      refine fl_seq (fun Q387 hn387 hp387 => ?_)
      refine fl_block (fun Q388 hn388 hx388 hp388 => ?_)
      obtain ⟨x392, hx392, hs⟩ := obind hs
      obtain ⟨x395, hx395, hs⟩ := obind hs
      refine rg_plain (n := 129) (rs := [Fct.rowAt 363 [] 34 R34 A360 c361 t362]) (own0 := own385) (K := [363])
          (bs := [0, 0, 0, 6, 14, 30, 63, 127])
          (ds := [⟨[], [5], [], Fct.val 22 (.slice A360 t362.length c361)⟩,
          ⟨[], [0], [], Fct.val 23 (.slice A337 r336.length cA337)⟩,
          ⟨[], [6], [], Fct.val 24 (.int .i64 i364)⟩,
          ⟨[1, 2], [], [], Fct.val 25 (.pointer (some ((adr A337).add ((i364 : Int).toNat * R34.s))))⟩,
          ⟨[3], [], [], Fct.val 26 (.agg #[.int .i64 x392.1, .int .i64 x392.2])⟩,
          ⟨[4], [], [], Fct.row 394 [] 27 34 R34 [x392]⟩,
          ⟨[0, 5, 8], [], [363], Fct.row 396 [] 28 34 R34 x395⟩,
          ⟨[6], [], [], Fct.rel [5, 28] (fun l => ∀ (A397 : Option Addr) (cA397 : Nat), l.getD 1 undef = .slice A397 x395.length cA397 → l.getD 0 undef = .slice A397 x395.length cA397)⟩]) (by kernel_rfl) hz385 hd385 (by simp only [List.forall_mem_cons]; exact ⟨b385_A360, fun _ h => nomatch h⟩) ?_ ?_
      · refine steps_cons (fun own a wx hf hsl hE => ?_) ?_
        · obtain ⟨s_5, -⟩ := hsl
          exact sg_plain rfl rfl (or_move (s_5.trans e385_5))
        refine steps_cons (fun own a wx hf hsl hE => ?_) ?_
        · obtain ⟨s_0, -⟩ := hsl
          exact sg_plain rfl rfl (or_move (s_0.trans e385_0))
        refine steps_cons (fun own a wx hf hsl hE => ?_) ?_
        · obtain ⟨s_6, -⟩ := hsl
          exact sg_plain rfl rfl (or_move (s_6.trans e385_6))
        refine steps_cons (fun own a wx hf hsl hE => ?_) ?_
        · obtain ⟨(f_23 : a.eval (.tmp 23) = .slice A337 r336.length cA337), (f_24 : a.eval (.tmp 24) = .int .i64 i364), -⟩ := hf
          exact sg_plain rfl rfl (or_index (R := R34) (l := r336) tl24 f_23 f_24 (RdO.some_ b385_A337 hx392) hx392)
        refine steps_cons (fun own a wx hf hsl hE => ?_) ?_
        · obtain ⟨(f_25 : a.eval (.tmp 25) = .pointer (some ((adr A337).add ((i364 : Int).toNat * R34.s)))), -⟩ := hf
          exact sg_plain rfl rfl (or_load (l := E34.f x392) ta34 f_25 (RdO.cells (F := E34) (RdO.evo rfl hE b385_A337) hx392) rfl)
        refine steps_cons (fun own a wx hf hsl hE => ?_) ?_
        · obtain ⟨(f_26 : a.eval (.tmp 26) = .agg #[.int .i64 x392.1, .int .i64 x392.2]), -⟩ := hf
          exact sg_plain rfl rfl (or_lit (lab := 394) (e := 34) (cs := #[.int .i64 x392.1, .int .i64 x392.2]) (F := E34) (or_new [(26, .agg #[.int .i64 x392.1, .int .i64 x392.2])] rfl rfl ⟨f_26, trivial⟩ (by kernel_rfl)) rfl rfl (show 1 ≤ maxLen by decide))
        refine steps_cons (fun own a wx hf hsl hE => ?_) ?_
        · obtain ⟨(f_22 : a.eval (.tmp 22) = .slice A360 t362.length c361), ⟨⟨A393, cA393⟩, (f_27 : a.eval (.tmp 27) = .slice A393 [x392].length cA393), (b_A393 : RwO own 394 [] wx 34 R34 A393 cA393 [x392])⟩, (b_A360 : RwO own 363 [] wx 34 R34 A360 c361 t362), -⟩ := hf
          exact sg_plain rfl rfl (or_append (R := R34) (lab := 363) (lab2 := 396) (L := []) (L3 := []) tp24 f_22 b_A360 (by decide) f_27 (RwO.rd b_A393) hx395 (by decide) (by decide) (mem_of rfl) (.inl (Rep.fl_flat _)))
        refine steps_cons (fun own a wx hf hsl hE => ?_) ?_
        · obtain ⟨⟨⟨A397, cA397⟩, (f_28 : a.eval (.tmp 28) = .slice A397 x395.length cA397), (b_A397 : RwO own 396 [] wx 34 R34 A397 cA397 x395)⟩, -⟩ := hf
          exact sg_plain rfl rfl (or_mono (f := Fct.val 5 (.slice A397 x395.length cA397)) (or_assign f_28) (fun own' a' w' v' hp h => fun _ _ h0' => by cases (f_28.symm.trans ((hp.2 28 (by decide)).symm.trans h0')); exact h))
        exact steps_nil
      intro own398 a398 w398 hd398 hz398 hk398 hf398 hE398
      have e398_0 : a398.eval (.tmp 0) = .slice A337 r336.length cA337 := (hk398 0 rfl).trans e385_0
      have e398_3 : a398.eval (.tmp 3) = .pointer (some ⟨g333, 0, none⟩) := (hk398 3 rfl).trans e385_3
      have e398_6 : a398.eval (.tmp 6) = .int .i64 i364 := (hk398 6 rfl).trans e385_6
      obtain ⟨⟨⟨A397, cA397⟩, (f_28 : a398.eval (.tmp 28) = .slice A397 x395.length cA397), (b_A397 : RwO own398 396 [] w398 34 R34 A397 cA397 x395)⟩, (q_5 : ∀ (A397 : Option Addr) (cA397 : Nat), a398.eval (.tmp 28) = .slice A397 x395.length cA397 → a398.eval (.tmp 5) = .slice A397 x395.length cA397), -⟩ := hf398 [6, 7] rfl
      have f_5 := q_5 _ _ f_28
      have e398_5 := f_5
      have hX398 := Evo.step hX385 (fun _ => Nat.le_refl 0) hE398 rfl
      have b398_A337 := RdO.evo rfl hE398 b385_A337
      have b398_g333 := BlkO.evo (by decide) hE398 b385_g333
      have b398_A397 := b_A397
      refine hn388 _ _ ?_
      refine hn387 _ _ ?_
      refine rg_plain (n := 129) (rs := []) (own0 := own398) (K := [])
          (bs := [0, 1, 3])
          (ds := [⟨[], [6], [], Fct.val 20 (.int .i64 i364)⟩,
          ⟨[0], [], [], Fct.val 21 (.int .i64 (sb i364 1))⟩,
          ⟨[1], [], [], Fct.val 6 (.int .i64 (sb i364 1))⟩]) (by kernel_rfl) hz398 hd398 (fun _ h => nomatch h) ?_ ?_
      · refine steps_cons (fun own a wx hf hsl hE => ?_) ?_
        · obtain ⟨s_6, -⟩ := hsl
          exact sg_plain rfl rfl (or_move (s_6.trans e398_6))
        refine steps_cons (fun own a wx hf hsl hE => ?_) ?_
        · obtain ⟨(f_20 : a.eval (.tmp 20) = .int .i64 i364), -⟩ := hf
          exact sg_plain rfl rfl (or_sub f_20 rfl rfl)
        refine steps_cons (fun own a wx hf hsl hE => ?_) ?_
        · obtain ⟨(f_21 : a.eval (.tmp 21) = .int .i64 (sb i364 1)), -⟩ := hf
          exact sg_plain rfl rfl (or_assign f_21)
        exact steps_nil
      intro own399 a399 w399 hd399 hz399 hk399 hf399 hE399
      have e399_0 : a399.eval (.tmp 0) = .slice A337 r336.length cA337 := (hk399 0 rfl).trans e398_0
      have e399_3 : a399.eval (.tmp 3) = .pointer (some ⟨g333, 0, none⟩) := (hk399 3 rfl).trans e398_3
      have e399_5 : a399.eval (.tmp 5) = .slice A397 x395.length cA397 := (hk399 5 rfl).trans e398_5
      obtain ⟨(f_6 : a399.eval (.tmp 6) = .int .i64 (sb i364 1)), -⟩ := hf399 [2] rfl
      have e399_6 := f_6
      have hX399 := Evo.step hX398 (fun _ => Nat.le_refl 0) hE399 rfl
      have b399_A337 := RdO.evo rfl hE399 b398_A337
      have b399_g333 := BlkO.evo (by decide) hE399 b398_g333
      have b399_A397 := RwO.evo rfl hE399 b398_A397
      exact hn382 _ _ _ hs ⟨(rl [(396, 363)] own399), A397, cA397, hd399, hz399, e399_0, e399_3, e399_5, e399_6, (Evo.rl_ hX399 (fun _ => Nat.le_refl 0) rfl), (RdO.rl_ (mm := [(396, 363)]) b399_A337), (BlkO.rl_ (mm := [(396, 363)]) b399_g333), (RwO.rl_ (mm := [(396, 363)]) b399_A397)⟩
    refine fl_exit ?_
    refine hp384 _ _ _ rfl ?_
    replace hs := hz382 _ hs
    refine hp382 _ _ _ rfl ?_
    refine hx344 _ _ ?_
    refine hn342 _ _ ?_
    obtain ⟨r400, hr400, hs⟩ := obind hs
    obtain ⟨r404, hr404, hs⟩ := obind hs
    refine rg_draw_seq g_mixed (n := 129) (rs := []) (own0 := own385) (K := [])
        (bs := [0, 0, 3, 0, 0, 31, 63, 127])
        (ds := [⟨[], [0], [], Fct.val 29 (.slice A337 r336.length cA337)⟩,
        ⟨[], [3], [], Fct.val 30 (.agg #[.int .i64 b2.1.1, .int .i64 b2.1.2, .int .i64 b2.2.1, .int .i64 b2.2.2])⟩,
        ⟨[0, 1], [], [], Fct.row 402 [403] 31 24 R24 r400⟩,
        ⟨[], [5], [], Fct.val 32 (.slice A360 t362.length c361)⟩,
        ⟨[], [3], [], Fct.val 33 (.agg #[.int .i64 b2.1.1, .int .i64 b2.1.2, .int .i64 b2.2.1, .int .i64 b2.2.2])⟩,
        ⟨[3, 4], [], [], Fct.row 406 [407] 34 24 R24 r404⟩,
        ⟨[2], [], [], Fct.rel [7, 31] (fun l => ∀ (A401 : Option Addr) (cA401 : Nat), l.getD 1 undef = .slice A401 r400.length cA401 → l.getD 0 undef = .slice A401 r400.length cA401)⟩,
        ⟨[5], [], [], Fct.rel [8, 34] (fun l => ∀ (A405 : Option Addr) (cA405 : Nat), l.getD 1 undef = .slice A405 r404.length cA405 → l.getD 0 undef = .slice A405 r404.length cA405)⟩]) (by kernel_rfl) hz385 hd385 (fun _ h => nomatch h) ?_ ?_
    · refine steps_cons (fun own a wx hf hsl hE => ?_) ?_
      · obtain ⟨s_0, -⟩ := hsl
        exact sg_plain rfl rfl (or_move (s_0.trans e385_0))
      refine steps_cons (fun own a wx hf hsl hE => ?_) ?_
      · obtain ⟨s_3, -⟩ := hsl
        exact sg_plain rfl rfl (or_load (l := [.int .i64 b2.1.1, .int .i64 b2.1.2, .int .i64 b2.2.1, .int .i64 b2.2.2]) ta36 (s_3.trans e385_3) (Blk.cellsFrom (BlkO.evo (by decide) hE b385_g333).2 0 rfl) rfl)
      refine steps_cons (fun own a wx hf hsl hE => ?_) ?_
      · obtain ⟨(f_29 : a.eval (.tmp 29) = .slice A337 r336.length cA337), (f_30 : a.eval (.tmp 30) = .agg #[.int .i64 b2.1.1, .int .i64 b2.1.2, .int .i64 b2.2.1, .int .i64 b2.2.2]), -⟩ := hf
        exact sg_plain rfl rfl (or_call cf16 (args2 f_29 f_30) (lineclip_Parts_w _ r336 A337 cA337 b2 (RdO.zero (RdO.evo rfl hE b385_A337)) r400 hr400) (post_row (m' := (look0 [(1, 402), (2, 403)])) (.inr (by decide)) rfl rfl (fun _ => rfl)))
      refine steps_cons (fun own a wx hf hsl hE => ?_) ?_
      · obtain ⟨s_5, -⟩ := hsl
        exact sg_plain rfl rfl (or_move (s_5.trans e385_5))
      refine steps_cons (fun own a wx hf hsl hE => ?_) ?_
      · obtain ⟨s_3, -⟩ := hsl
        exact sg_plain rfl rfl (or_load (l := [.int .i64 b2.1.1, .int .i64 b2.1.2, .int .i64 b2.2.1, .int .i64 b2.2.2]) ta36 (s_3.trans e385_3) (Blk.cellsFrom (BlkO.evo (by decide) hE b385_g333).2 0 rfl) rfl)
      refine steps_cons (fun own a wx hf hsl hE => ?_) ?_
      · obtain ⟨(f_32 : a.eval (.tmp 32) = .slice A360 t362.length c361), (f_33 : a.eval (.tmp 33) = .agg #[.int .i64 b2.1.1, .int .i64 b2.1.2, .int .i64 b2.2.1, .int .i64 b2.2.2]), -⟩ := hf
        exact sg_plain rfl rfl (or_call cf16 (args2 f_32 f_33) (lineclip_Parts_w _ t362 A360 c361 b2 (RdO.zero (RwO.rd (RwO.evo rfl hE b385_A360))) r404 hr404) (post_row (m' := (look0 [(1, 406), (2, 407)])) (.inr (by decide)) rfl rfl (fun _ => rfl)))
      refine steps_cons (fun own a wx hf hsl hE => ?_) ?_
      · obtain ⟨⟨⟨A401, cA401⟩, (f_31 : a.eval (.tmp 31) = .slice A401 r400.length cA401), (b_A401 : RwO own 402 [403] wx 24 R24 A401 cA401 r400)⟩, -⟩ := hf
        exact sg_plain rfl rfl (or_mono (f := Fct.val 7 (.slice A401 r400.length cA401)) (or_assign f_31) (fun own' a' w' v' hp h => fun _ _ h0' => by cases (f_31.symm.trans ((hp.2 31 (by decide)).symm.trans h0')); exact h))
      refine steps_cons (fun own a wx hf hsl hE => ?_) ?_
      · obtain ⟨⟨⟨A405, cA405⟩, (f_34 : a.eval (.tmp 34) = .slice A405 r404.length cA405), (b_A405 : RwO own 406 [407] wx 24 R24 A405 cA405 r404)⟩, -⟩ := hf
        exact sg_plain rfl rfl (or_mono (f := Fct.val 8 (.slice A405 r404.length cA405)) (or_assign f_34) (fun own' a' w' v' hp h => fun _ _ h0' => by cases (f_34.symm.trans ((hp.2 34 (by decide)).symm.trans h0')); exact h))
      exact steps_nil
    intro own408 a408 w408 hd408 hz408 hk408 hf408 hE408
    have e408_0 : a408.eval (.tmp 0) = .slice A337 r336.length cA337 := (hk408 0 rfl).trans e385_0
    have e408_3 : a408.eval (.tmp 3) = .pointer (some ⟨g333, 0, none⟩) := (hk408 3 rfl).trans e385_3
    have e408_5 : a408.eval (.tmp 5) = .slice A360 t362.length c361 := (hk408 5 rfl).trans e385_5
    obtain ⟨⟨⟨A401, cA401⟩, (f_31 : a408.eval (.tmp 31) = .slice A401 r400.length cA401), (b_A401 : RwO own408 402 [403] w408 24 R24 A401 cA401 r400)⟩, (q_7 : ∀ (A401 : Option Addr) (cA401 : Nat), a408.eval (.tmp 31) = .slice A401 r400.length cA401 → a408.eval (.tmp 7) = .slice A401 r400.length cA401), ⟨⟨A405, cA405⟩, (f_34 : a408.eval (.tmp 34) = .slice A405 r404.length cA405), (b_A405 : RwO own408 406 [407] w408 24 R24 A405 cA405 r404)⟩, (q_8 : ∀ (A405 : Option Addr) (cA405 : Nat), a408.eval (.tmp 34) = .slice A405 r404.length cA405 → a408.eval (.tmp 8) = .slice A405 r404.length cA405), -⟩ := hf408 [2, 6, 5, 7] rfl
    have f_7 := q_7 _ _ f_31
    have f_8 := q_8 _ _ f_34
    have e408_7 := f_7
    have e408_8 := f_8
    have hX408 := Evo.step hX385 (fun _ => Nat.le_refl 0) hE408 rfl
    have b408_A337 := RdO.evo rfl hE408 b385_A337
    have b408_g333 := BlkO.evo (by decide) hE408 b385_g333
    have b408_A360 := RwO.evo rfl hE408 b385_A360
    have b408_A401 := b_A401
    have b408_A405 := b_A405
    refine fl_seq (fun Q409 hn409 hp409 => ?_)
    obtain ⟨r410, hr410, hs⟩ := obind hs
    obtain ⟨r411, hr411, hs⟩ := obind hs
    obtain ⟨x412, hx412, hs⟩ := obind hs
    refine rg_draw_seq g_mixed (n := 129) (rs := []) (own0 := own408) (K := [])
        (bs := [0, 1, 0, 4, 15, 31, 63, 63, 255, 63, 63, 2047, 4095, 8191])
        (ds := [⟨[], [7], [], Fct.val 35 (.slice A401 r400.length cA401)⟩,
        ⟨[0], [], [], Fct.val 36 (.int .i64 (r400.length : Int))⟩,
        ⟨[], [8], [], Fct.val 37 (.slice A405 r404.length cA405)⟩,
        ⟨[2], [], [], Fct.val 38 (.int .i64 (r404.length : Int))⟩,
        ⟨[1, 3], [], [], Fct.val 39 (.bool (!decide ((r400.length : Int) = (r404.length : Int))))⟩,
        ⟨[4], [], [], Fct.val 40 (.bool (!decide ((r400.length : Int) = (r404.length : Int))))⟩,
        ⟨[5], [0], [], Fct.cond (!(!decide ((r400.length : Int) = (r404.length : Int)))) (some 41) (Fct.val 41 (.slice A337 r336.length cA337))⟩,
        ⟨[5], [3], [], Fct.cond (!(!decide ((r400.length : Int) = (r404.length : Int)))) (some 42) (Fct.val 42 (.agg #[.int .i64 b2.1.1, .int .i64 b2.1.2, .int .i64 b2.2.1, .int .i64 b2.2.2]))⟩,
        ⟨[5, 6, 7], [], [], Fct.cond (!(!decide ((r400.length : Int) = (r404.length : Int)))) (some 43) (Fct.val 43 (.int .i64 r410))⟩,
        ⟨[5], [5], [], Fct.cond (!(!decide ((r400.length : Int) = (r404.length : Int)))) (some 44) (Fct.val 44 (.slice A360 t362.length c361))⟩,
        ⟨[5], [3], [], Fct.cond (!(!decide ((r400.length : Int) = (r404.length : Int)))) (some 45) (Fct.val 45 (.agg #[.int .i64 b2.1.1, .int .i64 b2.1.2, .int .i64 b2.2.1, .int .i64 b2.2.2]))⟩,
        ⟨[5, 9, 10], [], [], Fct.cond (!(!decide ((r400.length : Int) = (r404.length : Int)))) (some 46) (Fct.val 46 (.int .i64 r411))⟩,
        ⟨[5, 8, 11], [], [], Fct.cond (!(!decide ((r400.length : Int) = (r404.length : Int)))) (some 47) (Fct.val 47 (.bool (!decide (r410 = r411))))⟩,
        ⟨[5, 12], [], [], Fct.val 48 (.bool x412)⟩]) (by kernel_rfl) hz408 hd408 (fun _ h => nomatch h) ?_ ?_
    · refine steps_cons (fun own a wx hf hsl hE => ?_) ?_
      · obtain ⟨s_7, -⟩ := hsl
        exact sg_plain rfl rfl (or_move (s_7.trans e408_7))
      refine steps_cons (fun own a wx hf hsl hE => ?_) ?_
      · obtain ⟨(f_35 : a.eval (.tmp 35) = .slice A401 r400.length cA401), -⟩ := hf
        exact sg_plain rfl rfl (or_len tu22 f_35 rfl)
      refine steps_cons (fun own a wx hf hsl hE => ?_) ?_
      · obtain ⟨s_8, -⟩ := hsl
        exact sg_plain rfl rfl (or_move (s_8.trans e408_8))
      refine steps_cons (fun own a wx hf hsl hE => ?_) ?_
      · obtain ⟨(f_37 : a.eval (.tmp 37) = .slice A405 r404.length cA405), -⟩ := hf
        exact sg_plain rfl rfl (or_len tu22 f_37 rfl)
      refine steps_cons (fun own a wx hf hsl hE => ?_) ?_
      · obtain ⟨(f_36 : a.eval (.tmp 36) = .int .i64 (r400.length : Int)), (f_38 : a.eval (.tmp 38) = .int .i64 (r404.length : Int)), -⟩ := hf
        exact sg_plain rfl rfl (or_neq f_36 f_38 rfl)
      refine steps_cons (fun own a wx hf hsl hE => ?_) ?_
      · obtain ⟨(f_39 : a.eval (.tmp 39) = .bool (!decide ((r400.length : Int) = (r404.length : Int)))), -⟩ := hf
        exact sg_plain rfl rfl (or_move f_39)
      refine steps_cons (fun own a wx hf hsl hE => ?_) ?_
      · obtain ⟨(f_40 : a.eval (.tmp 40) = .bool (!decide ((r400.length : Int) = (r404.length : Int)))), -⟩ := hf
        obtain ⟨s_0, -⟩ := hsl
        refine sg_f rfl rfl rfl f_40 (fun hg => ?_)
        exact or_move (s_0.trans e408_0)
      refine steps_cons (fun own a wx hf hsl hE => ?_) ?_
      · obtain ⟨(f_40 : a.eval (.tmp 40) = .bool (!decide ((r400.length : Int) = (r404.length : Int)))), -⟩ := hf
        obtain ⟨s_3, -⟩ := hsl
        refine sg_f rfl rfl rfl f_40 (fun hg => ?_)
        exact or_load (l := [.int .i64 b2.1.1, .int .i64 b2.1.2, .int .i64 b2.2.1, .int .i64 b2.2.2]) ta36 (s_3.trans e408_3) (Blk.cellsFrom (BlkO.evo (by decide) hE b408_g333).2 0 rfl) rfl
      refine steps_cons (fun own a wx hf hsl hE => ?_) ?_
      · obtain ⟨(f_40 : a.eval (.tmp 40) = .bool (!decide ((r400.length : Int) = (r404.length : Int)))), c_41, c_42, -⟩ := hf
        refine sg_f rfl rfl rfl f_40 (fun hg => ?_)
        have f_41 : a.eval (.tmp 41) = .slice A337 r336.length cA337 := c_41.1 hg
        have f_42 : a.eval (.tmp 42) = .agg #[.int .i64 b2.1.1, .int .i64 b2.1.2, .int .i64 b2.2.1, .int .i64 b2.2.2] := c_42.1 hg
        exact or_call cf18 (args2 f_41 f_42) (lineclip_Count_w _ r336 A337 cA337 b2 (RdO.zero (RdO.evo rfl hE b408_A337)) r410 (gd_t hr410 hg)) post_val
      refine steps_cons (fun own a wx hf hsl hE => ?_) ?_
      · obtain ⟨(f_40 : a.eval (.tmp 40) = .bool (!decide ((r400.length : Int) = (r404.length : Int)))), -⟩ := hf
        obtain ⟨s_5, -⟩ := hsl
        refine sg_f rfl rfl rfl f_40 (fun hg => ?_)
        exact or_move (s_5.trans e408_5)
      refine steps_cons (fun own a wx hf hsl hE => ?_) ?_
      · obtain ⟨(f_40 : a.eval (.tmp 40) = .bool (!decide ((r400.length : Int) = (r404.length : Int)))), -⟩ := hf
        obtain ⟨s_3, -⟩ := hsl
        refine sg_f rfl rfl rfl f_40 (fun hg => ?_)
        exact or_load (l := [.int .i64 b2.1.1, .int .i64 b2.1.2, .int .i64 b2.2.1, .int .i64 b2.2.2]) ta36 (s_3.trans e408_3) (Blk.cellsFrom (BlkO.evo (by decide) hE b408_g333).2 0 rfl) rfl
      refine steps_cons (fun own a wx hf hsl hE => ?_) ?_
      · obtain ⟨(f_40 : a.eval (.tmp 40) = .bool (!decide ((r400.length : Int) = (r404.length : Int)))), c_44, c_45, -⟩ := hf
        refine sg_f rfl rfl rfl f_40 (fun hg => ?_)
        have f_44 : a.eval (.tmp 44) = .slice A360 t362.length c361 := c_44.1 hg
        have f_45 : a.eval (.tmp 45) = .agg #[.int .i64 b2.1.1, .int .i64 b2.1.2, .int .i64 b2.2.1, .int .i64 b2.2.2] := c_45.1 hg
        exact or_call cf18 (args2 f_44 f_45) (lineclip_Count_w _ t362 A360 c361 b2 (RdO.zero (RwO.rd (RwO.evo rfl hE b408_A360))) r411 (gd_t hr411 hg)) post_val
      refine steps_cons (fun own a wx hf hsl hE => ?_) ?_
      · obtain ⟨(f_40 : a.eval (.tmp 40) = .bool (!decide ((r400.length : Int) = (r404.length : Int)))), c_43, c_46, -⟩ := hf
        refine sg_f rfl rfl rfl f_40 (fun hg => ?_)
        have f_43 : a.eval (.tmp 43) = .int .i64 r410 := c_43.1 hg
        have f_46 : a.eval (.tmp 46) = .int .i64 r411 := c_46.1 hg
        exact or_neq f_43 f_46 rfl
      refine steps_cons (fun own a wx hf hsl hE => ?_) ?_
      · obtain ⟨(f_40 : a.eval (.tmp 40) = .bool (!decide ((r400.length : Int) = (r404.length : Int)))), c_47, -⟩ := hf
        exact sg_plain rfl rfl (or_or f_40 rfl (fun hx => c_47.1 hx) (osome hx412).symm)
      exact steps_nil
    intro own413 a413 w413 hd413 hz413 hk413 hf413 hE413
    have e413_0 : a413.eval (.tmp 0) = .slice A337 r336.length cA337 := (hk413 0 rfl).trans e408_0
    have e413_3 : a413.eval (.tmp 3) = .pointer (some ⟨g333, 0, none⟩) := (hk413 3 rfl).trans e408_3
    have e413_5 : a413.eval (.tmp 5) = .slice A360 t362.length c361 := (hk413 5 rfl).trans e408_5
    have e413_7 : a413.eval (.tmp 7) = .slice A401 r400.length cA401 := (hk413 7 rfl).trans e408_7
    have e413_8 : a413.eval (.tmp 8) = .slice A405 r404.length cA405 := (hk413 8 rfl).trans e408_8
    obtain ⟨(f_48 : a413.eval (.tmp 48) = .bool x412), -⟩ := hf413 [13] rfl
    have e413_48 := f_48
    have hX413 := Evo.step hX408 (fun _ => Nat.le_refl 0) hE413 rfl
    have b413_A337 := RdO.evo rfl hE413 b408_A337
    have b413_g333 := BlkO.evo (by decide) hE413 b408_g333
    have b413_A360 := RwO.evo rfl hE413 b408_A360
    have b413_A401 := RwO.evo rfl hE413 b408_A401
    have b413_A405 := RwO.evo rfl hE413 b408_A405
    refine fl_cond e413_48 hs (fun c414 hs => ?_) (fun c414 hs => ?_)
    · refine rg_plain_seq (n := 129) (rs := []) (own0 := own413) (K := [])
          (bs := [0])
          (ds := [⟨[], [], [], Fct.val 4 (.bool false)⟩]) (by kernel_rfl) hz413 hd413 (fun _ h => nomatch h) ?_ ?_
      · refine steps_cons (fun own a wx hf hsl hE => ?_) ?_
        · exact sg_plain rfl rfl (or_assign rfl)
        exact steps_nil
      intro own415 a415 w415 hd415 hz415 hk415 hf415 hE415
      obtain ⟨(f_4 : a415.eval (.tmp 4) = .bool false), -⟩ := hf415 [0] rfl
      have e415_4 := f_4
      have hX415 := Evo.step hX413 (fun _ => Nat.le_refl 0) hE415 rfl
      refine fl_ret ?_
      refine hp409 _ _ _ rfl ?_
      obtain rfl := osome hs
      exact hret _ _ _ _ (.inl rfl) hd415 (results1_ rfl (RVal.tmp_ e415_4)) ⟨own415, rfl, hX415⟩
    refine fl_skip ?_
    refine hn409 _ _ ?_
    refine fl_seq (fun Q416 hn416 hp416 => ?_)
    refine rg_plain_seq (n := 129) (rs := []) (own0 := own413) (K := [])
        (bs := [0])
        (ds := [⟨[], [], [], Fct.val 9 (.int .i64 0)⟩]) (by kernel_rfl) hz413 hd413 (fun _ h => nomatch h) ?_ ?_
    · refine steps_cons (fun own a wx hf hsl hE => ?_) ?_
      · exact sg_plain rfl rfl (or_assign rfl)
      exact steps_nil
    intro own417 a417 w417 hd417 hz417 hk417 hf417 hE417
    have e417_0 : a417.eval (.tmp 0) = .slice A337 r336.length cA337 := (hk417 0 rfl).trans e413_0
    have e417_3 : a417.eval (.tmp 3) = .pointer (some ⟨g333, 0, none⟩) := (hk417 3 rfl).trans e413_3
    have e417_5 : a417.eval (.tmp 5) = .slice A360 t362.length c361 := (hk417 5 rfl).trans e413_5
    have e417_7 : a417.eval (.tmp 7) = .slice A401 r400.length cA401 := (hk417 7 rfl).trans e413_7
    have e417_8 : a417.eval (.tmp 8) = .slice A405 r404.length cA405 := (hk417 8 rfl).trans e413_8
    obtain ⟨(f_9 : a417.eval (.tmp 9) = .int .i64 0), -⟩ := hf417 [0] rfl
    have e417_9 := f_9
    have hX417 := Evo.step hX413 (fun _ => Nat.le_refl 0) hE417 rfl
    have b417_A337 := RdO.evo rfl hE417 b413_A337
    have b417_g333 := BlkO.evo (by decide) hE417 b413_g333
    have b417_A360 := RwO.evo rfl hE417 b413_A360
    have b417_A401 := RwO.evo rfl hE417 b413_A401
    have b417_A405 := RwO.evo rfl hE417 b413_A405
    refine fl_block (fun Q418 hn418 hx418 hp418 => ?_)
    refine fl_loop (body := (fun s => law22_LineclipTurns_b2 b2 r336 t362 r400 r404 s)) (z := r) (show loopO _ _ = _ from hs) (fun (i501 : Int) a wx => ∃ (ox : Own), a.defers = [] ∧ a.tmps.size = 129 ∧ a.eval (.tmp 0) = .slice A337 r336.length cA337 ∧ a.eval (.tmp 3) = .pointer (some ⟨g333, 0, none⟩) ∧ a.eval (.tmp 5) = .slice A360 t362.length c361 ∧ a.eval (.tmp 7) = .slice A401 r400.length cA401 ∧ a.eval (.tmp 8) = .slice A405 r404.length cA405 ∧ a.eval (.tmp 9) = .int .i64 i501 ∧ Evo [] (fun _ => 0) ox w wx ∧ RdO ox [0, 496] wx R34 A337 cA337 r336 ∧ BlkO ox 334 wx g333 36 #[.int .i64 b2.1.1, .int .i64 b2.1.2, .int .i64 b2.2.1, .int .i64 b2.2.2] ∧ RwO ox 363 [] wx 34 R34 A360 c361 t362 ∧ RwO ox 497 [497] wx 24 R24 A401 cA401 r400 ∧ RwO ox 499 [499] wx 24 R24 A405 cA405 r404) ?_ ?_
    · exact ⟨(rl [(338, 496), (339, 496), (402, 497), (403, 497), (406, 499), (407, 499)] own417), hd417, hz417, e417_0, e417_3, e417_5, e417_7, e417_8, e417_9, (Evo.rl_ hX417 (fun _ => Nat.le_refl 0) rfl), (RdO.more (RdO.rl_ (mm := [(338, 496), (339, 496), (402, 497), (403, 497), (406, 499), (407, 499)]) b417_A337) (by decide)), (BlkO.rl_ (mm := [(338, 496), (339, 496), (402, 497), (403, 497), (406, 499), (407, 499)]) b417_g333), (RwO.rl_ (mm := [(338, 496), (339, 496), (402, 497), (403, 497), (406, 499), (407, 499)]) b417_A360), (RwO.rl_ (mm := [(338, 496), (339, 496), (402, 497), (403, 497), (406, 499), (407, 499)]) b417_A401), (RwO.rl_ (mm := [(338, 496), (339, 496), (402, 497), (403, 497), (406, 499), (407, 499)]) b417_A405)⟩
    · rintro i501 zz576 a576 w576 ⟨own576, hd577, hz577, e577_0, e577_3, e577_5, e577_7, e577_8, e577_9, hE577, b577_A337, b577_g333, b577_A360, b577_A401, b577_A405⟩ hs Q576 hn576 hp576 hz576
      have hs : law22_LineclipTurns_b2 b2 r336 t362 r400 r404 i501 = some zz576 := hs
      refine fl_seq (fun Q578 hn578 hp578 => ?_)
      refine rg_plain_seq (n := 129) (rs := []) (own0 := own576) (K := [])
          (bs := [0, 0, 2, 7])
          (ds := [⟨[], [9], [], Fct.val 49 (.int .i64 i501)⟩,
          ⟨[], [7], [], Fct.val 50 (.slice A401 r400.length cA401)⟩,
          ⟨[1], [], [], Fct.val 51 (.int .i64 (r400.length : Int))⟩,
          ⟨[0, 2], [], [], Fct.val 52 (.bool (decide (i501 < (r400.length : Int))))⟩]) (by kernel_rfl) hz577 hd577 (fun _ h => nomatch h) ?_ ?_
      · refine steps_cons (fun own a wx hf hsl hE => ?_) ?_
        · obtain ⟨s_9, -⟩ := hsl
          exact sg_plain rfl rfl (or_move (s_9.trans e577_9))
        refine steps_cons (fun own a wx hf hsl hE => ?_) ?_
        · obtain ⟨s_7, -⟩ := hsl
          exact sg_plain rfl rfl (or_move (s_7.trans e577_7))
        refine steps_cons (fun own a wx hf hsl hE => ?_) ?_
        · obtain ⟨(f_50 : a.eval (.tmp 50) = .slice A401 r400.length cA401), -⟩ := hf
          exact sg_plain rfl rfl (or_len tu22 f_50 rfl)
        refine steps_cons (fun own a wx hf hsl hE => ?_) ?_
        · obtain ⟨(f_49 : a.eval (.tmp 49) = .int .i64 i501), (f_51 : a.eval (.tmp 51) = .int .i64 (r400.length : Int)), -⟩ := hf
          exact sg_plain rfl rfl (or_lss f_49 f_51 rfl)
        exact steps_nil
      intro own579 a579 w579 hd579 hz579 hk579 hf579 hE579
      have e579_0 : a579.eval (.tmp 0) = .slice A337 r336.length cA337 := (hk579 0 rfl).trans e577_0
      have e579_3 : a579.eval (.tmp 3) = .pointer (some ⟨g333, 0, none⟩) := (hk579 3 rfl).trans e577_3
      have e579_5 : a579.eval (.tmp 5) = .slice A360 t362.length c361 := (hk579 5 rfl).trans e577_5
      have e579_7 : a579.eval (.tmp 7) = .slice A401 r400.length cA401 := (hk579 7 rfl).trans e577_7
      have e579_8 : a579.eval (.tmp 8) = .slice A405 r404.length cA405 := (hk579 8 rfl).trans e577_8
      have e579_9 : a579.eval (.tmp 9) = .int .i64 i501 := (hk579 9 rfl).trans e577_9
      obtain ⟨(f_52 : a579.eval (.tmp 52) = .bool (decide (i501 < (r400.length : Int)))), -⟩ := hf579 [3] rfl
      have e579_52 := f_52
      have hX579 := Evo.step hE577 (fun _ => Nat.le_refl 0) hE579 rfl
      have b579_A337 := RdO.evo rfl hE579 b577_A337
      have b579_g333 := BlkO.evo (by decide) hE579 b577_g333
      have b579_A360 := RwO.evo rfl hE579 b577_A360
      have b579_A401 := RwO.evo rfl hE579 b577_A401
      have b579_A405 := RwO.evo rfl hE579 b577_A405
      refine fl_cond e579_52 hs (fun c580 hs => ?_) (fun c580 hs => ?_)
      · refine fl_skip ?_
        refine hn578 _ _ ?_
        refine fl_seq (fun Q581 hn581 hp581 => ?_)
        refine fl_block (fun Q582 hn582 hx582 hp582 => ?_)
        obtain ⟨x583, hx583, hs⟩ := obind hs
        obtain ⟨x585, hx585, hs⟩ := obind hs
        refine rg_draw_seq g_mixed (n := 129) (rs := []) (own0 := own579) (K := [])
            (bs := [0, 0, 3, 7, 0, 0, 32, 96, 0, 480, 1008, 2032, 15, 8191])
            (ds := [⟨[], [7], [], Fct.val 55 (.slice A401 r400.length cA401)⟩,
            ⟨[], [9], [], Fct.val 56 (.int .i64 i501)⟩,
            ⟨[0, 1], [], [], Fct.val 57 (.pointer (some ((adr A401).add ((i501 : Int).toNat * R24.s))))⟩,
            ⟨[2], [], [], Fct.nest X24 [497, 497] 58 (fun (y : (Option Addr × Nat)) => .slice y.1 x583.length y.2) x583⟩,
            ⟨[], [8], [], Fct.val 59 (.slice A405 r404.length cA405)⟩,
            ⟨[], [8], [], Fct.val 60 (.slice A405 r404.length cA405)⟩,
            ⟨[5], [], [], Fct.val 61 (.int .i64 (r404.length : Int))⟩,
            ⟨[6], [], [], Fct.val 62 (.int .i64 (sb (r404.length : Int) 1))⟩,
            ⟨[], [9], [], Fct.val 63 (.int .i64 i501)⟩,
            ⟨[7, 8], [], [], Fct.val 64 (.int .i64 (sb (sb (r404.length : Int) 1) i501))⟩,
            ⟨[4, 9], [], [], Fct.val 65 (.pointer (some ((adr A405).add ((sb (sb (r404.length : Int) 1) i501 : Int).toNat * R24.s))))⟩,
            ⟨[10], [], [], Fct.nest X24 [499, 499] 66 (fun (y : (Option Addr × Nat)) => .slice y.1 x585.length y.2) x585⟩,
            ⟨[3], [], [], Fct.rel [10, 58] (fun l => ∀ (A584 : Option Addr) (cA584 : Nat), l.getD 1 undef = .slice A584 x583.length cA584 → l.getD 0 undef = .slice A584 x583.length cA584)⟩,
            ⟨[11], [], [], Fct.rel [11, 66] (fun l => ∀ (A586 : Option Addr) (cA586 : Nat), l.getD 1 undef = .slice A586 x585.length cA586 → l.getD 0 undef = .slice A586 x585.length cA586)⟩]) (by kernel_rfl) hz579 hd579 (fun _ h => nomatch h) ?_ ?_
        · refine steps_cons (fun own a wx hf hsl hE => ?_) ?_
          · obtain ⟨s_7, -⟩ := hsl
            exact sg_plain rfl rfl (or_move (s_7.trans e579_7))
          refine steps_cons (fun own a wx hf hsl hE => ?_) ?_
          · obtain ⟨s_9, -⟩ := hsl
            exact sg_plain rfl rfl (or_move (s_9.trans e579_9))
          refine steps_cons (fun own a wx hf hsl hE => ?_) ?_
          · obtain ⟨(f_55 : a.eval (.tmp 55) = .slice A401 r400.length cA401), (f_56 : a.eval (.tmp 56) = .int .i64 i501), -⟩ := hf
            exact sg_plain rfl rfl (or_index (R := R24) (l := r400) tl22 f_55 f_56 (RdO.some_ (RwO.rd b579_A401) hx583) hx583)
          refine steps_cons (fun own a wx hf hsl hE => ?_) ?_
          · obtain ⟨(f_57 : a.eval (.tmp 57) = .pointer (some ((adr A401).add ((i501 : Int).toNat * R24.s)))), -⟩ := hf
            exact sg_plain rfl rfl (or_loadN1 X24 0 to24 f_57 (Addr.add_zero' _).symm (RwO.rd (RwO.evo rfl hE b579_A401)) hx583 (fun _ => rfl))
          refine steps_cons (fun own a wx hf hsl hE => ?_) ?_
          · obtain ⟨s_8, -⟩ := hsl
            exact sg_plain rfl rfl (or_move (s_8.trans e579_8))
          refine steps_cons (fun own a wx hf hsl hE => ?_) ?_
          · obtain ⟨s_8, -⟩ := hsl
            exact sg_plain rfl rfl (or_move (s_8.trans e579_8))
          refine steps_cons (fun own a wx hf hsl hE => ?_) ?_
          · obtain ⟨(f_60 : a.eval (.tmp 60) = .slice A405 r404.length cA405), -⟩ := hf
            exact sg_plain rfl rfl (or_len tu22 f_60 rfl)
          refine steps_cons (fun own a wx hf hsl hE => ?_) ?_
          · obtain ⟨(f_61 : a.eval (.tmp 61) = .int .i64 (r404.length : Int)), -⟩ := hf
            exact sg_plain rfl rfl (or_sub f_61 rfl rfl)
          refine steps_cons (fun own a wx hf hsl hE => ?_) ?_
          · obtain ⟨s_9, -⟩ := hsl
            exact sg_plain rfl rfl (or_move (s_9.trans e579_9))
          refine steps_cons (fun own a wx hf hsl hE => ?_) ?_
          · obtain ⟨(f_62 : a.eval (.tmp 62) = .int .i64 (sb (r404.length : Int) 1)), (f_63 : a.eval (.tmp 63) = .int .i64 i501), -⟩ := hf
            exact sg_plain rfl rfl (or_sub f_62 f_63 rfl)
          refine steps_cons (fun own a wx hf hsl hE => ?_) ?_
          · obtain ⟨(f_59 : a.eval (.tmp 59) = .slice A405 r404.length cA405), (f_64 : a.eval (.tmp 64) = .int .i64 (sb (sb (r404.length : Int) 1) i501)), -⟩ := hf
            exact sg_plain rfl rfl (or_index (R := R24) (l := r404) tl22 f_59 f_64 (RdO.some_ (RwO.rd b579_A405) hx585) hx585)
          refine steps_cons (fun own a wx hf hsl hE => ?_) ?_
          · obtain ⟨(f_65 : a.eval (.tmp 65) = .pointer (some ((adr A405).add ((sb (sb (r404.length : Int) 1) i501 : Int).toNat * R24.s)))), -⟩ := hf
            exact sg_plain rfl rfl (or_loadN1 X24 0 to24 f_65 (Addr.add_zero' _).symm (RwO.rd (RwO.evo rfl hE b579_A405)) hx585 (fun _ => rfl))
          refine steps_cons (fun own a wx hf hsl hE => ?_) ?_
          · obtain ⟨⟨⟨A584, cA584⟩, (f_58 : a.eval (.tmp 58) = .slice A584 x583.length cA584), (b_A584 : RdO own [497, 497] wx R34 A584 cA584 x583)⟩, -⟩ := hf
            exact sg_plain rfl rfl (or_mono (f := Fct.val 10 (.slice A584 x583.length cA584)) (or_assign f_58) (fun own' a' w' v' hp h => fun _ _ h0' => by cases (f_58.symm.trans ((hp.2 58 (by decide)).symm.trans h0')); exact h))
          refine steps_cons (fun own a wx hf hsl hE => ?_) ?_
          · obtain ⟨⟨⟨A586, cA586⟩, (f_66 : a.eval (.tmp 66) = .slice A586 x585.length cA586), (b_A586 : RdO own [499, 499] wx R34 A586 cA586 x585)⟩, -⟩ := hf
            exact sg_plain rfl rfl (or_mono (f := Fct.val 11 (.slice A586 x585.length cA586)) (or_assign f_66) (fun own' a' w' v' hp h => fun _ _ h0' => by cases (f_66.symm.trans ((hp.2 66 (by decide)).symm.trans h0')); exact h))
          exact steps_nil
        intro own587 a587 w587 hd587 hz587 hk587 hf587 hE587
        have e587_0 : a587.eval (.tmp 0) = .slice A337 r336.length cA337 := (hk587 0 rfl).trans e579_0
        have e587_3 : a587.eval (.tmp 3) = .pointer (some ⟨g333, 0, none⟩) := (hk587 3 rfl).trans e579_3
        have e587_5 : a587.eval (.tmp 5) = .slice A360 t362.length c361 := (hk587 5 rfl).trans e579_5
        have e587_7 : a587.eval (.tmp 7) = .slice A401 r400.length cA401 := (hk587 7 rfl).trans e579_7
        have e587_8 : a587.eval (.tmp 8) = .slice A405 r404.length cA405 := (hk587 8 rfl).trans e579_8
        have e587_9 : a587.eval (.tmp 9) = .int .i64 i501 := (hk587 9 rfl).trans e579_9
        obtain ⟨⟨⟨A584, cA584⟩, (f_58 : a587.eval (.tmp 58) = .slice A584 x583.length cA584), (b_A584 : RdO own587 [497, 497] w587 R34 A584 cA584 x583)⟩, (q_10 : ∀ (A584 : Option Addr) (cA584 : Nat), a587.eval (.tmp 58) = .slice A584 x583.length cA584 → a587.eval (.tmp 10) = .slice A584 x583.length cA584), ⟨⟨A586, cA586⟩, (f_66 : a587.eval (.tmp 66) = .slice A586 x585.length cA586), (b_A586 : RdO own587 [499, 499] w587 R34 A586 cA586 x585)⟩, (q_11 : ∀ (A586 : Option Addr) (cA586 : Nat), a587.eval (.tmp 66) = .slice A586 x585.length cA586 → a587.eval (.tmp 11) = .slice A586 x585.length cA586), -⟩ := hf587 [3, 12, 11, 13] rfl
        have f_10 := q_10 _ _ f_58
        have f_11 := q_11 _ _ f_66
        have e587_10 := f_10
        have e587_11 := f_11
        have hX587 := Evo.step hX579 (fun _ => Nat.le_refl 0) hE587 rfl
        have b587_A337 := RdO.evo rfl hE587 b579_A337
        have b587_g333 := BlkO.evo (by decide) hE587 b579_g333
        have b587_A360 := RwO.evo rfl hE587 b579_A360
        have b587_A401 := RwO.evo rfl hE587 b579_A401
        have b587_A405 := RwO.evo rfl hE587 b579_A405
        have b587_A584 := b_A584
        have b587_A586 := b_A586
        refine fl_seq (fun Q588 hn588 hp588 => ?_)
        obtain ⟨x589, hx589, hs⟩ := obind hs
        obtain ⟨r590, hr590, hs⟩ := obind hs
        obtain ⟨x591, hx591, hs⟩ := obind hs
        refine rg_plain_seq (n := 129) (rs := []) (own0 := own587) (K := [])
            (bs := [0, 1, 0, 4, 15, 31, 63, 127, 255, 511, 1023, 2047, 2047, 8191, 2047, 18431, 51199, 131071, 262143])
            (ds := [⟨[], [10], [], Fct.val 67 (.slice A584 x583.length cA584)⟩,
            ⟨[0], [], [], Fct.val 68 (.int .i64 (x583.length : Int))⟩,
            ⟨[], [11], [], Fct.val 69 (.slice A586 x585.length cA586)⟩,
            ⟨[2], [], [], Fct.val 70 (.int .i64 (x585.length : Int))⟩,
            ⟨[1, 3], [], [], Fct.val 71 (.bool (!decide ((x583.length : Int) = (x585.length : Int))))⟩,
            ⟨[4], [], [], Fct.val 72 (.bool (!decide ((x583.length : Int) = (x585.length : Int))))⟩,
            ⟨[5], [10], [], Fct.cond (!(!decide ((x583.length : Int) = (x585.length : Int)))) (some 73) (Fct.val 73 (.slice A584 x583.length cA584))⟩,
            ⟨[5, 6], [], [], Fct.cond (!(!decide ((x583.length : Int) = (x585.length : Int)))) (some 74) (Fct.val 74 (.int .i64 (x583.length : Int)))⟩,
            ⟨[5, 7], [], [], Fct.cond (!(!decide ((x583.length : Int) = (x585.length : Int)))) (some 75) (Fct.val 75 (.bool (decide ((x583.length : Int) < 2))))⟩,
            ⟨[5, 8], [], [], Fct.val 76 (.bool x589)⟩,
            ⟨[9], [], [], Fct.val 77 (.bool x589)⟩,
            ⟨[10], [10], [], Fct.cond (!x589) (some 78) (Fct.val 78 (.slice A584 x583.length cA584))⟩,
            ⟨[10], [3], [], Fct.cond (!x589) (some 79) (Fct.val 79 (.agg #[.int .i64 b2.1.1, .int .i64 b2.1.2, .int .i64 b2.2.1, .int .i64 b2.2.2]))⟩,
            ⟨[10, 11, 12], [], [], Fct.cond (!x589) (some 80) (Fct.val 80 (.int .i64 r590))⟩,
            ⟨[10], [10], [], Fct.cond (!x589) (some 81) (Fct.val 81 (.slice A584 x583.length cA584))⟩,
            ⟨[10, 14], [], [], Fct.cond (!x589) (some 82) (Fct.val 82 (.int .i64 (x583.length : Int)))⟩,
            ⟨[10, 15], [], [], Fct.cond (!x589) (some 83) (Fct.val 83 (.int .i64 (sb (x583.length : Int) 1)))⟩,
            ⟨[10, 13, 16], [], [], Fct.cond (!x589) (some 84) (Fct.val 84 (.bool (!decide (r590 = (sb (x583.length : Int) 1)))))⟩,
            ⟨[10, 17], [], [], Fct.val 85 (.bool x591)⟩]) (by kernel_rfl) hz587 hd587 (fun _ h => nomatch h) ?_ ?_
        · refine steps_cons (fun own a wx hf hsl hE => ?_) ?_
          · obtain ⟨s_10, -⟩ := hsl
            exact sg_plain rfl rfl (or_move (s_10.trans e587_10))
          refine steps_cons (fun own a wx hf hsl hE => ?_) ?_
          · obtain ⟨(f_67 : a.eval (.tmp 67) = .slice A584 x583.length cA584), -⟩ := hf
            exact sg_plain rfl rfl (or_len tu24 f_67 rfl)
          refine steps_cons (fun own a wx hf hsl hE => ?_) ?_
          · obtain ⟨s_11, -⟩ := hsl
            exact sg_plain rfl rfl (or_move (s_11.trans e587_11))
          refine steps_cons (fun own a wx hf hsl hE => ?_) ?_
          · obtain ⟨(f_69 : a.eval (.tmp 69) = .slice A586 x585.length cA586), -⟩ := hf
            exact sg_plain rfl rfl (or_len tu24 f_69 rfl)
          refine steps_cons (fun own a wx hf hsl hE => ?_) ?_
          · obtain ⟨(f_68 : a.eval (.tmp 68) = .int .i64 (x583.length : Int)), (f_70 : a.eval (.tmp 70) = .int .i64 (x585.length : Int)), -⟩ := hf
            exact sg_plain rfl rfl (or_neq f_68 f_70 rfl)
          refine steps_cons (fun own a wx hf hsl hE => ?_) ?_
          · obtain ⟨(f_71 : a.eval (.tmp 71) = .bool (!decide ((x583.length : Int) = (x585.length : Int)))), -⟩ := hf
            exact sg_plain rfl rfl (or_move f_71)
          refine steps_cons (fun own a wx hf hsl hE => ?_) ?_
          · obtain ⟨(f_72 : a.eval (.tmp 72) = .bool (!decide ((x583.length : Int) = (x585.length : Int)))), -⟩ := hf
            obtain ⟨s_10, -⟩ := hsl
            refine sg_f rfl rfl rfl f_72 (fun hg => ?_)
            exact or_move (s_10.trans e587_10)
          refine steps_cons (fun own a wx hf hsl hE => ?_) ?_
          · obtain ⟨(f_72 : a.eval (.tmp 72) = .bool (!decide ((x583.length : Int) = (x585.length : Int)))), c_73, -⟩ := hf
            refine sg_f rfl rfl rfl f_72 (fun hg => ?_)
            have f_73 : a.eval (.tmp 73) = .slice A584 x583.length cA584 := c_73.1 hg
            exact or_len tu24 f_73 rfl
          refine steps_cons (fun own a wx hf hsl hE => ?_) ?_
          · obtain ⟨(f_72 : a.eval (.tmp 72) = .bool (!decide ((x583.length : Int) = (x585.length : Int)))), c_74, -⟩ := hf
            refine sg_f rfl rfl rfl f_72 (fun hg => ?_)
            have f_74 : a.eval (.tmp 74) = .int .i64 (x583.length : Int) := c_74.1 hg
            exact or_lss f_74 rfl rfl
          refine steps_cons (fun own a wx hf hsl hE => ?_) ?_
          · obtain ⟨(f_72 : a.eval (.tmp 72) = .bool (!decide ((x583.length : Int) = (x585.length : Int)))), c_75, -⟩ := hf
            exact sg_plain rfl rfl (or_or f_72 rfl (fun hx => c_75.1 hx) (osome hx589).symm)
          refine steps_cons (fun own a wx hf hsl hE => ?_) ?_
          · obtain ⟨(f_76 : a.eval (.tmp 76) = .bool x589), -⟩ := hf
            exact sg_plain rfl rfl (or_move f_76)
          refine steps_cons (fun own a wx hf hsl hE => ?_) ?_
          · obtain ⟨(f_77 : a.eval (.tmp 77) = .bool x589), -⟩ := hf
            obtain ⟨s_10, -⟩ := hsl
            refine sg_f rfl rfl rfl f_77 (fun hg => ?_)
            exact or_move (s_10.trans e587_10)
          refine steps_cons (fun own a wx hf hsl hE => ?_) ?_
          · obtain ⟨(f_77 : a.eval (.tmp 77) = .bool x589), -⟩ := hf
            obtain ⟨s_3, -⟩ := hsl
            refine sg_f rfl rfl rfl f_77 (fun hg => ?_)
            exact or_load (l := [.int .i64 b2.1.1, .int .i64 b2.1.2, .int .i64 b2.2.1, .int .i64 b2.2.2]) ta36 (s_3.trans e587_3) (Blk.cellsFrom (BlkO.evo (by decide) hE b587_g333).2 0 rfl) rfl
          refine steps_cons (fun own a wx hf hsl hE => ?_) ?_
          · obtain ⟨(f_77 : a.eval (.tmp 77) = .bool x589), c_78, c_79, -⟩ := hf
            refine sg_f rfl rfl rfl f_77 (fun hg => ?_)
            have f_78 : a.eval (.tmp 78) = .slice A584 x583.length cA584 := c_78.1 hg
            have f_79 : a.eval (.tmp 79) = .agg #[.int .i64 b2.1.1, .int .i64 b2.1.2, .int .i64 b2.2.1, .int .i64 b2.2.2] := c_79.1 hg
            exact or_call cf18 (args2 f_78 f_79) (lineclip_Count_w _ x583 A584 cA584 b2 (RdO.zero (RdO.evo rfl hE b587_A584)) r590 (gd_t hr590 hg)) post_val
          refine steps_cons (fun own a wx hf hsl hE => ?_) ?_
          · obtain ⟨(f_77 : a.eval (.tmp 77) = .bool x589), -⟩ := hf
            obtain ⟨s_10, -⟩ := hsl
            refine sg_f rfl rfl rfl f_77 (fun hg => ?_)
            exact or_move (s_10.trans e587_10)
          refine steps_cons (fun own a wx hf hsl hE => ?_) ?_
          · obtain ⟨(f_77 : a.eval (.tmp 77) = .bool x589), c_81, -⟩ := hf
            refine sg_f rfl rfl rfl f_77 (fun hg => ?_)
            have f_81 : a.eval (.tmp 81) = .slice A584 x583.length cA584 := c_81.1 hg
            exact or_len tu24 f_81 rfl
          refine steps_cons (fun own a wx hf hsl hE => ?_) ?_
          · obtain ⟨(f_77 : a.eval (.tmp 77) = .bool x589), c_82, -⟩ := hf
            refine sg_f rfl rfl rfl f_77 (fun hg => ?_)
            have f_82 : a.eval (.tmp 82) = .int .i64 (x583.length : Int) := c_82.1 hg
            exact or_sub f_82 rfl rfl
          refine steps_cons (fun own a wx hf hsl hE => ?_) ?_
          · obtain ⟨(f_77 : a.eval (.tmp 77) = .bool x589), c_80, c_83, -⟩ := hf
            refine sg_f rfl rfl rfl f_77 (fun hg => ?_)
            have f_80 : a.eval (.tmp 80) = .int .i64 r590 := c_80.1 hg
            have f_83 : a.eval (.tmp 83) = .int .i64 (sb (x583.length : Int) 1) := c_83.1 hg
            exact or_neq f_80 f_83 rfl
          refine steps_cons (fun own a wx hf hsl hE => ?_) ?_
          · obtain ⟨(f_77 : a.eval (.tmp 77) = .bool x589), c_84, -⟩ := hf
            exact sg_plain rfl rfl (or_or f_77 rfl (fun hx => c_84.1 hx) (osome hx591).symm)
          exact steps_nil
        intro own592 a592 w592 hd592 hz592 hk592 hf592 hE592
        have e592_0 : a592.eval (.tmp 0) = .slice A337 r336.length cA337 := (hk592 0 rfl).trans e587_0
        have e592_3 : a592.eval (.tmp 3) = .pointer (some ⟨g333, 0, none⟩) := (hk592 3 rfl).trans e587_3
        have e592_5 : a592.eval (.tmp 5) = .slice A360 t362.length c361 := (hk592 5 rfl).trans e587_5
        have e592_7 : a592.eval (.tmp 7) = .slice A401 r400.length cA401 := (hk592 7 rfl).trans e587_7
        have e592_8 : a592.eval (.tmp 8) = .slice A405 r404.length cA405 := (hk592 8 rfl).trans e587_8
        have e592_9 : a592.eval (.tmp 9) = .int .i64 i501 := (hk592 9 rfl).trans e587_9
        have e592_10 : a592.eval (.tmp 10) = .slice A584 x583.length cA584 := (hk592 10 rfl).trans e587_10
        have e592_11 : a592.eval (.tmp 11) = .slice A586 x585.length cA586 := (hk592 11 rfl).trans e587_11
        obtain ⟨(f_85 : a592.eval (.tmp 85) = .bool x591), -⟩ := hf592 [18] rfl
        have e592_85 := f_85
        have hX592 := Evo.step hX587 (fun _ => Nat.le_refl 0) hE592 rfl
        have b592_A337 := RdO.evo rfl hE592 b587_A337
        have b592_g333 := BlkO.evo (by decide) hE592 b587_g333
        have b592_A360 := RwO.evo rfl hE592 b587_A360
        have b592_A401 := RwO.evo rfl hE592 b587_A401
        have b592_A405 := RwO.evo rfl hE592 b587_A405
        have b592_A584 := RdO.evo rfl hE592 b587_A584
        have b592_A586 := RdO.evo rfl hE592 b587_A586
        refine fl_cond e592_85 hs (fun c593 hs => ?_) (fun c593 hs => ?_)
        · refine rg_plain_seq (n := 129) (rs := []) (own0 := own592) (K := [])
              (bs := [0])
              (ds := [⟨[], [], [], Fct.val 4 (.bool false)⟩]) (by kernel_rfl) hz592 hd592 (fun _ h => nomatch h) ?_ ?_
          · refine steps_cons (fun own a wx hf hsl hE => ?_) ?_
            · exact sg_plain rfl rfl (or_assign rfl)
            exact steps_nil
          intro own594 a594 w594 hd594 hz594 hk594 hf594 hE594
          obtain ⟨(f_4 : a594.eval (.tmp 4) = .bool false), -⟩ := hf594 [0] rfl
          have e594_4 := f_4
          have hX594 := Evo.step hX592 (fun _ => Nat.le_refl 0) hE594 rfl
          refine fl_ret ?_
          refine hp588 _ _ _ rfl ?_
          refine hp582 _ _ _ rfl ?_
          refine hp581 _ _ _ rfl ?_
          replace hs := hz576 _ hs
          refine hp576 _ _ _ rfl ?_
          refine hp418 _ _ _ rfl ?_
          refine hp416 _ _ _ rfl ?_
          obtain rfl := osome hs
          exact hret _ _ _ _ (.inl rfl) hd594 (results1_ rfl (RVal.tmp_ e594_4)) ⟨own594, rfl, hX594⟩
        refine fl_skip ?_
        refine hn588 _ _ ?_
        refine rg_plain_seq (n := 129) (rs := []) (own0 := own592) (K := [])
            (bs := [0])
            (ds := [⟨[], [], [], Fct.val 12 (.int .i64 0)⟩]) (by kernel_rfl) hz592 hd592 (fun _ h => nomatch h) ?_ ?_
        · refine steps_cons (fun own a wx hf hsl hE => ?_) ?_
          · exact sg_plain rfl rfl (or_assign rfl)
          exact steps_nil
        intro own595 a595 w595 hd595 hz595 hk595 hf595 hE595
        have e595_0 : a595.eval (.tmp 0) = .slice A337 r336.length cA337 := (hk595 0 rfl).trans e592_0
        have e595_3 : a595.eval (.tmp 3) = .pointer (some ⟨g333, 0, none⟩) := (hk595 3 rfl).trans e592_3
        have e595_5 : a595.eval (.tmp 5) = .slice A360 t362.length c361 := (hk595 5 rfl).trans e592_5
        have e595_7 : a595.eval (.tmp 7) = .slice A401 r400.length cA401 := (hk595 7 rfl).trans e592_7
        have e595_8 : a595.eval (.tmp 8) = .slice A405 r404.length cA405 := (hk595 8 rfl).trans e592_8
        have e595_9 : a595.eval (.tmp 9) = .int .i64 i501 := (hk595 9 rfl).trans e592_9
        have e595_10 : a595.eval (.tmp 10) = .slice A584 x583.length cA584 := (hk595 10 rfl).trans e592_10
        have e595_11 : a595.eval (.tmp 11) = .slice A586 x585.length cA586 := (hk595 11 rfl).trans e592_11
        obtain ⟨(f_12 : a595.eval (.tmp 12) = .int .i64 0), -⟩ := hf595 [0] rfl
        have e595_12 := f_12
        have hX595 := Evo.step hX592 (fun _ => Nat.le_refl 0) hE595 rfl
        have b595_A337 := RdO.evo rfl hE595 b592_A337
        have b595_g333 := BlkO.evo (by decide) hE595 b592_g333
        have b595_A360 := RwO.evo rfl hE595 b592_A360
        have b595_A401 := RwO.evo rfl hE595 b592_A401
        have b595_A405 := RwO.evo rfl hE595 b592_A405
        have b595_A584 := RdO.evo rfl hE595 b592_A584
        have b595_A586 := RdO.evo rfl hE595 b592_A586
        refine fl_block (fun Q596 hn596 hx596 hp596 => ?_)
        refine fl_loop (body := (fun s => law22_LineclipTurns_b3 b2 i501 x583 x585 s)) (z := zz576) (show loopO _ _ = _ from hs) (fun (k618 : Int) a wx => ∃ (ox : Own), a.defers = [] ∧ a.tmps.size = 129 ∧ a.eval (.tmp 0) = .slice A337 r336.length cA337 ∧ a.eval (.tmp 3) = .pointer (some ⟨g333, 0, none⟩) ∧ a.eval (.tmp 5) = .slice A360 t362.length c361 ∧ a.eval (.tmp 7) = .slice A401 r400.length cA401 ∧ a.eval (.tmp 8) = .slice A405 r404.length cA405 ∧ a.eval (.tmp 9) = .int .i64 i501 ∧ a.eval (.tmp 10) = .slice A584 x583.length cA584 ∧ a.eval (.tmp 11) = .slice A586 x585.length cA586 ∧ a.eval (.tmp 12) = .int .i64 k618 ∧ Evo [] (fun _ => 0) ox w wx ∧ RdO ox [0, 496] wx R34 A337 cA337 r336 ∧ BlkO ox 334 wx g333 36 #[.int .i64 b2.1.1, .int .i64 b2.1.2, .int .i64 b2.2.1, .int .i64 b2.2.2] ∧ RwO ox 363 [] wx 34 R34 A360 c361 t362 ∧ RwO ox 497 [497] wx 24 R24 A401 cA401 r400 ∧ RwO ox 499 [499] wx 24 R24 A405 cA405 r404 ∧ RdO ox [497] wx R34 A584 cA584 x583 ∧ RdO ox [499] wx R34 A586 cA586 x585) ?_ ?_
        · exact ⟨own595, hd595, hz595, e595_0, e595_3, e595_5, e595_7, e595_8, e595_9, e595_10, e595_11, e595_12, hX595, b595_A337, b595_g333, b595_A360, b595_A401, b595_A405, (RdO.more b595_A584 (by decide)), (RdO.more b595_A586 (by decide))⟩
        · rintro k618 zz634 a634 w634 ⟨own634, hd635, hz635, e635_0, e635_3, e635_5, e635_7, e635_8, e635_9, e635_10, e635_11, e635_12, hE635, b635_A337, b635_g333, b635_A360, b635_A401, b635_A405, b635_A584, b635_A586⟩ hs Q634 hn634 hp634 hz634
          have hs : law22_LineclipTurns_b3 b2 i501 x583 x585 k618 = some zz634 := hs
          refine fl_seq (fun Q636 hn636 hp636 => ?_)
          refine rg_plain_seq (n := 129) (rs := []) (own0 := own634) (K := [])
              (bs := [0, 0, 2, 7])
              (ds := [⟨[], [12], [], Fct.val 86 (.int .i64 k618)⟩,
              ⟨[], [10], [], Fct.val 87 (.slice A584 x583.length cA584)⟩,
              ⟨[1], [], [], Fct.val 88 (.int .i64 (x583.length : Int))⟩,
              ⟨[0, 2], [], [], Fct.val 89 (.bool (decide (k618 < (x583.length : Int))))⟩]) (by kernel_rfl) hz635 hd635 (fun _ h => nomatch h) ?_ ?_
          · refine steps_cons (fun own a wx hf hsl hE => ?_) ?_
            · obtain ⟨s_12, -⟩ := hsl
              exact sg_plain rfl rfl (or_move (s_12.trans e635_12))
            refine steps_cons (fun own a wx hf hsl hE => ?_) ?_
            · obtain ⟨s_10, -⟩ := hsl
              exact sg_plain rfl rfl (or_move (s_10.trans e635_10))
            refine steps_cons (fun own a wx hf hsl hE => ?_) ?_
            · obtain ⟨(f_87 : a.eval (.tmp 87) = .slice A584 x583.length cA584), -⟩ := hf
              exact sg_plain rfl rfl (or_len tu24 f_87 rfl)
            refine steps_cons (fun own a wx hf hsl hE => ?_) ?_
            · obtain ⟨(f_86 : a.eval (.tmp 86) = .int .i64 k618), (f_88 : a.eval (.tmp 88) = .int .i64 (x583.length : Int)), -⟩ := hf
              exact sg_plain rfl rfl (or_lss f_86 f_88 rfl)
            exact steps_nil
          intro own637 a637 w637 hd637 hz637 hk637 hf637 hE637
          have e637_0 : a637.eval (.tmp 0) = .slice A337 r336.length cA337 := (hk637 0 rfl).trans e635_0
          have e637_3 : a637.eval (.tmp 3) = .pointer (some ⟨g333, 0, none⟩) := (hk637 3 rfl).trans e635_3
          have e637_5 : a637.eval (.tmp 5) = .slice A360 t362.length c361 := (hk637 5 rfl).trans e635_5
          have e637_7 : a637.eval (.tmp 7) = .slice A401 r400.length cA401 := (hk637 7 rfl).trans e635_7
          have e637_8 : a637.eval (.tmp 8) = .slice A405 r404.length cA405 := (hk637 8 rfl).trans e635_8
          have e637_9 : a637.eval (.tmp 9) = .int .i64 i501 := (hk637 9 rfl).trans e635_9
          have e637_10 : a637.eval (.tmp 10) = .slice A584 x583.length cA584 := (hk637 10 rfl).trans e635_10
          have e637_11 : a637.eval (.tmp 11) = .slice A586 x585.length cA586 := (hk637 11 rfl).trans e635_11
          have e637_12 : a637.eval (.tmp 12) = .int .i64 k618 := (hk637 12 rfl).trans e635_12
          obtain ⟨(f_89 : a637.eval (.tmp 89) = .bool (decide (k618 < (x583.length : Int)))), -⟩ := hf637 [3] rfl
          have e637_89 := f_89
          have hX637 := Evo.step hE635 (fun _ => Nat.le_refl 0) hE637 rfl
          have b637_A337 := RdO.evo rfl hE637 b635_A337
          have b637_g333 := BlkO.evo (by decide) hE637 b635_g333
          have b637_A360 := RwO.evo rfl hE637 b635_A360
          have b637_A401 := RwO.evo rfl hE637 b635_A401
          have b637_A405 := RwO.evo rfl hE637 b635_A405
          have b637_A584 := RdO.evo rfl hE637 b635_A584
          have b637_A586 := RdO.evo rfl hE637 b635_A586
          refine fl_cond e637_89 hs (fun c638 hs => ?_) (fun c638 hs => ?_)
          · refine fl_skip ?_
            refine hn636 _ _ ?_
            refine fl_seq (fun Q639 hn639 hp639 => ?_)
            refine fl_block (fun Q640 hn640 hx640 hp640 => ?_)
            obtain ⟨x641, hx641, hs⟩ := obind hs
            obtain ⟨x642, hx642, hs⟩ := obind hs
            obtain ⟨x643, hx643, hs⟩ := obind hs
            obtain ⟨x644, hx644, hs⟩ := obind hs
            obtain ⟨r645, hr645, hs⟩ := obind hs
            refine rg_draw_seq g_mixed (n := 129) (rs := []) (own0 := own637) (K := [])
                (bs := [0, 0, 3, 7, 0, 0, 32, 96, 0, 480, 1008, 2032, 4095, 8191, 16383, 16383, 16383, 114687, 245759, 16383, 16383, 1589247, 3686399, 8372223, 16777215, 33554431, 67108863])
                (ds := [⟨[], [10], [], Fct.val 92 (.slice A584 x583.length cA584)⟩,
                ⟨[], [12], [], Fct.val 93 (.int .i64 k618)⟩,
                ⟨[0, 1], [], [], Fct.val 94 (.pointer (some ((adr A584).add ((k618 : Int).toNat * R34.s))))⟩,
                ⟨[2], [], [], Fct.val 95 (.agg #[.int .i64 x641.1, .int .i64 x641.2])⟩,
                ⟨[], [11], [], Fct.val 96 (.slice A586 x585.length cA586)⟩,
                ⟨[], [11], [], Fct.val 97 (.slice A586 x585.length cA586)⟩,
                ⟨[5], [], [], Fct.val 98 (.int .i64 (x585.length : Int))⟩,
                ⟨[6], [], [], Fct.val 99 (.int .i64 (sb (x585.length : Int) 1))⟩,
                ⟨[], [12], [], Fct.val 100 (.int .i64 k618)⟩,
                ⟨[7, 8], [], [], Fct.val 101 (.int .i64 (sb (sb (x585.length : Int) 1) k618))⟩,
                ⟨[4, 9], [], [], Fct.val 102 (.pointer (some ((adr A586).add ((sb (sb (x585.length : Int) 1) k618 : Int).toNat * R34.s))))⟩,
                ⟨[10], [], [], Fct.val 103 (.agg #[.int .i64 x642.1, .int .i64 x642.2])⟩,
                ⟨[3, 11], [], [], Fct.val 104 (.bool (!decide (x641 = x642)))⟩,
                ⟨[12], [], [], Fct.val 105 (.bool (!decide (x641 = x642)))⟩,
                ⟨[13], [3], [], Fct.cond (!(!decide (x641 = x642))) (some 106) (Fct.val 106 (.agg #[.int .i64 b2.1.1, .int .i64 b2.1.2, .int .i64 b2.2.1, .int .i64 b2.2.2]))⟩,
                ⟨[13], [10], [], Fct.cond (!(!decide (x641 = x642))) (some 107) (Fct.val 107 (.slice A584 x583.length cA584))⟩,
                ⟨[13], [12], [], Fct.cond (!(!decide (x641 = x642))) (some 108) (Fct.val 108 (.int .i64 k618))⟩,
                ⟨[13, 15, 16], [], [], Fct.cond (!(!decide (x641 = x642))) (some 109) (Fct.val 109 (.pointer (some ((adr A584).add ((k618 : Int).toNat * R34.s)))))⟩,
                ⟨[13, 17], [], [], Fct.cond (!(!decide (x641 = x642))) (some 110) (Fct.val 110 (.agg #[.int .i64 x643.1, .int .i64 x643.2]))⟩,
                ⟨[13], [10], [], Fct.cond (!(!decide (x641 = x642))) (some 111) (Fct.val 111 (.slice A584 x583.length cA584))⟩,
                ⟨[13], [12], [], Fct.cond (!(!decide (x641 = x642))) (some 112) (Fct.val 112 (.int .i64 k618))⟩,
                ⟨[13, 19, 20], [], [], Fct.cond (!(!decide (x641 = x642))) (some 113) (Fct.val 113 (.pointer (some ((adr A584).add ((k618 : Int).toNat * R34.s)))))⟩,
                ⟨[13, 21], [], [], Fct.cond (!(!decide (x641 = x642))) (some 114) (Fct.val 114 (.agg #[.int .i64 x644.1, .int .i64 x644.2]))⟩,
                ⟨[13, 18, 22], [], [], Fct.cond (!(!decide (x641 = x642))) (some 115) (Fct.val 115 (.agg #[.int .i64 x643.1, .int .i64 x643.2, .int .i64 x644.1, .int .i64 x644.2]))⟩,
                ⟨[13, 14, 23], [], [], Fct.cond (!(!decide (x641 = x642))) (some 116) (Fct.val 116 (.bool r645))⟩,
                ⟨[13, 24], [], [], Fct.cond (!(!decide (x641 = x642))) (some 117) (Fct.val 117 (.bool (!r645)))⟩,
                ⟨[13, 25], [], [], Fct.val 118 (.bool ((!decide (x641 = x642)) || (!r645)))⟩]) (by kernel_rfl) hz637 hd637 (fun _ h => nomatch h) ?_ ?_
            · refine steps_cons (fun own a wx hf hsl hE => ?_) ?_
              · obtain ⟨s_10, -⟩ := hsl
                exact sg_plain rfl rfl (or_move (s_10.trans e637_10))
              refine steps_cons (fun own a wx hf hsl hE => ?_) ?_
              · obtain ⟨s_12, -⟩ := hsl
                exact sg_plain rfl rfl (or_move (s_12.trans e637_12))
              refine steps_cons (fun own a wx hf hsl hE => ?_) ?_
              · obtain ⟨(f_92 : a.eval (.tmp 92) = .slice A584 x583.length cA584), (f_93 : a.eval (.tmp 93) = .int .i64 k618), -⟩ := hf
                exact sg_plain rfl rfl (or_index (R := R34) (l := x583) tl24 f_92 f_93 (RdO.some_ b637_A584 hx641) hx641)
              refine steps_cons (fun own a wx hf hsl hE => ?_) ?_
              · obtain ⟨(f_94 : a.eval (.tmp 94) = .pointer (some ((adr A584).add ((k618 : Int).toNat * R34.s)))), -⟩ := hf
                exact sg_plain rfl rfl (or_load (l := E34.f x641) ta34 f_94 (RdO.cells (F := E34) (RdO.evo rfl hE b637_A584) hx641) rfl)
              refine steps_cons (fun own a wx hf hsl hE => ?_) ?_
              · obtain ⟨s_11, -⟩ := hsl
                exact sg_plain rfl rfl (or_move (s_11.trans e637_11))
              refine steps_cons (fun own a wx hf hsl hE => ?_) ?_
              · obtain ⟨s_11, -⟩ := hsl
                exact sg_plain rfl rfl (or_move (s_11.trans e637_11))
              refine steps_cons (fun own a wx hf hsl hE => ?_) ?_
              · obtain ⟨(f_97 : a.eval (.tmp 97) = .slice A586 x585.length cA586), -⟩ := hf
                exact sg_plain rfl rfl (or_len tu24 f_97 rfl)
              refine steps_cons (fun own a wx hf hsl hE => ?_) ?_
              · obtain ⟨(f_98 : a.eval (.tmp 98) = .int .i64 (x585.length : Int)), -⟩ := hf
                exact sg_plain rfl rfl (or_sub f_98 rfl rfl)
              refine steps_cons (fun own a wx hf hsl hE => ?_) ?_
              · obtain ⟨s_12, -⟩ := hsl
                exact sg_plain rfl rfl (or_move (s_12.trans e637_12))
              refine steps_cons (fun own a wx hf hsl hE => ?_) ?_
              · obtain ⟨(f_99 : a.eval (.tmp 99) = .int .i64 (sb (x585.length : Int) 1)), (f_100 : a.eval (.tmp 100) = .int .i64 k618), -⟩ := hf
                exact sg_plain rfl rfl (or_sub f_99 f_100 rfl)
              refine steps_cons (fun own a wx hf hsl hE => ?_) ?_
              · obtain ⟨(f_96 : a.eval (.tmp 96) = .slice A586 x585.length cA586), (f_101 : a.eval (.tmp 101) = .int .i64 (sb (sb (x585.length : Int) 1) k618)), -⟩ := hf
                exact sg_plain rfl rfl (or_index (R := R34) (l := x585) tl24 f_96 f_101 (RdO.some_ b637_A586 hx642) hx642)
              refine steps_cons (fun own a wx hf hsl hE => ?_) ?_
              · obtain ⟨(f_102 : a.eval (.tmp 102) = .pointer (some ((adr A586).add ((sb (sb (x585.length : Int) 1) k618 : Int).toNat * R34.s)))), -⟩ := hf
                exact sg_plain rfl rfl (or_load (l := E34.f x642) ta34 f_102 (RdO.cells (F := E34) (RdO.evo rfl hE b637_A586) hx642) rfl)
              refine steps_cons (fun own a wx hf hsl hE => ?_) ?_
              · obtain ⟨(f_95 : a.eval (.tmp 95) = .agg #[.int .i64 x641.1, .int .i64 x641.2]), (f_103 : a.eval (.tmp 103) = .agg #[.int .i64 x642.1, .int .i64 x642.2]), -⟩ := hf
                exact sg_plain rfl rfl (or_neqA sg34 f_95 f_103 (sn34 x641.1 x641.2 x642.1 x642.2 _) rfl)
              refine steps_cons (fun own a wx hf hsl hE => ?_) ?_
              · obtain ⟨(f_104 : a.eval (.tmp 104) = .bool (!decide (x641 = x642))), -⟩ := hf
                exact sg_plain rfl rfl (or_move f_104)
              refine steps_cons (fun own a wx hf hsl hE => ?_) ?_
              · obtain ⟨(f_105 : a.eval (.tmp 105) = .bool (!decide (x641 = x642))), -⟩ := hf
                obtain ⟨s_3, -⟩ := hsl
                refine sg_f rfl rfl rfl f_105 (fun hg => ?_)
                exact or_load (l := [.int .i64 b2.1.1, .int .i64 b2.1.2, .int .i64 b2.2.1, .int .i64 b2.2.2]) ta36 (s_3.trans e637_3) (Blk.cellsFrom (BlkO.evo (by decide) hE b637_g333).2 0 rfl) rfl
              refine steps_cons (fun own a wx hf hsl hE => ?_) ?_
              · obtain ⟨(f_105 : a.eval (.tmp 105) = .bool (!decide (x641 = x642))), -⟩ := hf
                obtain ⟨s_10, -⟩ := hsl
                refine sg_f rfl rfl rfl f_105 (fun hg => ?_)
                exact or_move (s_10.trans e637_10)
              refine steps_cons (fun own a wx hf hsl hE => ?_) ?_
              · obtain ⟨(f_105 : a.eval (.tmp 105) = .bool (!decide (x641 = x642))), -⟩ := hf
                obtain ⟨s_12, -⟩ := hsl
                refine sg_f rfl rfl rfl f_105 (fun hg => ?_)
                exact or_move (s_12.trans e637_12)
              refine steps_cons (fun own a wx hf hsl hE => ?_) ?_
              · obtain ⟨(f_105 : a.eval (.tmp 105) = .bool (!decide (x641 = x642))), c_107, c_108, -⟩ := hf
                refine sg_f rfl rfl rfl f_105 (fun hg => ?_)
                have f_107 : a.eval (.tmp 107) = .slice A584 x583.length cA584 := c_107.1 hg
                have f_108 : a.eval (.tmp 108) = .int .i64 k618 := c_108.1 hg
                exact or_index (R := R34) (l := x583) tl24 f_107 f_108 (RdO.some_ b637_A584 (gd_t hx643 hg)) (gd_t hx643 hg)
              refine steps_cons (fun own a wx hf hsl hE => ?_) ?_
              · obtain ⟨(f_105 : a.eval (.tmp 105) = .bool (!decide (x641 = x642))), c_109, -⟩ := hf
                refine sg_f rfl rfl rfl f_105 (fun hg => ?_)
                have f_109 : a.eval (.tmp 109) = .pointer (some ((adr A584).add ((k618 : Int).toNat * R34.s))) := c_109.1 hg
                exact or_load (l := E34.f x643) ta34 f_109 (RdO.cells (F := E34) (RdO.evo rfl hE b637_A584) (gd_t hx643 hg)) rfl
              refine steps_cons (fun own a wx hf hsl hE => ?_) ?_
              · obtain ⟨(f_105 : a.eval (.tmp 105) = .bool (!decide (x641 = x642))), -⟩ := hf
                obtain ⟨s_10, -⟩ := hsl
                refine sg_f rfl rfl rfl f_105 (fun hg => ?_)
                exact or_move (s_10.trans e637_10)
              refine steps_cons (fun own a wx hf hsl hE => ?_) ?_
              · obtain ⟨(f_105 : a.eval (.tmp 105) = .bool (!decide (x641 = x642))), -⟩ := hf
                obtain ⟨s_12, -⟩ := hsl
                refine sg_f rfl rfl rfl f_105 (fun hg => ?_)
                exact or_move (s_12.trans e637_12)
              refine steps_cons (fun own a wx hf hsl hE => ?_) ?_
              · obtain ⟨(f_105 : a.eval (.tmp 105) = .bool (!decide (x641 = x642))), c_111, c_112, -⟩ := hf
                refine sg_f rfl rfl rfl f_105 (fun hg => ?_)
                have f_111 : a.eval (.tmp 111) = .slice A584 x583.length cA584 := c_111.1 hg
                have f_112 : a.eval (.tmp 112) = .int .i64 k618 := c_112.1 hg
                exact or_index (R := R34) (l := x583) tl24 f_111 f_112 (RdO.some_ b637_A584 (gd_t hx644 hg)) (gd_t hx644 hg)
              refine steps_cons (fun own a wx hf hsl hE => ?_) ?_
              · obtain ⟨(f_105 : a.eval (.tmp 105) = .bool (!decide (x641 = x642))), c_113, -⟩ := hf
                refine sg_f rfl rfl rfl f_105 (fun hg => ?_)
                have f_113 : a.eval (.tmp 113) = .pointer (some ((adr A584).add ((k618 : Int).toNat * R34.s))) := c_113.1 hg
                exact or_load (l := E34.f x644) ta34 f_113 (RdO.cells (F := E34) (RdO.evo rfl hE b637_A584) (gd_t hx644 hg)) rfl
              refine steps_cons (fun own a wx hf hsl hE => ?_) ?_
              · obtain ⟨(f_105 : a.eval (.tmp 105) = .bool (!decide (x641 = x642))), c_110, c_114, -⟩ := hf
                refine sg_f rfl rfl rfl f_105 (fun hg => ?_)
                have f_110 : a.eval (.tmp 110) = .agg #[.int .i64 x643.1, .int .i64 x643.2] := c_110.1 hg
                have f_114 : a.eval (.tmp 114) = .agg #[.int .i64 x644.1, .int .i64 x644.2] := c_114.1 hg
                exact or_k [(110, .agg #[.int .i64 x643.1, .int .i64 x643.2]), (114, .agg #[.int .i64 x644.1, .int .i64 x644.2])] rfl rfl ⟨f_110, f_114, trivial⟩ (by kernel_rfl)
              refine steps_cons (fun own a wx hf hsl hE => ?_) ?_
              · obtain ⟨(f_105 : a.eval (.tmp 105) = .bool (!decide (x641 = x642))), c_106, c_115, -⟩ := hf
                refine sg_f rfl rfl rfl f_105 (fun hg => ?_)
                have f_106 : a.eval (.tmp 106) = .agg #[.int .i64 b2.1.1, .int .i64 b2.1.2, .int .i64 b2.2.1, .int .i64 b2.2.2] := c_106.1 hg
                have f_115 : a.eval (.tmp 115) = .agg #[.int .i64 x643.1, .int .i64 x643.2, .int .i64 x644.1, .int .i64 x644.2] := c_115.1 hg
                exact or_call cf21 (args2 f_106 f_115) (rows_Meet_w _ b2 (x643, x644)  r645 (gd_t hr645 hg)) post_val
              refine steps_cons (fun own a wx hf hsl hE => ?_) ?_
              · obtain ⟨(f_105 : a.eval (.tmp 105) = .bool (!decide (x641 = x642))), c_116, -⟩ := hf
                refine sg_f rfl rfl rfl f_105 (fun hg => ?_)
                have f_116 : a.eval (.tmp 116) = .bool r645 := c_116.1 hg
                exact or_not f_116 rfl
              refine steps_cons (fun own a wx hf hsl hE => ?_) ?_
              · obtain ⟨(f_105 : a.eval (.tmp 105) = .bool (!decide (x641 = x642))), c_117, -⟩ := hf
                exact sg_plain rfl rfl (or_or f_105 rfl (fun hx => c_117.1 hx) rfl)
              exact steps_nil
            intro own646 a646 w646 hd646 hz646 hk646 hf646 hE646
            have e646_0 : a646.eval (.tmp 0) = .slice A337 r336.length cA337 := (hk646 0 rfl).trans e637_0
            have e646_3 : a646.eval (.tmp 3) = .pointer (some ⟨g333, 0, none⟩) := (hk646 3 rfl).trans e637_3
            have e646_5 : a646.eval (.tmp 5) = .slice A360 t362.length c361 := (hk646 5 rfl).trans e637_5
            have e646_7 : a646.eval (.tmp 7) = .slice A401 r400.length cA401 := (hk646 7 rfl).trans e637_7
            have e646_8 : a646.eval (.tmp 8) = .slice A405 r404.length cA405 := (hk646 8 rfl).trans e637_8
            have e646_9 : a646.eval (.tmp 9) = .int .i64 i501 := (hk646 9 rfl).trans e637_9
            have e646_10 : a646.eval (.tmp 10) = .slice A584 x583.length cA584 := (hk646 10 rfl).trans e637_10
            have e646_11 : a646.eval (.tmp 11) = .slice A586 x585.length cA586 := (hk646 11 rfl).trans e637_11
            have e646_12 : a646.eval (.tmp 12) = .int .i64 k618 := (hk646 12 rfl).trans e637_12
            obtain ⟨(f_118 : a646.eval (.tmp 118) = .bool ((!decide (x641 = x642)) || (!r645))), -⟩ := hf646 [26] rfl
            have e646_118 := f_118
            have hX646 := Evo.step hX637 (fun _ => Nat.le_refl 0) hE646 rfl
            have b646_A337 := RdO.evo rfl hE646 b637_A337
            have b646_g333 := BlkO.evo (by decide) hE646 b637_g333
            have b646_A360 := RwO.evo rfl hE646 b637_A360
            have b646_A401 := RwO.evo rfl hE646 b637_A401
            have b646_A405 := RwO.evo rfl hE646 b637_A405
            have b646_A584 := RdO.evo rfl hE646 b637_A584
            have b646_A586 := RdO.evo rfl hE646 b637_A586
            refine fl_cond e646_118 hs (fun c647 hs => ?_) (fun c647 hs => ?_)
            · refine rg_plain_seq (n := 129) (rs := []) (own0 := own646) (K := [])
                  (bs := [0])
                  (ds := [⟨[], [], [], Fct.val 4 (.bool false)⟩]) (by kernel_rfl) hz646 hd646 (fun _ h => nomatch h) ?_ ?_
              · refine steps_cons (fun own a wx hf hsl hE => ?_) ?_
                · exact sg_plain rfl rfl (or_assign rfl)
                exact steps_nil
              intro own648 a648 w648 hd648 hz648 hk648 hf648 hE648
              obtain ⟨(f_4 : a648.eval (.tmp 4) = .bool false), -⟩ := hf648 [0] rfl
              have e648_4 := f_4
              have hX648 := Evo.step hX646 (fun _ => Nat.le_refl 0) hE648 rfl
              refine fl_ret ?_
              refine hp640 _ _ _ rfl ?_
              refine hp639 _ _ _ rfl ?_
              replace hs := hz634 _ hs
              refine hp634 _ _ _ rfl ?_
              refine hp596 _ _ _ rfl ?_
              refine hp582 _ _ _ rfl ?_
              refine hp581 _ _ _ rfl ?_
              replace hs := hz576 _ hs
              refine hp576 _ _ _ rfl ?_
              refine hp418 _ _ _ rfl ?_
              refine hp416 _ _ _ rfl ?_
              obtain rfl := osome hs
              exact hret _ _ _ _ (.inl rfl) hd648 (results1_ rfl (RVal.tmp_ e648_4)) ⟨own648, rfl, hX648⟩
            refine fl_skip ?_
            refine hn640 _ _ ?_
            refine hn639 _ _ ?_
            refine rg_plain (n := 129) (rs := []) (own0 := own646) (K := [])
                (bs := [0, 1, 3])
                (ds := [⟨[], [12], [], Fct.val 90 (.int .i64 k618)⟩,
                ⟨[0], [], [], Fct.val 91 (.int .i64 (ad k618 1))⟩,
                ⟨[1], [], [], Fct.val 12 (.int .i64 (ad k618 1))⟩]) (by kernel_rfl) hz646 hd646 (fun _ h => nomatch h) ?_ ?_
            · refine steps_cons (fun own a wx hf hsl hE => ?_) ?_
              · obtain ⟨s_12, -⟩ := hsl
                exact sg_plain rfl rfl (or_move (s_12.trans e646_12))
              refine steps_cons (fun own a wx hf hsl hE => ?_) ?_
              · obtain ⟨(f_90 : a.eval (.tmp 90) = .int .i64 k618), -⟩ := hf
                exact sg_plain rfl rfl (or_add f_90 rfl rfl)
              refine steps_cons (fun own a wx hf hsl hE => ?_) ?_
              · obtain ⟨(f_91 : a.eval (.tmp 91) = .int .i64 (ad k618 1)), -⟩ := hf
                exact sg_plain rfl rfl (or_assign f_91)
              exact steps_nil
            intro own649 a649 w649 hd649 hz649 hk649 hf649 hE649
            have e649_0 : a649.eval (.tmp 0) = .slice A337 r336.length cA337 := (hk649 0 rfl).trans e646_0
            have e649_3 : a649.eval (.tmp 3) = .pointer (some ⟨g333, 0, none⟩) := (hk649 3 rfl).trans e646_3
            have e649_5 : a649.eval (.tmp 5) = .slice A360 t362.length c361 := (hk649 5 rfl).trans e646_5
            have e649_7 : a649.eval (.tmp 7) = .slice A401 r400.length cA401 := (hk649 7 rfl).trans e646_7
            have e649_8 : a649.eval (.tmp 8) = .slice A405 r404.length cA405 := (hk649 8 rfl).trans e646_8
            have e649_9 : a649.eval (.tmp 9) = .int .i64 i501 := (hk649 9 rfl).trans e646_9
            have e649_10 : a649.eval (.tmp 10) = .slice A584 x583.length cA584 := (hk649 10 rfl).trans e646_10
            have e649_11 : a649.eval (.tmp 11) = .slice A586 x585.length cA586 := (hk649 11 rfl).trans e646_11
            obtain ⟨(f_12 : a649.eval (.tmp 12) = .int .i64 (ad k618 1)), -⟩ := hf649 [2] rfl
            have e649_12 := f_12
            have hX649 := Evo.step hX646 (fun _ => Nat.le_refl 0) hE649 rfl
            have b649_A337 := RdO.evo rfl hE649 b646_A337
            have b649_g333 := BlkO.evo (by decide) hE649 b646_g333
            have b649_A360 := RwO.evo rfl hE649 b646_A360
            have b649_A401 := RwO.evo rfl hE649 b646_A401
            have b649_A405 := RwO.evo rfl hE649 b646_A405
            have b649_A584 := RdO.evo rfl hE649 b646_A584
            have b649_A586 := RdO.evo rfl hE649 b646_A586
            exact hn634 _ _ _ hs ⟨own649, hd649, hz649, e649_0, e649_3, e649_5, e649_7, e649_8, e649_9, e649_10, e649_11, e649_12, hX649, b649_A337, b649_g333, b649_A360, b649_A401, b649_A405, b649_A584, b649_A586⟩
          refine fl_exit ?_
          refine hp636 _ _ _ rfl ?_
          replace hs := hz634 _ hs
          refine hp634 _ _ _ rfl ?_
          refine hx596 _ _ ?_
          refine hn582 _ _ ?_
          refine hn581 _ _ ?_
          refine rg_plain (n := 129) (rs := []) (own0 := own637) (K := [])
              (bs := [0, 1, 3])
              (ds := [⟨[], [9], [], Fct.val 53 (.int .i64 i501)⟩,
              ⟨[0], [], [], Fct.val 54 (.int .i64 (ad i501 1))⟩,
              ⟨[1], [], [], Fct.val 9 (.int .i64 (ad i501 1))⟩]) (by kernel_rfl) hz637 hd637 (fun _ h => nomatch h) ?_ ?_
          · refine steps_cons (fun own a wx hf hsl hE => ?_) ?_
            · obtain ⟨s_9, -⟩ := hsl
              exact sg_plain rfl rfl (or_move (s_9.trans e637_9))
            refine steps_cons (fun own a wx hf hsl hE => ?_) ?_
            · obtain ⟨(f_53 : a.eval (.tmp 53) = .int .i64 i501), -⟩ := hf
              exact sg_plain rfl rfl (or_add f_53 rfl rfl)
            refine steps_cons (fun own a wx hf hsl hE => ?_) ?_
            · obtain ⟨(f_54 : a.eval (.tmp 54) = .int .i64 (ad i501 1)), -⟩ := hf
              exact sg_plain rfl rfl (or_assign f_54)
            exact steps_nil
          intro own650 a650 w650 hd650 hz650 hk650 hf650 hE650
          have e650_0 : a650.eval (.tmp 0) = .slice A337 r336.length cA337 := (hk650 0 rfl).trans e637_0
          have e650_3 : a650.eval (.tmp 3) = .pointer (some ⟨g333, 0, none⟩) := (hk650 3 rfl).trans e637_3
          have e650_5 : a650.eval (.tmp 5) = .slice A360 t362.length c361 := (hk650 5 rfl).trans e637_5
          have e650_7 : a650.eval (.tmp 7) = .slice A401 r400.length cA401 := (hk650 7 rfl).trans e637_7
          have e650_8 : a650.eval (.tmp 8) = .slice A405 r404.length cA405 := (hk650 8 rfl).trans e637_8
          obtain ⟨(f_9 : a650.eval (.tmp 9) = .int .i64 (ad i501 1)), -⟩ := hf650 [2] rfl
          have e650_9 := f_9
          have hX650 := Evo.step hX637 (fun _ => Nat.le_refl 0) hE650 rfl
          have b650_A337 := RdO.evo rfl hE650 b637_A337
          have b650_g333 := BlkO.evo (by decide) hE650 b637_g333
          have b650_A360 := RwO.evo rfl hE650 b637_A360
          have b650_A401 := RwO.evo rfl hE650 b637_A401
          have b650_A405 := RwO.evo rfl hE650 b637_A405
          exact hn576 _ _ _ hs ⟨own650, hd650, hz650, e650_0, e650_3, e650_5, e650_7, e650_8, e650_9, hX650, b650_A337, b650_g333, b650_A360, b650_A401, b650_A405⟩
      refine fl_exit ?_
      refine hp578 _ _ _ rfl ?_
      replace hs := hz576 _ hs
      refine hp576 _ _ _ rfl ?_
      refine hx418 _ _ ?_
      refine hn416 _ _ ?_
      obtain ⟨r651, hr651, hs⟩ := obind hs
      obtain ⟨r652, hr652, hs⟩ := obind hs
      obtain ⟨r653, hr653, hs⟩ := obind hs
      refine rg_draw_seq g_mixed (n := 129) (rs := []) (own0 := own579) (K := [])
          (bs := [0, 1, 3, 3, 15, 3, 3, 127, 255, 511, 1023])
          (ds := [⟨[], [], [], Fct.val 119 (.bool r651)⟩,
          ⟨[0], [], [], Fct.val 120 (.bool r651)⟩,
          ⟨[1], [0], [], Fct.cond r651 (some 121) (Fct.val 121 (.slice A337 r336.length cA337))⟩,
          ⟨[1], [3], [], Fct.cond r651 (some 122) (Fct.val 122 (.agg #[.int .i64 b2.1.1, .int .i64 b2.1.2, .int .i64 b2.2.1, .int .i64 b2.2.2]))⟩,
          ⟨[1, 2, 3], [], [], Fct.cond r651 (some 123) (Fct.val 123 (.bool r652))⟩,
          ⟨[1], [5], [], Fct.cond r651 (some 124) (Fct.val 124 (.slice A360 t362.length c361))⟩,
          ⟨[1], [3], [], Fct.cond r651 (some 125) (Fct.val 125 (.agg #[.int .i64 b2.1.1, .int .i64 b2.1.2, .int .i64 b2.2.1, .int .i64 b2.2.2]))⟩,
          ⟨[1, 5, 6], [], [], Fct.cond r651 (some 126) (Fct.val 126 (.bool r653))⟩,
          ⟨[1, 4, 7], [], [], Fct.cond r651 (some 127) (Fct.val 127 (.bool (r652 == r653)))⟩,
          ⟨[1, 8], [], [], Fct.val 128 (.bool (r651 && (r652 == r653)))⟩,
          ⟨[9], [], [], Fct.val 4 (.bool (r651 && (r652 == r653)))⟩]) (by kernel_rfl) hz579 hd579 (fun _ h => nomatch h) ?_ ?_
      · refine steps_cons (fun own a wx hf hsl hE => ?_) ?_
        · exact sg_plain rfl rfl (or_call cf10 (args0) (law22_known_w _   r651 hr651) post_val)
        refine steps_cons (fun own a wx hf hsl hE => ?_) ?_
        · obtain ⟨(f_119 : a.eval (.tmp 119) = .bool r651), -⟩ := hf
          exact sg_plain rfl rfl (or_move f_119)
        refine steps_cons (fun own a wx hf hsl hE => ?_) ?_
        · obtain ⟨(f_120 : a.eval (.tmp 120) = .bool r651), -⟩ := hf
          obtain ⟨s_0, -⟩ := hsl
          refine sg_t rfl rfl rfl f_120 (fun hg => ?_)
          exact or_move (s_0.trans e579_0)
        refine steps_cons (fun own a wx hf hsl hE => ?_) ?_
        · obtain ⟨(f_120 : a.eval (.tmp 120) = .bool r651), -⟩ := hf
          obtain ⟨s_3, -⟩ := hsl
          refine sg_t rfl rfl rfl f_120 (fun hg => ?_)
          exact or_load (l := [.int .i64 b2.1.1, .int .i64 b2.1.2, .int .i64 b2.2.1, .int .i64 b2.2.2]) ta36 (s_3.trans e579_3) (Blk.cellsFrom (BlkO.evo (by decide) hE b579_g333).2 0 rfl) rfl
        refine steps_cons (fun own a wx hf hsl hE => ?_) ?_
        · obtain ⟨(f_120 : a.eval (.tmp 120) = .bool r651), c_121, c_122, -⟩ := hf
          refine sg_t rfl rfl rfl f_120 (fun hg => ?_)
          have f_121 : a.eval (.tmp 121) = .slice A337 r336.length cA337 := c_121.1 hg
          have f_122 : a.eval (.tmp 122) = .agg #[.int .i64 b2.1.1, .int .i64 b2.1.2, .int .i64 b2.2.1, .int .i64 b2.2.2] := c_122.1 hg
          exact or_call cf19 (args2 f_121 f_122) (lineclip_Meets_w _ r336 A337 cA337 b2 (RdO.zero (RdO.evo rfl hE b579_A337)) r652 (gd_t hr652 hg)) post_val
        refine steps_cons (fun own a wx hf hsl hE => ?_) ?_
        · obtain ⟨(f_120 : a.eval (.tmp 120) = .bool r651), -⟩ := hf
          obtain ⟨s_5, -⟩ := hsl
          refine sg_t rfl rfl rfl f_120 (fun hg => ?_)
          exact or_move (s_5.trans e579_5)
        refine steps_cons (fun own a wx hf hsl hE => ?_) ?_
        · obtain ⟨(f_120 : a.eval (.tmp 120) = .bool r651), -⟩ := hf
          obtain ⟨s_3, -⟩ := hsl
          refine sg_t rfl rfl rfl f_120 (fun hg => ?_)
          exact or_load (l := [.int .i64 b2.1.1, .int .i64 b2.1.2, .int .i64 b2.2.1, .int .i64 b2.2.2]) ta36 (s_3.trans e579_3) (Blk.cellsFrom (BlkO.evo (by decide) hE b579_g333).2 0 rfl) rfl
        refine steps_cons (fun own a wx hf hsl hE => ?_) ?_
        · obtain ⟨(f_120 : a.eval (.tmp 120) = .bool r651), c_124, c_125, -⟩ := hf
          refine sg_t rfl rfl rfl f_120 (fun hg => ?_)
          have f_124 : a.eval (.tmp 124) = .slice A360 t362.length c361 := c_124.1 hg
          have f_125 : a.eval (.tmp 125) = .agg #[.int .i64 b2.1.1, .int .i64 b2.1.2, .int .i64 b2.2.1, .int .i64 b2.2.2] := c_125.1 hg
          exact or_call cf19 (args2 f_124 f_125) (lineclip_Meets_w _ t362 A360 c361 b2 (RdO.zero (RwO.rd (RwO.evo rfl hE b579_A360))) r653 (gd_t hr653 hg)) post_val
        refine steps_cons (fun own a wx hf hsl hE => ?_) ?_
        · obtain ⟨(f_120 : a.eval (.tmp 120) = .bool r651), c_123, c_126, -⟩ := hf
          refine sg_t rfl rfl rfl f_120 (fun hg => ?_)
          have f_123 : a.eval (.tmp 123) = .bool r652 := c_123.1 hg
          have f_126 : a.eval (.tmp 126) = .bool r653 := c_126.1 hg
          exact or_eqlb tb4 f_123 f_126 rfl
        refine steps_cons (fun own a wx hf hsl hE => ?_) ?_
        · obtain ⟨(f_120 : a.eval (.tmp 120) = .bool r651), c_127, -⟩ := hf
          exact sg_plain rfl rfl (or_and f_120 (fun hx => c_127.1 hx) rfl rfl)
        refine steps_cons (fun own a wx hf hsl hE => ?_) ?_
        · obtain ⟨(f_128 : a.eval (.tmp 128) = .bool (r651 && (r652 == r653))), -⟩ := hf
          exact sg_plain rfl rfl (or_assign f_128)
        exact steps_nil
      intro own654 a654 w654 hd654 hz654 hk654 hf654 hE654
      obtain ⟨(f_4 : a654.eval (.tmp 4) = .bool (r651 && (r652 == r653))), -⟩ := hf654 [10] rfl
      have e654_4 := f_4
      have hX654 := Evo.step hX579 (fun _ => Nat.le_refl 0) hE654 rfl
      refine fl_ret ?_
      obtain rfl := osome hs
      exact hret _ _ _ _ (.inl rfl) hd654 (results1_ rfl (RVal.tmp_ e654_4)) ⟨own654, rfl, hX654⟩

end Go.Proofs.Ythjcpojcpafbjaa
