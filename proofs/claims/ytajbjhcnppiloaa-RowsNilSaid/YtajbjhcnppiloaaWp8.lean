/-
  Chapter 06. The walks.
-/
import Derived.Test.YtajbjhcnppiloaaWp3
import Derived.Test.YtajbjhcnppiloaaSp8
namespace Go.Proofs.Ytajbjhcnppiloaa
open Go.RowKit
set_option linter.unusedVariables false
theorem rows_Index_Len_nil_w (w : World) (r : Int) (hs : rows_Index_Len_nil = some r) :
    Calls Try.prog 15 #[.pointer none] w fun e w' => ∃ own' : Own, e = .returned (.int .i64 r) ∧ Evo [] (fun _ => 0) own' w w' := by
  refine fl_enter (n := 10) rfl rfl rfl (Nat.le_of_ble_eq_true rfl) ?_
  intro a0 Q hd0 hz0 harg hret
  have ha0 := harg 0 _ rfl
  clear harg
  have hE0 : Evo [] (fun _ => 0) (fun _ => 0) w w := Evo.refl _ _ _
  refine rg_plain_seq (n := 10) (rs := []) (own0 := (fun _ => 0)) (K := [])
      (bs := [0])
      (ds := [⟨[], [], [], Fct.val 2 (.int .i64 0)⟩]) (by kernel_rfl) hz0 hd0 (fun _ h => nomatch h) ?_ ?_
  · refine steps_cons (fun own a wx hf hsl hE => ?_) ?_
    · exact sg_plain rfl rfl (or_assign rfl)
    exact steps_nil
  intro own15 a15 w15 hd15 hz15 hk15 hf15 hE15
  have e15_0 : a15.eval (.tmp 0) = .pointer none := (hk15 0 rfl).trans ha0
  have hX15 := Evo.step hE0 (fun _ => Nat.le_refl 0) hE15 rfl
  refine fl_seq (fun Q16 hn16 hp16 => ?_)
  refine rg_plain_seq (n := 10) (rs := []) (own0 := own15) (K := [])
      (bs := [0, 1])
      (ds := [⟨[], [0], [], Fct.val 3 (.pointer none)⟩,
      ⟨[0], [], [], Fct.val 4 (.bool true)⟩]) (by kernel_rfl) hz15 hd15 (fun _ h => nomatch h) ?_ ?_
  · refine steps_cons (fun own a wx hf hsl hE => ?_) ?_
    · obtain ⟨s_0, -⟩ := hsl
      exact sg_plain rfl rfl (or_move (s_0.trans e15_0))
    refine steps_cons (fun own a wx hf hsl hE => ?_) ?_
    · obtain ⟨(f_3 : a.eval (.tmp 3) = .pointer none), -⟩ := hf
      exact sg_plain rfl rfl (or_k [(3, .pointer none)] rfl rfl ⟨f_3, trivial⟩ (by kernel_rfl))
    exact steps_nil
  intro own17 a17 w17 hd17 hz17 hk17 hf17 hE17
  have e17_0 : a17.eval (.tmp 0) = .pointer none := (hk17 0 rfl).trans e15_0
  obtain ⟨(f_4 : a17.eval (.tmp 4) = .bool true), -⟩ := hf17 [1] rfl
  have e17_4 := f_4
  have hX17 := Evo.step hX15 (fun _ => Nat.le_refl 0) hE17 rfl
  refine fl_t e17_4 ?_
  refine rg_plain_seq (n := 10) (rs := []) (own0 := own17) (K := [])
      (bs := [0])
      (ds := [⟨[], [], [], Fct.val 2 (.int .i64 0)⟩]) (by kernel_rfl) hz17 hd17 (fun _ h => nomatch h) ?_ ?_
  · refine steps_cons (fun own a wx hf hsl hE => ?_) ?_
    · exact sg_plain rfl rfl (or_assign rfl)
    exact steps_nil
  intro own18 a18 w18 hd18 hz18 hk18 hf18 hE18
  obtain ⟨(f_2 : a18.eval (.tmp 2) = .int .i64 0), -⟩ := hf18 [0] rfl
  have e18_2 := f_2
  have hX18 := Evo.step hX17 (fun _ => Nat.le_refl 0) hE18 rfl
  refine fl_ret ?_
  refine hp16 _ _ _ rfl ?_
  obtain rfl := osome hs
  exact hret _ _ _ _ (.inl rfl) hd18 (results1_ rfl (RVal.tmp_ e18_2)) ⟨own18, rfl, hX18⟩

theorem rows_Index_Box_nil_w (w : World) (i2 : Int) (r : ((Int × Int) × (Int × Int)) × Bool) (hs : rows_Index_Box_nil i2 = some r) :
    Calls Try.prog 19 #[.pointer none, .int .i64 i2] w fun e w' => ∃ own' : Own, e = .returned (.tuple #[.agg #[.int .i64 r.1.1.1, .int .i64 r.1.1.2, .int .i64 r.1.2.1, .int .i64 r.1.2.2], .bool r.2]) ∧ Evo [] (fun _ => 0) own' w w' := by
  refine fl_enter (n := 22) rfl rfl rfl (Nat.le_of_ble_eq_true rfl) ?_
  intro a0 Q hd0 hz0 harg hret
  have ha0 := harg 0 _ rfl
  have ha1 := harg 1 _ rfl
  clear harg
  have hE0 : Evo [] (fun _ => 0) (fun _ => 0) w w := Evo.refl _ _ _
  refine rg_plain_seq (n := 22) (rs := []) (own0 := (fun _ => 0)) (K := [])
      (bs := [0, 0])
      (ds := [⟨[], [], [], Fct.blk 21 4 (fun g => .pointer (some ⟨g, 0, none⟩)) 26 #[.int .i64 0, .int .i64 0, .int .i64 0, .int .i64 0]⟩,
      ⟨[], [], [], Fct.val 5 (.bool false)⟩]) (by kernel_rfl) hz0 hd0 (fun _ h => nomatch h) ?_ ?_
  · refine steps_cons (fun own a wx hf hsl hE => ?_) ?_
    · exact sg_plain rfl rfl (or_new [] rfl rfl trivial (by kernel_rfl))
    refine steps_cons (fun own a wx hf hsl hE => ?_) ?_
    · exact sg_plain rfl rfl (or_assign rfl)
    exact steps_nil
  intro own22 a22 w22 hd22 hz22 hk22 hf22 hE22
  have e22_0 : a22.eval (.tmp 0) = .pointer none := (hk22 0 rfl).trans ha0
  have e22_1 : a22.eval (.tmp 1) = .int .i64 i2 := (hk22 1 rfl).trans ha1
  obtain ⟨⟨g20, (f_4 : a22.eval (.tmp 4) = .pointer (some ⟨g20, 0, none⟩)), (b_g20 : BlkO own22 21 w22 g20 26 #[.int .i64 0, .int .i64 0, .int .i64 0, .int .i64 0])⟩, -⟩ := hf22 [0] rfl
  have e22_4 := f_4
  have hX22 := Evo.step hE0 (fun _ => Nat.le_refl 0) hE22 rfl
  have b22_g20 := b_g20
  refine fl_seq (fun Q23 hn23 hp23 => ?_)
  obtain ⟨x24, hx24, hs⟩ := obind hs
  refine rg_plain_seq (n := 22) (rs := []) (own0 := own22) (K := [])
      (bs := [0, 1, 3, 7, 7, 23, 63, 127])
      (ds := [⟨[], [1], [], Fct.val 6 (.int .i64 i2)⟩,
      ⟨[0], [], [], Fct.val 7 (.bool (decide (i2 < 0)))⟩,
      ⟨[1], [], [], Fct.val 8 (.bool (decide (i2 < 0)))⟩,
      ⟨[2], [1], [], Fct.cond (!(decide (i2 < 0))) (some 9) (Fct.val 9 (.int .i64 i2))⟩,
      ⟨[2], [0], [], Fct.cond (!(decide (i2 < 0))) (some 10) (Fct.val 10 (.pointer none))⟩,
      ⟨[2, 4], [], [], Fct.cond (!(decide (i2 < 0))) (some 11) (Fct.val 11 (.int .i64 0))⟩,
      ⟨[2, 3, 5], [], [], Fct.cond (!(decide (i2 < 0))) (some 12) (Fct.val 12 (.bool (decide (0 ≤ i2))))⟩,
      ⟨[2, 6], [], [], Fct.val 13 (.bool x24)⟩]) (by kernel_rfl) hz22 hd22 (fun _ h => nomatch h) ?_ ?_
  · refine steps_cons (fun own a wx hf hsl hE => ?_) ?_
    · obtain ⟨s_1, -⟩ := hsl
      exact sg_plain rfl rfl (or_move (s_1.trans e22_1))
    refine steps_cons (fun own a wx hf hsl hE => ?_) ?_
    · obtain ⟨(f_6 : a.eval (.tmp 6) = .int .i64 i2), -⟩ := hf
      exact sg_plain rfl rfl (or_lss f_6 rfl rfl)
    refine steps_cons (fun own a wx hf hsl hE => ?_) ?_
    · obtain ⟨(f_7 : a.eval (.tmp 7) = .bool (decide (i2 < 0))), -⟩ := hf
      exact sg_plain rfl rfl (or_move f_7)
    refine steps_cons (fun own a wx hf hsl hE => ?_) ?_
    · obtain ⟨(f_8 : a.eval (.tmp 8) = .bool (decide (i2 < 0))), -⟩ := hf
      obtain ⟨s_1, -⟩ := hsl
      refine sg_f rfl rfl rfl f_8 (fun hg => ?_)
      exact or_move (s_1.trans e22_1)
    refine steps_cons (fun own a wx hf hsl hE => ?_) ?_
    · obtain ⟨(f_8 : a.eval (.tmp 8) = .bool (decide (i2 < 0))), -⟩ := hf
      obtain ⟨s_0, -⟩ := hsl
      refine sg_f rfl rfl rfl f_8 (fun hg => ?_)
      exact or_move (s_0.trans e22_0)
    refine steps_cons (fun own a wx hf hsl hE => ?_) ?_
    · obtain ⟨(f_8 : a.eval (.tmp 8) = .bool (decide (i2 < 0))), c_10, -⟩ := hf
      refine sg_f rfl rfl rfl f_8 (fun hg => ?_)
      have f_10 : a.eval (.tmp 10) = .pointer none := c_10.1 hg
      exact or_call cf15 (args1 f_10) (rows_Index_Len_nil_w _   0 rfl) post_val
    refine steps_cons (fun own a wx hf hsl hE => ?_) ?_
    · obtain ⟨(f_8 : a.eval (.tmp 8) = .bool (decide (i2 < 0))), c_9, c_11, -⟩ := hf
      refine sg_f rfl rfl rfl f_8 (fun hg => ?_)
      have f_9 : a.eval (.tmp 9) = .int .i64 i2 := c_9.1 hg
      have f_11 : a.eval (.tmp 11) = .int .i64 0 := c_11.1 hg
      exact or_geq f_9 f_11 rfl
    refine steps_cons (fun own a wx hf hsl hE => ?_) ?_
    · obtain ⟨(f_8 : a.eval (.tmp 8) = .bool (decide (i2 < 0))), c_12, -⟩ := hf
      exact sg_plain rfl rfl (or_or f_8 rfl (fun hx => c_12.1 hx) (osome hx24).symm)
    exact steps_nil
  intro own25 a25 w25 hd25 hz25 hk25 hf25 hE25
  have e25_0 : a25.eval (.tmp 0) = .pointer none := (hk25 0 rfl).trans e22_0
  have e25_1 : a25.eval (.tmp 1) = .int .i64 i2 := (hk25 1 rfl).trans e22_1
  have e25_4 : a25.eval (.tmp 4) = .pointer (some ⟨g20, 0, none⟩) := (hk25 4 rfl).trans e22_4
  obtain ⟨(f_13 : a25.eval (.tmp 13) = .bool x24), -⟩ := hf25 [7] rfl
  have e25_13 := f_13
  have hX25 := Evo.step hX22 (fun _ => Nat.le_refl 0) hE25 rfl
  have b25_g20 := BlkO.evo (by decide) hE25 b22_g20
  refine fl_cond e25_13 hs (fun c26 hs => ?_) (fun c26 hs => ?_)
  · refine rg_plain_seq (n := 22) (rs := [Fct.at_ 21 g20 26 #[.int .i64 0, .int .i64 0, .int .i64 0, .int .i64 0]]) (own0 := own25) (K := [21])
        (bs := [0, 1, 3])
        (ds := [⟨[], [], [], Fct.val 14 (.agg #[.int .i64 0, .int .i64 0, .int .i64 0, .int .i64 0])⟩,
        ⟨[0, 3], [4], [21], Fct.at_ 27 g20 26 #[.int .i64 0, .int .i64 0, .int .i64 0, .int .i64 0]⟩,
        ⟨[], [], [], Fct.val 5 (.bool false)⟩]) (by kernel_rfl) hz25 hd25 (by simp only [List.forall_mem_cons]; exact ⟨b25_g20, fun _ h => nomatch h⟩) ?_ ?_
    · refine steps_cons (fun own a wx hf hsl hE => ?_) ?_
      · exact sg_plain rfl rfl (or_k [] rfl rfl trivial (by kernel_rfl))
      refine steps_cons (fun own a wx hf hsl hE => ?_) ?_
      · obtain ⟨(f_14 : a.eval (.tmp 14) = .agg #[.int .i64 0, .int .i64 0, .int .i64 0, .int .i64 0]), (b_g20 : BlkO own 21 wx g20 26 #[.int .i64 0, .int .i64 0, .int .i64 0, .int .i64 0]), -⟩ := hf
        obtain ⟨s_4, -⟩ := hsl
        exact sg_plain rfl rfl (or_store (l := #[.int .i64 0, .int .i64 0, .int .i64 0, .int .i64 0]) (lab := 21) (lab2 := 27) ts26 (s_4.trans e25_4) f_14 b_g20 (by simp) (by kernel_rfl) (mem_of rfl) (by decide) (by kernel_rfl) (fun own' a' w' ha hb => hb))
      refine steps_cons (fun own a wx hf hsl hE => ?_) ?_
      · exact sg_plain rfl rfl (or_assign rfl)
      exact steps_nil
    intro own28 a28 w28 hd28 hz28 hk28 hf28 hE28
    have e28_4 : a28.eval (.tmp 4) = .pointer (some ⟨g20, 0, none⟩) := (hk28 4 rfl).trans e25_4
    obtain ⟨(f_5 : a28.eval (.tmp 5) = .bool false), (b_g20 : BlkO own28 27 w28 g20 26 #[.int .i64 0, .int .i64 0, .int .i64 0, .int .i64 0]), -⟩ := hf28 [2, 1] rfl
    have e28_5 := f_5
    have hX28 := Evo.step hX25 (fun _ => Nat.le_refl 0) hE28 rfl
    have b28_g20 := b_g20
    refine fl_ret ?_
    refine hp23 _ _ _ rfl ?_
    obtain rfl := osome hs
    exact hret _ _ _ _ (.inl rfl) hd28 (results2_ rfl (RVal.cell_ e28_4 (run_loadVarAgg (l := [.int .i64 0, .int .i64 0, .int .i64 0, .int .i64 0]) ta26 (Blk.cellsFrom b28_g20.2 0 rfl) rfl)) (RVal.tmp_ e28_5)) ⟨own28, rfl, hX28⟩
  refine fl_skip ?_
  refine hn23 _ _ ?_
  exact nomatch hs

theorem rows_Index_Add_nil_w (w : World) (l2 : List ((Int × Int) × (Int × Int))) (Al2 : Option Addr) (cl2 : Nat) (hl2 : RdO (fun _ => 0) [0] w R26 Al2 cl2 l2) (r : Int) (hs : rows_Index_Add_nil l2 = some r) :
    Calls Try.prog 8 #[.pointer none, .slice Al2 l2.length cl2] w fun e w' => ∃ own' : Own, e = .returned (.int .i64 r) ∧ Evo [] (fun _ => 0) own' w w' := by
  refine fl_enterM (n := 69) (kD := 11) (by decide) rfl rfl rfl (Nat.le_of_ble_eq_true rfl) ?_
  intro a0 Q hd0 hz0 harg hret
  have ha0 := harg 0 _ rfl
  have ha1 := harg 1 _ rfl
  clear harg
  have hE0 : Evo [] (fun _ => 0) (fun _ => 0) w w := Evo.refl _ _ _
  have hmk0 : MkO (fun _ => 0) 11 w [] := MkO.nil_
  refine rg_plain_seq (n := 69) (rs := []) (own0 := (fun _ => 0)) (K := [])
      (bs := [0, 0])
      (ds := [⟨[], [0], [], Fct.blk 19 2 (fun g => .pointer (some ⟨g, 0, none⟩)) 27 #[.pointer none]⟩,
      ⟨[], [], [], Fct.val 4 (.int .i64 0)⟩]) (by kernel_rfl) hz0 hd0 (fun _ h => nomatch h) ?_ ?_
  · refine steps_cons (fun own a wx hf hsl hE => ?_) ?_
    · obtain ⟨s_0, -⟩ := hsl
      exact sg_plain rfl rfl (or_new [(0, .pointer none)] rfl rfl ⟨(s_0.trans ha0), trivial⟩ (by kernel_rfl))
    refine steps_cons (fun own a wx hf hsl hE => ?_) ?_
    · exact sg_plain rfl rfl (or_assign rfl)
    exact steps_nil
  intro own20 a20 w20 hd20 hz20 hk20 hf20 hE20
  have e20_1 : a20.eval (.tmp 1) = .slice Al2 l2.length cl2 := (hk20 1 rfl).trans ha1
  obtain ⟨⟨g18, (f_2 : a20.eval (.tmp 2) = .pointer (some ⟨g18, 0, none⟩)), (b_g18 : BlkO own20 19 w20 g18 27 #[.pointer none])⟩, -⟩ := hf20 [0] rfl
  have e20_2 := f_2
  have hX20 := Evo.step hE0 (fun _ => Nat.le_refl 0) hE20 rfl
  have b20_Al2 := RdO.evo rfl hE20 hl2
  have b20_mk := MkO.evo (by decide) hE20 hmk0
  have b20_g18 := b_g18
  refine fl_seq (fun Q21 hn21 hp21 => ?_)
  refine rg_plain_seq (n := 69) (rs := []) (own0 := own20) (K := [])
      (bs := [0, 1])
      (ds := [⟨[], [2], [], Fct.val 9 (.pointer none)⟩,
      ⟨[0], [], [], Fct.val 10 (.bool true)⟩]) (by kernel_rfl) hz20 hd20 (fun _ h => nomatch h) ?_ ?_
  · refine steps_cons (fun own a wx hf hsl hE => ?_) ?_
    · obtain ⟨s_2, -⟩ := hsl
      exact sg_plain rfl rfl (or_load1 to27 (s_2.trans e20_2) (Blk.at_ (BlkO.evo (by decide) hE b20_g18).2 0 rfl))
    refine steps_cons (fun own a wx hf hsl hE => ?_) ?_
    · obtain ⟨(f_9 : a.eval (.tmp 9) = .pointer none), -⟩ := hf
      exact sg_plain rfl rfl (or_k [(9, .pointer none)] rfl rfl ⟨f_9, trivial⟩ (by kernel_rfl))
    exact steps_nil
  intro own22 a22 w22 hd22 hz22 hk22 hf22 hE22
  have e22_1 : a22.eval (.tmp 1) = .slice Al2 l2.length cl2 := (hk22 1 rfl).trans e20_1
  have e22_2 : a22.eval (.tmp 2) = .pointer (some ⟨g18, 0, none⟩) := (hk22 2 rfl).trans e20_2
  obtain ⟨(f_10 : a22.eval (.tmp 10) = .bool true), -⟩ := hf22 [1] rfl
  have e22_10 := f_10
  have hX22 := Evo.step hX20 (fun _ => Nat.le_refl 0) hE22 rfl
  have b22_Al2 := RdO.evo rfl hE22 b20_Al2
  have b22_mk := MkO.evo (by decide) hE22 b20_mk
  have b22_g18 := BlkO.evo (by decide) hE22 b20_g18
  refine fl_t e22_10 ?_
  refine rg_plain_seq (n := 69) (rs := []) (own0 := own22) (K := [])
      (bs := [0])
      (ds := [⟨[], [], [], Fct.val 4 (.int .i64 0)⟩]) (by kernel_rfl) hz22 hd22 (fun _ h => nomatch h) ?_ ?_
  · refine steps_cons (fun own a wx hf hsl hE => ?_) ?_
    · exact sg_plain rfl rfl (or_assign rfl)
    exact steps_nil
  intro own23 a23 w23 hd23 hz23 hk23 hf23 hE23
  obtain ⟨(f_4 : a23.eval (.tmp 4) = .int .i64 0), -⟩ := hf23 [0] rfl
  have e23_4 := f_4
  have hX23 := Evo.step hX22 (fun _ => Nat.le_refl 0) hE23 rfl
  have b23_mk := MkO.evo (by decide) hE23 b22_mk
  refine fl_ret ?_
  refine hp21 _ _ _ rfl ?_
  refine hret _ _ _ _ _ (.inl rfl) hd23 b23_mk (fun own24 w24 hE24 => ?_)
  have hX25 := Evo.step hX23 (fun _ => Nat.le_refl 0) hE24 rfl
  obtain rfl := osome hs
  exact ⟨_, results1_ rfl (RVal.tmp_ e23_4), ⟨own24, rfl, hX25⟩⟩

theorem rows_Index_Find_nil_w (w : World) (b2 : (Int × Int) × (Int × Int)) (r : List Int) (hs : rows_Index_Find_nil b2 = some r) :
    Calls Try.prog 11 #[.pointer none, .agg #[.int .i64 b2.1.1, .int .i64 b2.1.2, .int .i64 b2.2.1, .int .i64 b2.2.2]] w fun e w' => ∃ (own' : Own) (x : Option Addr × Nat), e = .returned (.slice x.1 r.length x.2) ∧ Evo [] (fun _ => 0) own' w w' ∧ RwO own' 1 [] w' 3 R3 x.1 x.2 r := by
  refine fl_enterM (n := 104) (kD := 11) (by decide) rfl rfl rfl (Nat.le_of_ble_eq_true rfl) ?_
  intro a0 Q hd0 hz0 harg hret
  have ha0 := harg 0 _ rfl
  have ha1 := harg 1 _ rfl
  clear harg
  have hE0 : Evo [] (fun _ => 0) (fun _ => 0) w w := Evo.refl _ _ _
  have hmk0 : MkO (fun _ => 0) 11 w [] := MkO.nil_
  refine rg_plain_seq (n := 104) (rs := []) (own0 := (fun _ => 0)) (K := [])
      (bs := [0, 0, 0])
      (ds := [⟨[], [0], [], Fct.blk 32 2 (fun g => .pointer (some ⟨g, 0, none⟩)) 27 #[.pointer none]⟩,
      ⟨[], [1], [], Fct.blk 34 3 (fun g => .pointer (some ⟨g, 0, none⟩)) 26 #[.int .i64 b2.1.1, .int .i64 b2.1.2, .int .i64 b2.2.1, .int .i64 b2.2.2]⟩,
      ⟨[], [], [], Fct.val 4 (.slice none 0 0)⟩]) (by kernel_rfl) hz0 hd0 (fun _ h => nomatch h) ?_ ?_
  · refine steps_cons (fun own a wx hf hsl hE => ?_) ?_
    · obtain ⟨s_0, -⟩ := hsl
      exact sg_plain rfl rfl (or_new [(0, .pointer none)] rfl rfl ⟨(s_0.trans ha0), trivial⟩ (by kernel_rfl))
    refine steps_cons (fun own a wx hf hsl hE => ?_) ?_
    · obtain ⟨s_1, -⟩ := hsl
      exact sg_plain rfl rfl (or_new [(1, .agg #[.int .i64 b2.1.1, .int .i64 b2.1.2, .int .i64 b2.2.1, .int .i64 b2.2.2])] rfl rfl ⟨(s_1.trans ha1), trivial⟩ (by kernel_rfl))
    refine steps_cons (fun own a wx hf hsl hE => ?_) ?_
    · exact sg_plain rfl rfl (or_assign rfl)
    exact steps_nil
  intro own35 a35 w35 hd35 hz35 hk35 hf35 hE35
  obtain ⟨⟨g31, (f_2 : a35.eval (.tmp 2) = .pointer (some ⟨g31, 0, none⟩)), (b_g31 : BlkO own35 32 w35 g31 27 #[.pointer none])⟩, ⟨g33, (f_3 : a35.eval (.tmp 3) = .pointer (some ⟨g33, 0, none⟩)), (b_g33 : BlkO own35 34 w35 g33 26 #[.int .i64 b2.1.1, .int .i64 b2.1.2, .int .i64 b2.2.1, .int .i64 b2.2.2])⟩, -⟩ := hf35 [0, 1] rfl
  have e35_2 := f_2
  have e35_3 := f_3
  have hX35 := Evo.step hE0 (fun _ => Nat.le_refl 0) hE35 rfl
  have b35_mk := MkO.evo (by decide) hE35 hmk0
  have b35_g31 := b_g31
  have b35_g33 := b_g33
  refine fl_seq (fun Q36 hn36 hp36 => ?_)
  obtain ⟨r37, hr37, hs⟩ := obind hs
  refine rg_plain_seq (n := 104) (rs := []) (own0 := own35) (K := [])
      (bs := [0, 1, 3, 7, 15, 31, 63])
      (ds := [⟨[], [2], [], Fct.val 14 (.pointer none)⟩,
      ⟨[0], [], [], Fct.val 15 (.bool true)⟩,
      ⟨[1], [], [], Fct.val 16 (.bool true)⟩,
      ⟨[2], [3], [], Fct.cond (!true) (some 17) (Fct.val 17 (.agg #[.int .i64 b2.1.1, .int .i64 b2.1.2, .int .i64 b2.2.1, .int .i64 b2.2.2]))⟩,
      ⟨[2, 3], [], [], Fct.cond (!true) (some 18) (Fct.val 18 (.bool r37))⟩,
      ⟨[2, 4], [], [], Fct.cond (!true) (some 19) (Fct.val 19 (.bool (!r37)))⟩,
      ⟨[2, 5], [], [], Fct.val 20 (.bool (true || (!r37)))⟩]) (by kernel_rfl) hz35 hd35 (fun _ h => nomatch h) ?_ ?_
  · refine steps_cons (fun own a wx hf hsl hE => ?_) ?_
    · obtain ⟨s_2, -⟩ := hsl
      exact sg_plain rfl rfl (or_load1 to27 (s_2.trans e35_2) (Blk.at_ (BlkO.evo (by decide) hE b35_g31).2 0 rfl))
    refine steps_cons (fun own a wx hf hsl hE => ?_) ?_
    · obtain ⟨(f_14 : a.eval (.tmp 14) = .pointer none), -⟩ := hf
      exact sg_plain rfl rfl (or_k [(14, .pointer none)] rfl rfl ⟨f_14, trivial⟩ (by kernel_rfl))
    refine steps_cons (fun own a wx hf hsl hE => ?_) ?_
    · obtain ⟨(f_15 : a.eval (.tmp 15) = .bool true), -⟩ := hf
      exact sg_plain rfl rfl (or_move f_15)
    refine steps_cons (fun own a wx hf hsl hE => ?_) ?_
    · obtain ⟨(f_16 : a.eval (.tmp 16) = .bool true), -⟩ := hf
      obtain ⟨s_3, -⟩ := hsl
      refine sg_f rfl rfl rfl f_16 (fun hg => ?_)
      exact or_load (l := [.int .i64 b2.1.1, .int .i64 b2.1.2, .int .i64 b2.2.1, .int .i64 b2.2.2]) ta26 (s_3.trans e35_3) (Blk.cellsFrom (BlkO.evo (by decide) hE b35_g33).2 0 rfl) rfl
    refine steps_cons (fun own a wx hf hsl hE => ?_) ?_
    · obtain ⟨(f_16 : a.eval (.tmp 16) = .bool true), c_17, -⟩ := hf
      refine sg_f rfl rfl rfl f_16 (fun hg => ?_)
      have f_17 : a.eval (.tmp 17) = .agg #[.int .i64 b2.1.1, .int .i64 b2.1.2, .int .i64 b2.2.1, .int .i64 b2.2.2] := c_17.1 hg
      exact or_call cf13 (args1 f_17) (rows_Right_w _ b2  r37 (gd_t hr37 hg)) post_val
    refine steps_cons (fun own a wx hf hsl hE => ?_) ?_
    · obtain ⟨(f_16 : a.eval (.tmp 16) = .bool true), c_18, -⟩ := hf
      refine sg_f rfl rfl rfl f_16 (fun hg => ?_)
      have f_18 : a.eval (.tmp 18) = .bool r37 := c_18.1 hg
      exact or_not f_18 rfl
    refine steps_cons (fun own a wx hf hsl hE => ?_) ?_
    · obtain ⟨(f_16 : a.eval (.tmp 16) = .bool true), c_19, -⟩ := hf
      exact sg_plain rfl rfl (or_or f_16 rfl (fun hx => c_19.1 hx) rfl)
    exact steps_nil
  intro own38 a38 w38 hd38 hz38 hk38 hf38 hE38
  have e38_2 : a38.eval (.tmp 2) = .pointer (some ⟨g31, 0, none⟩) := (hk38 2 rfl).trans e35_2
  have e38_3 : a38.eval (.tmp 3) = .pointer (some ⟨g33, 0, none⟩) := (hk38 3 rfl).trans e35_3
  obtain ⟨(f_20 : a38.eval (.tmp 20) = .bool (true || (!r37))), -⟩ := hf38 [6] rfl
  have e38_20 := f_20
  have hX38 := Evo.step hX35 (fun _ => Nat.le_refl 0) hE38 rfl
  have b38_mk := MkO.evo (by decide) hE38 b35_mk
  have b38_g31 := BlkO.evo (by decide) hE38 b35_g31
  have b38_g33 := BlkO.evo (by decide) hE38 b35_g33
  refine fl_cond e38_20 hs (fun c39 hs => ?_) (fun c39 hs => ?_)
  · refine rg_plain_seq (n := 104) (rs := []) (own0 := own38) (K := [])
        (bs := [0])
        (ds := [⟨[], [], [], Fct.val 4 (.slice none 0 0)⟩]) (by kernel_rfl) hz38 hd38 (fun _ h => nomatch h) ?_ ?_
    · refine steps_cons (fun own a wx hf hsl hE => ?_) ?_
      · exact sg_plain rfl rfl (or_assign rfl)
      exact steps_nil
    intro own40 a40 w40 hd40 hz40 hk40 hf40 hE40
    obtain ⟨(f_4 : a40.eval (.tmp 4) = .slice none 0 0), -⟩ := hf40 [0] rfl
    have e40_4 := f_4
    have hX40 := Evo.step hX38 (fun _ => Nat.le_refl 0) hE40 rfl
    have b40_mk := MkO.evo (by decide) hE40 b38_mk
    refine fl_ret ?_
    refine hp36 _ _ _ rfl ?_
    refine hret _ _ _ _ _ (.inl rfl) hd40 b40_mk (fun own41 w41 hE41 => ?_)
    have hX42 := Evo.step hX40 (fun _ => Nat.le_refl 0) hE41 rfl
    obtain rfl := osome hs
    exact ⟨_, results1_ rfl (RVal.tmp_ e40_4), ⟨own41, (none, 0), rfl, hX42, RwO.nil_⟩⟩
  refine fl_skip ?_
  refine hn36 _ _ ?_
  refine rg_plain_seq (n := 104) (rs := []) (own0 := own38) (K := [])
      (bs := [0])
      (ds := [⟨[], [], [], Fct.blk 44 5 (fun g => .pointer (some ⟨g, 0, none⟩)) 33 #[.slice none 0 0]⟩]) (by kernel_rfl) hz38 hd38 (fun _ h => nomatch h) ?_ ?_
  · refine steps_cons (fun own a wx hf hsl hE => ?_) ?_
    · exact sg_plain rfl rfl (or_new [] rfl rfl trivial (by kernel_rfl))
    exact steps_nil
  intro own45 a45 w45 hd45 hz45 hk45 hf45 hE45
  have e45_2 : a45.eval (.tmp 2) = .pointer (some ⟨g31, 0, none⟩) := (hk45 2 rfl).trans e38_2
  have e45_3 : a45.eval (.tmp 3) = .pointer (some ⟨g33, 0, none⟩) := (hk45 3 rfl).trans e38_3
  obtain ⟨⟨g43, (f_5 : a45.eval (.tmp 5) = .pointer (some ⟨g43, 0, none⟩)), (b_g43 : BlkO own45 44 w45 g43 33 #[.slice none 0 0])⟩, -⟩ := hf45 [0] rfl
  have e45_5 := f_5
  have hX45 := Evo.step hX38 (fun _ => Nat.le_refl 0) hE45 rfl
  have b45_mk := MkO.evo (by decide) hE45 b38_mk
  have b45_g31 := BlkO.evo (by decide) hE45 b38_g31
  have b45_g33 := BlkO.evo (by decide) hE45 b38_g33
  have b45_g43 := b_g43
  refine fl_seq (fun Q46 hn46 hp46 => ?_)
  obtain ⟨r47, hr47, hs⟩ := obind hs
  refine rg_plain_seq (n := 104) (rs := []) (own0 := own45) (K := [])
      (bs := [0, 1])
      (ds := [⟨[], [3], [], Fct.val 21 (.agg #[.int .i64 b2.1.1, .int .i64 b2.1.2, .int .i64 b2.2.1, .int .i64 b2.2.2])⟩,
      ⟨[0], [], [], Fct.val 22 (.bool r47)⟩]) (by kernel_rfl) hz45 hd45 (fun _ h => nomatch h) ?_ ?_
  · refine steps_cons (fun own a wx hf hsl hE => ?_) ?_
    · obtain ⟨s_3, -⟩ := hsl
      exact sg_plain rfl rfl (or_load (l := [.int .i64 b2.1.1, .int .i64 b2.1.2, .int .i64 b2.2.1, .int .i64 b2.2.2]) ta26 (s_3.trans e45_3) (Blk.cellsFrom (BlkO.evo (by decide) hE b45_g33).2 0 rfl) rfl)
    refine steps_cons (fun own a wx hf hsl hE => ?_) ?_
    · obtain ⟨(f_21 : a.eval (.tmp 21) = .agg #[.int .i64 b2.1.1, .int .i64 b2.1.2, .int .i64 b2.2.1, .int .i64 b2.2.2]), -⟩ := hf
      exact sg_plain rfl rfl (or_call cf25 (args1 f_21) (rows_great_w _ b2  r47 hr47) post_val)
    exact steps_nil
  intro own48 a48 w48 hd48 hz48 hk48 hf48 hE48
  have e48_2 : a48.eval (.tmp 2) = .pointer (some ⟨g31, 0, none⟩) := (hk48 2 rfl).trans e45_2
  have e48_3 : a48.eval (.tmp 3) = .pointer (some ⟨g33, 0, none⟩) := (hk48 3 rfl).trans e45_3
  have e48_5 : a48.eval (.tmp 5) = .pointer (some ⟨g43, 0, none⟩) := (hk48 5 rfl).trans e45_5
  obtain ⟨(f_22 : a48.eval (.tmp 22) = .bool r47), -⟩ := hf48 [1] rfl
  have e48_22 := f_22
  have hX48 := Evo.step hX45 (fun _ => Nat.le_refl 0) hE48 rfl
  have b48_mk := MkO.evo (by decide) hE48 b45_mk
  have b48_g31 := BlkO.evo (by decide) hE48 b45_g31
  have b48_g33 := BlkO.evo (by decide) hE48 b45_g33
  have b48_g43 := BlkO.evo (by decide) hE48 b45_g43
  refine fl_cond e48_22 hs (fun c49 hs => ?_) (fun c49 hs => ?_)
  · refine fl_seq (fun Q50 hn50 hp50 => ?_)
    exact nomatch hs
  refine fl_skip ?_
  refine hn46 _ _ ?_
  refine fl_seq (fun Q51 hn51 hp51 => ?_)
  exact nomatch hs

theorem rows_Index_At_nil_w (w : World) (p2 : Int × Int) (r : List Int) (hs : rows_Index_At_nil p2 = some r) :
    Calls Try.prog 20 #[.pointer none, .agg #[.int .i64 p2.1, .int .i64 p2.2]] w fun e w' => ∃ (own' : Own) (x : Option Addr × Nat), e = .returned (.slice x.1 r.length x.2) ∧ Evo [] (fun _ => 0) own' w w' ∧ RwO own' 1 [] w' 3 R3 x.1 x.2 r := by
  refine fl_enter (n := 10) rfl rfl rfl (Nat.le_of_ble_eq_true rfl) ?_
  intro a0 Q hd0 hz0 harg hret
  have ha0 := harg 0 _ rfl
  have ha1 := harg 1 _ rfl
  clear harg
  have hE0 : Evo [] (fun _ => 0) (fun _ => 0) w w := Evo.refl _ _ _
  refine rg_plain_seq (n := 10) (rs := []) (own0 := (fun _ => 0)) (K := [])
      (bs := [0, 0])
      (ds := [⟨[], [1], [], Fct.blk 19 3 (fun g => .pointer (some ⟨g, 0, none⟩)) 24 #[.int .i64 p2.1, .int .i64 p2.2]⟩,
      ⟨[], [], [], Fct.val 4 (.slice none 0 0)⟩]) (by kernel_rfl) hz0 hd0 (fun _ h => nomatch h) ?_ ?_
  · refine steps_cons (fun own a wx hf hsl hE => ?_) ?_
    · obtain ⟨s_1, -⟩ := hsl
      exact sg_plain rfl rfl (or_new [(1, .agg #[.int .i64 p2.1, .int .i64 p2.2])] rfl rfl ⟨(s_1.trans ha1), trivial⟩ (by kernel_rfl))
    refine steps_cons (fun own a wx hf hsl hE => ?_) ?_
    · exact sg_plain rfl rfl (or_assign rfl)
    exact steps_nil
  intro own20 a20 w20 hd20 hz20 hk20 hf20 hE20
  have e20_0 : a20.eval (.tmp 0) = .pointer none := (hk20 0 rfl).trans ha0
  obtain ⟨⟨g18, (f_3 : a20.eval (.tmp 3) = .pointer (some ⟨g18, 0, none⟩)), (b_g18 : BlkO own20 19 w20 g18 24 #[.int .i64 p2.1, .int .i64 p2.2])⟩, -⟩ := hf20 [0] rfl
  have e20_3 := f_3
  have hX20 := Evo.step hE0 (fun _ => Nat.le_refl 0) hE20 rfl
  have b20_g18 := b_g18
  obtain ⟨r21, hr21, hs⟩ := obind hs
  refine rg_plain_seq (n := 10) (rs := []) (own0 := own20) (K := [])
      (bs := [0, 0, 0, 6, 15, 31])
      (ds := [⟨[], [0], [], Fct.val 5 (.pointer none)⟩,
      ⟨[], [3], [], Fct.val 6 (.agg #[.int .i64 p2.1, .int .i64 p2.2])⟩,
      ⟨[], [3], [], Fct.val 7 (.agg #[.int .i64 p2.1, .int .i64 p2.2])⟩,
      ⟨[1, 2], [], [], Fct.val 8 (.agg #[.int .i64 p2.1, .int .i64 p2.2, .int .i64 p2.1, .int .i64 p2.2])⟩,
      ⟨[0, 3], [], [], Fct.row 23 [] 9 3 R3 r21⟩,
      ⟨[4], [], [], Fct.rel [4, 9] (fun l => ∀ (A22 : Option Addr) (cA22 : Nat), l.getD 1 undef = .slice A22 r21.length cA22 → l.getD 0 undef = .slice A22 r21.length cA22)⟩]) (by kernel_rfl) hz20 hd20 (fun _ h => nomatch h) ?_ ?_
  · refine steps_cons (fun own a wx hf hsl hE => ?_) ?_
    · obtain ⟨s_0, -⟩ := hsl
      exact sg_plain rfl rfl (or_move (s_0.trans e20_0))
    refine steps_cons (fun own a wx hf hsl hE => ?_) ?_
    · obtain ⟨s_3, -⟩ := hsl
      exact sg_plain rfl rfl (or_load (l := [.int .i64 p2.1, .int .i64 p2.2]) ta24 (s_3.trans e20_3) (Blk.cellsFrom (BlkO.evo (by decide) hE b20_g18).2 0 rfl) rfl)
    refine steps_cons (fun own a wx hf hsl hE => ?_) ?_
    · obtain ⟨s_3, -⟩ := hsl
      exact sg_plain rfl rfl (or_load (l := [.int .i64 p2.1, .int .i64 p2.2]) ta24 (s_3.trans e20_3) (Blk.cellsFrom (BlkO.evo (by decide) hE b20_g18).2 0 rfl) rfl)
    refine steps_cons (fun own a wx hf hsl hE => ?_) ?_
    · obtain ⟨(f_6 : a.eval (.tmp 6) = .agg #[.int .i64 p2.1, .int .i64 p2.2]), (f_7 : a.eval (.tmp 7) = .agg #[.int .i64 p2.1, .int .i64 p2.2]), -⟩ := hf
      exact sg_plain rfl rfl (or_k [(6, .agg #[.int .i64 p2.1, .int .i64 p2.2]), (7, .agg #[.int .i64 p2.1, .int .i64 p2.2])] rfl rfl ⟨f_6, f_7, trivial⟩ (by kernel_rfl))
    refine steps_cons (fun own a wx hf hsl hE => ?_) ?_
    · obtain ⟨(f_5 : a.eval (.tmp 5) = .pointer none), (f_8 : a.eval (.tmp 8) = .agg #[.int .i64 p2.1, .int .i64 p2.2, .int .i64 p2.1, .int .i64 p2.2]), -⟩ := hf
      exact sg_plain rfl rfl (or_call cf11 (args2 f_5 f_8) (rows_Index_Find_nil_w _ (p2, p2)  r21 hr21) (post_row (m' := (look0 [(1, 23)])) (.inl (Rep.fl_flat _)) rfl rfl (fun _ => rfl)))
    refine steps_cons (fun own a wx hf hsl hE => ?_) ?_
    · obtain ⟨⟨⟨A22, cA22⟩, (f_9 : a.eval (.tmp 9) = .slice A22 r21.length cA22), (b_A22 : RwO own 23 [] wx 3 R3 A22 cA22 r21)⟩, -⟩ := hf
      exact sg_plain rfl rfl (or_mono (f := Fct.val 4 (.slice A22 r21.length cA22)) (or_assign f_9) (fun own' a' w' v' hp h => fun _ _ h0' => by cases (f_9.symm.trans ((hp.2 9 (by decide)).symm.trans h0')); exact h))
    exact steps_nil
  intro own24 a24 w24 hd24 hz24 hk24 hf24 hE24
  obtain ⟨⟨⟨A22, cA22⟩, (f_9 : a24.eval (.tmp 9) = .slice A22 r21.length cA22), (b_A22 : RwO own24 23 [] w24 3 R3 A22 cA22 r21)⟩, (q_4 : ∀ (A22 : Option Addr) (cA22 : Nat), a24.eval (.tmp 9) = .slice A22 r21.length cA22 → a24.eval (.tmp 4) = .slice A22 r21.length cA22), -⟩ := hf24 [4, 5] rfl
  have f_4 := q_4 _ _ f_9
  have e24_4 := f_4
  have hX24 := Evo.step hX20 (fun _ => Nat.le_refl 0) hE24 rfl
  have b24_A22 := b_A22
  refine fl_ret ?_
  obtain rfl := (osome hs).symm
  exact hret _ _ _ _ (.inl rfl) hd24 (results1_ rfl (RVal.tmp_ e24_4)) ⟨(rl [(23, 1)] own24), (A22, cA22), rfl, (Evo.rl_ hX24 (fun _ => Nat.le_refl 0) rfl), (RwO.rl_ (mm := [(23, 1)]) b24_A22)⟩

theorem rows_Index_Pairs_nil_w (w : World) (r : List (Int × Int)) (hs : rows_Index_Pairs_nil = some r) :
    Calls Try.prog 9 #[.pointer none] w fun e w' => ∃ (own' : Own) (x : Option Addr × Nat), e = .returned (.slice x.1 r.length x.2) ∧ Evo [] (fun _ => 0) own' w w' ∧ RwO own' 1 [] w' 35 R35 x.1 x.2 r := by
  refine fl_enter (n := 40) rfl rfl rfl (Nat.le_of_ble_eq_true rfl) ?_
  intro a0 Q hd0 hz0 harg hret
  have ha0 := harg 0 _ rfl
  clear harg
  have hE0 : Evo [] (fun _ => 0) (fun _ => 0) w w := Evo.refl _ _ _
  refine rg_plain_seq (n := 40) (rs := []) (own0 := (fun _ => 0)) (K := [])
      (bs := [0])
      (ds := [⟨[], [], [], Fct.val 2 (.slice none 0 0)⟩]) (by kernel_rfl) hz0 hd0 (fun _ h => nomatch h) ?_ ?_
  · refine steps_cons (fun own a wx hf hsl hE => ?_) ?_
    · exact sg_plain rfl rfl (or_assign rfl)
    exact steps_nil
  intro own15 a15 w15 hd15 hz15 hk15 hf15 hE15
  have e15_0 : a15.eval (.tmp 0) = .pointer none := (hk15 0 rfl).trans ha0
  have hX15 := Evo.step hE0 (fun _ => Nat.le_refl 0) hE15 rfl
  refine fl_seq (fun Q16 hn16 hp16 => ?_)
  refine rg_plain_seq (n := 40) (rs := []) (own0 := own15) (K := [])
      (bs := [0, 1])
      (ds := [⟨[], [0], [], Fct.val 8 (.pointer none)⟩,
      ⟨[0], [], [], Fct.val 9 (.bool true)⟩]) (by kernel_rfl) hz15 hd15 (fun _ h => nomatch h) ?_ ?_
  · refine steps_cons (fun own a wx hf hsl hE => ?_) ?_
    · obtain ⟨s_0, -⟩ := hsl
      exact sg_plain rfl rfl (or_move (s_0.trans e15_0))
    refine steps_cons (fun own a wx hf hsl hE => ?_) ?_
    · obtain ⟨(f_8 : a.eval (.tmp 8) = .pointer none), -⟩ := hf
      exact sg_plain rfl rfl (or_k [(8, .pointer none)] rfl rfl ⟨f_8, trivial⟩ (by kernel_rfl))
    exact steps_nil
  intro own17 a17 w17 hd17 hz17 hk17 hf17 hE17
  have e17_0 : a17.eval (.tmp 0) = .pointer none := (hk17 0 rfl).trans e15_0
  obtain ⟨(f_9 : a17.eval (.tmp 9) = .bool true), -⟩ := hf17 [1] rfl
  have e17_9 := f_9
  have hX17 := Evo.step hX15 (fun _ => Nat.le_refl 0) hE17 rfl
  refine fl_t e17_9 ?_
  refine rg_plain_seq (n := 40) (rs := []) (own0 := own17) (K := [])
      (bs := [0])
      (ds := [⟨[], [], [], Fct.val 2 (.slice none 0 0)⟩]) (by kernel_rfl) hz17 hd17 (fun _ h => nomatch h) ?_ ?_
  · refine steps_cons (fun own a wx hf hsl hE => ?_) ?_
    · exact sg_plain rfl rfl (or_assign rfl)
    exact steps_nil
  intro own18 a18 w18 hd18 hz18 hk18 hf18 hE18
  obtain ⟨(f_2 : a18.eval (.tmp 2) = .slice none 0 0), -⟩ := hf18 [0] rfl
  have e18_2 := f_2
  have hX18 := Evo.step hX17 (fun _ => Nat.le_refl 0) hE18 rfl
  refine fl_ret ?_
  refine hp16 _ _ _ rfl ?_
  obtain rfl := osome hs
  exact hret _ _ _ _ (.inl rfl) hd18 (results1_ rfl (RVal.tmp_ e18_2)) ⟨own18, (none, 0), rfl, hX18, RwO.nil_⟩

theorem law06_RowsNil_w (w : World) (b1 : (Int × Int) × (Int × Int)) (p2 : Int × Int) (n3 : Int) (r : Bool) (hs : law06_RowsNil b1 p2 n3 = some r) :
    Calls Try.prog 5 #[.agg #[.int .i64 b1.1.1, .int .i64 b1.1.2, .int .i64 b1.2.1, .int .i64 b1.2.2], .agg #[.int .i64 p2.1, .int .i64 p2.2], .int .i64 n3] w fun e w' => ∃ own' : Own, e = .returned (.bool r) ∧ Evo [] (fun _ => 0) own' w w' := by
  refine fl_enter (n := 58) rfl rfl rfl (Nat.le_of_ble_eq_true rfl) ?_
  intro a0 Q hd0 hz0 harg hret
  have ha0 := harg 0 _ rfl
  have ha1 := harg 1 _ rfl
  have ha2 := harg 2 _ rfl
  clear harg
  have hE0 : Evo [] (fun _ => 0) (fun _ => 0) w w := Evo.refl _ _ _
  refine rg_plain_seq (n := 58) (rs := []) (own0 := (fun _ => 0)) (K := [])
      (bs := [0, 0, 0])
      (ds := [⟨[], [0], [], Fct.blk 39 3 (fun g => .pointer (some ⟨g, 0, none⟩)) 26 #[.int .i64 b1.1.1, .int .i64 b1.1.2, .int .i64 b1.2.1, .int .i64 b1.2.2]⟩,
      ⟨[], [1], [], Fct.blk 41 4 (fun g => .pointer (some ⟨g, 0, none⟩)) 24 #[.int .i64 p2.1, .int .i64 p2.2]⟩,
      ⟨[], [], [], Fct.val 6 (.bool false)⟩]) (by kernel_rfl) hz0 hd0 (fun _ h => nomatch h) ?_ ?_
  · refine steps_cons (fun own a wx hf hsl hE => ?_) ?_
    · obtain ⟨s_0, -⟩ := hsl
      exact sg_plain rfl rfl (or_new [(0, .agg #[.int .i64 b1.1.1, .int .i64 b1.1.2, .int .i64 b1.2.1, .int .i64 b1.2.2])] rfl rfl ⟨(s_0.trans ha0), trivial⟩ (by kernel_rfl))
    refine steps_cons (fun own a wx hf hsl hE => ?_) ?_
    · obtain ⟨s_1, -⟩ := hsl
      exact sg_plain rfl rfl (or_new [(1, .agg #[.int .i64 p2.1, .int .i64 p2.2])] rfl rfl ⟨(s_1.trans ha1), trivial⟩ (by kernel_rfl))
    refine steps_cons (fun own a wx hf hsl hE => ?_) ?_
    · exact sg_plain rfl rfl (or_assign rfl)
    exact steps_nil
  intro own42 a42 w42 hd42 hz42 hk42 hf42 hE42
  have e42_2 : a42.eval (.tmp 2) = .int .i64 n3 := (hk42 2 rfl).trans ha2
  obtain ⟨⟨g38, (f_3 : a42.eval (.tmp 3) = .pointer (some ⟨g38, 0, none⟩)), (b_g38 : BlkO own42 39 w42 g38 26 #[.int .i64 b1.1.1, .int .i64 b1.1.2, .int .i64 b1.2.1, .int .i64 b1.2.2])⟩, ⟨g40, (f_4 : a42.eval (.tmp 4) = .pointer (some ⟨g40, 0, none⟩)), (b_g40 : BlkO own42 41 w42 g40 24 #[.int .i64 p2.1, .int .i64 p2.2])⟩, -⟩ := hf42 [0, 1] rfl
  have e42_3 := f_3
  have e42_4 := f_4
  have hX42 := Evo.step hE0 (fun _ => Nat.le_refl 0) hE42 rfl
  have b42_g38 := b_g38
  have b42_g40 := b_g40
  refine rg_plain_seq (n := 58) (rs := []) (own0 := own42) (K := [])
      (bs := [0])
      (ds := [⟨[], [], [], Fct.val 7 (.pointer none)⟩]) (by kernel_rfl) hz42 hd42 (fun _ h => nomatch h) ?_ ?_
  · refine steps_cons (fun own a wx hf hsl hE => ?_) ?_
    · exact sg_plain rfl rfl (or_assign rfl)
    exact steps_nil
  intro own43 a43 w43 hd43 hz43 hk43 hf43 hE43
  have e43_2 : a43.eval (.tmp 2) = .int .i64 n3 := (hk43 2 rfl).trans e42_2
  have e43_3 : a43.eval (.tmp 3) = .pointer (some ⟨g38, 0, none⟩) := (hk43 3 rfl).trans e42_3
  have e43_4 : a43.eval (.tmp 4) = .pointer (some ⟨g40, 0, none⟩) := (hk43 4 rfl).trans e42_4
  obtain ⟨(f_7 : a43.eval (.tmp 7) = .pointer none), -⟩ := hf43 [0] rfl
  have e43_7 := f_7
  have hX43 := Evo.step hX42 (fun _ => Nat.le_refl 0) hE43 rfl
  have b43_g38 := BlkO.evo (by decide) hE43 b42_g38
  have b43_g40 := BlkO.evo (by decide) hE43 b42_g40
  obtain ⟨r44, hr44, hs⟩ := obind hs
  refine rg_plain_seq (n := 58) (rs := []) (own0 := own43) (K := [46])
      (bs := [0, 0, 3, 7, 15, 15, 0, 95, 255])
      (ds := [⟨[], [7], [], Fct.val 11 (.pointer none)⟩,
      ⟨[], [2], [], Fct.val 12 (.int .i64 n3)⟩,
      ⟨[0, 1], [], [], Fct.val 13 (.tuple #[.agg #[.int .i64 r44.1.1.1, .int .i64 r44.1.1.2, .int .i64 r44.1.2.1, .int .i64 r44.1.2.2], .bool r44.2])⟩,
      ⟨[2], [], [], Fct.val 10 (.tuple #[.agg #[.int .i64 r44.1.1.1, .int .i64 r44.1.1.2, .int .i64 r44.1.2.1, .int .i64 r44.1.2.2], .bool r44.2])⟩,
      ⟨[3], [], [], Fct.val 14 (.agg #[.int .i64 r44.1.1.1, .int .i64 r44.1.1.2, .int .i64 r44.1.2.1, .int .i64 r44.1.2.2])⟩,
      ⟨[3], [], [], Fct.val 15 (.bool r44.2)⟩,
      ⟨[], [], [], Fct.blk 46 8 (fun g => .pointer (some ⟨g, 0, none⟩)) 26 #[.int .i64 0, .int .i64 0, .int .i64 0, .int .i64 0]⟩,
      ⟨[6, 4], [], [46], Fct.blk 47 8 (fun g => .pointer (some ⟨g, 0, none⟩)) 26 #[.int .i64 r44.1.1.1, .int .i64 r44.1.1.2, .int .i64 r44.1.2.1, .int .i64 r44.1.2.2]⟩,
      ⟨[5], [], [], Fct.val 9 (.bool r44.2)⟩]) (by kernel_rfl) hz43 hd43 (fun _ h => nomatch h) ?_ ?_
  · refine steps_cons (fun own a wx hf hsl hE => ?_) ?_
    · obtain ⟨s_7, -⟩ := hsl
      exact sg_plain rfl rfl (or_move (s_7.trans e43_7))
    refine steps_cons (fun own a wx hf hsl hE => ?_) ?_
    · obtain ⟨s_2, -⟩ := hsl
      exact sg_plain rfl rfl (or_move (s_2.trans e43_2))
    refine steps_cons (fun own a wx hf hsl hE => ?_) ?_
    · obtain ⟨(f_11 : a.eval (.tmp 11) = .pointer none), (f_12 : a.eval (.tmp 12) = .int .i64 n3), -⟩ := hf
      exact sg_plain rfl rfl (or_call cf19 (args2 f_11 f_12) (rows_Index_Box_nil_w _ n3  r44 hr44) post_val)
    refine steps_cons (fun own a wx hf hsl hE => ?_) ?_
    · obtain ⟨(f_13 : a.eval (.tmp 13) = .tuple #[.agg #[.int .i64 r44.1.1.1, .int .i64 r44.1.1.2, .int .i64 r44.1.2.1, .int .i64 r44.1.2.2], .bool r44.2]), -⟩ := hf
      exact sg_plain rfl rfl (or_move f_13)
    refine steps_cons (fun own a wx hf hsl hE => ?_) ?_
    · obtain ⟨(f_10 : a.eval (.tmp 10) = .tuple #[.agg #[.int .i64 r44.1.1.1, .int .i64 r44.1.1.2, .int .i64 r44.1.2.1, .int .i64 r44.1.2.2], .bool r44.2]), -⟩ := hf
      exact sg_plain rfl rfl (or_k [(10, .tuple #[.agg #[.int .i64 r44.1.1.1, .int .i64 r44.1.1.2, .int .i64 r44.1.2.1, .int .i64 r44.1.2.2], .bool r44.2])] rfl rfl ⟨f_10, trivial⟩ (by kernel_rfl))
    refine steps_cons (fun own a wx hf hsl hE => ?_) ?_
    · obtain ⟨(f_10 : a.eval (.tmp 10) = .tuple #[.agg #[.int .i64 r44.1.1.1, .int .i64 r44.1.1.2, .int .i64 r44.1.2.1, .int .i64 r44.1.2.2], .bool r44.2]), -⟩ := hf
      exact sg_plain rfl rfl (or_k [(10, .tuple #[.agg #[.int .i64 r44.1.1.1, .int .i64 r44.1.1.2, .int .i64 r44.1.2.1, .int .i64 r44.1.2.2], .bool r44.2])] rfl rfl ⟨f_10, trivial⟩ (by kernel_rfl))
    refine steps_cons (fun own a wx hf hsl hE => ?_) ?_
    · exact sg_plain rfl rfl (or_new [] rfl rfl trivial (by kernel_rfl))
    refine steps_cons (fun own a wx hf hsl hE => ?_) ?_
    · obtain ⟨⟨g45, (f_8 : a.eval (.tmp 8) = .pointer (some ⟨g45, 0, none⟩)), (b_g45 : BlkO own 46 wx g45 26 #[.int .i64 0, .int .i64 0, .int .i64 0, .int .i64 0])⟩, (f_14 : a.eval (.tmp 14) = .agg #[.int .i64 r44.1.1.1, .int .i64 r44.1.1.2, .int .i64 r44.1.2.1, .int .i64 r44.1.2.2]), -⟩ := hf
      exact sg_plain rfl rfl (or_store (l := #[.int .i64 r44.1.1.1, .int .i64 r44.1.1.2, .int .i64 r44.1.2.1, .int .i64 r44.1.2.2]) (lab := 46) (lab2 := 47) ts26 f_8 f_14 b_g45 (by simp) (by kernel_rfl) (mem_of rfl) (by decide) (by kernel_rfl) (fun own' a' w' ha hb => ⟨_, (ha 8).trans f_8, hb⟩))
    refine steps_cons (fun own a wx hf hsl hE => ?_) ?_
    · obtain ⟨(f_15 : a.eval (.tmp 15) = .bool r44.2), -⟩ := hf
      exact sg_plain rfl rfl (or_assign f_15)
    exact steps_nil
  intro own48 a48 w48 hd48 hz48 hk48 hf48 hE48
  have e48_3 : a48.eval (.tmp 3) = .pointer (some ⟨g38, 0, none⟩) := (hk48 3 rfl).trans e43_3
  have e48_4 : a48.eval (.tmp 4) = .pointer (some ⟨g40, 0, none⟩) := (hk48 4 rfl).trans e43_4
  have e48_7 : a48.eval (.tmp 7) = .pointer none := (hk48 7 rfl).trans e43_7
  obtain ⟨⟨g45, (f_8 : a48.eval (.tmp 8) = .pointer (some ⟨g45, 0, none⟩)), (b_g45 : BlkO own48 47 w48 g45 26 #[.int .i64 r44.1.1.1, .int .i64 r44.1.1.2, .int .i64 r44.1.2.1, .int .i64 r44.1.2.2])⟩, (f_9 : a48.eval (.tmp 9) = .bool r44.2), -⟩ := hf48 [7, 8] rfl
  have e48_8 := f_8
  have e48_9 := f_9
  have hX48 := Evo.step hX43 (fun _ => Nat.le_refl 0) hE48 rfl
  have b48_g38 := BlkO.evo (by decide) hE48 b43_g38
  have b48_g40 := BlkO.evo (by decide) hE48 b43_g40
  have b48_g45 := b_g45
  obtain ⟨r49, hr49, hs⟩ := obind hs
  obtain ⟨r52, hr52, hs⟩ := obind hs
  obtain ⟨x55, hx55, hs⟩ := obind hs
  obtain ⟨r56, hr56, hs⟩ := obind hs
  obtain ⟨x59, hx59, hs⟩ := obind hs
  obtain ⟨x62, hx62, hs⟩ := obind hs
  obtain ⟨x63, hx63, hs⟩ := obind hs
  refine rg_plain_seq (n := 58) (rs := []) (own0 := own48) (K := [])
      (bs := [0, 1, 3, 3, 11, 31, 63, 127, 255, 511, 511, 2047, 4095, 8191, 16383, 32767, 65535, 65535, 262143, 524287, 1048575, 2097151, 4194303, 8388607, 16777215, 33554431, 67108863, 134217727, 268435455, 536870911, 536870911, 2147483647, 4294967295, 8589934591, 17179869183, 34359738367, 68719476735, 137438953471, 274877906943, 549755813887, 1099511627775, 2199023255551, 4398046511103])
      (ds := [⟨[], [], [], Fct.val 16 (.bool r49)⟩,
      ⟨[0], [], [], Fct.val 17 (.bool r49)⟩,
      ⟨[1], [7], [], Fct.cond r49 (some 18) (Fct.val 18 (.pointer none))⟩,
      ⟨[1], [3], [], Fct.cond r49 (some 19) (Fct.val 19 (.agg #[.int .i64 b1.1.1, .int .i64 b1.1.2, .int .i64 b1.2.1, .int .i64 b1.2.2]))⟩,
      ⟨[1, 3], [], [], Fct.cond r49 (some 20) (Fct.row 51 [] 20 26 R26 [b1])⟩,
      ⟨[1, 2, 4], [], [], Fct.cond r49 (some 21) (Fct.val 21 (.int .i64 0))⟩,
      ⟨[1, 5], [], [], Fct.cond r49 (some 22) (Fct.val 22 (.bool true))⟩,
      ⟨[1, 6], [], [], Fct.val 23 (.bool (r49 && true))⟩,
      ⟨[7], [], [], Fct.val 24 (.bool (r49 && true))⟩,
      ⟨[8], [7], [], Fct.cond (r49 && true) (some 25) (Fct.val 25 (.pointer none))⟩,
      ⟨[8], [3], [], Fct.cond (r49 && true) (some 26) (Fct.val 26 (.agg #[.int .i64 b1.1.1, .int .i64 b1.1.2, .int .i64 b1.2.1, .int .i64 b1.2.2]))⟩,
      ⟨[8, 9, 10], [], [], Fct.cond (r49 && true) (some 27) (Fct.row 54 [] 27 3 R3 r52)⟩,
      ⟨[8, 11], [], [], Fct.cond (r49 && true) (some 28) (Fct.val 28 (.int .i64 (r52.length : Int)))⟩,
      ⟨[8, 12], [], [], Fct.cond (r49 && true) (some 29) (Fct.val 29 (.bool (decide ((r52.length : Int) = 0))))⟩,
      ⟨[8, 13], [], [], Fct.val 30 (.bool x55)⟩,
      ⟨[14], [], [], Fct.val 31 (.bool x55)⟩,
      ⟨[15], [7], [], Fct.cond x55 (some 32) (Fct.val 32 (.pointer none))⟩,
      ⟨[15], [4], [], Fct.cond x55 (some 33) (Fct.val 33 (.agg #[.int .i64 p2.1, .int .i64 p2.2]))⟩,
      ⟨[15, 16, 17], [], [], Fct.cond x55 (some 34) (Fct.row 58 [] 34 3 R3 r56)⟩,
      ⟨[15, 18], [], [], Fct.cond x55 (some 35) (Fct.val 35 (.int .i64 (r56.length : Int)))⟩,
      ⟨[15, 19], [], [], Fct.cond x55 (some 36) (Fct.val 36 (.bool (decide ((r56.length : Int) = 0))))⟩,
      ⟨[15, 20], [], [], Fct.val 37 (.bool x59)⟩,
      ⟨[21], [], [], Fct.val 38 (.bool x59)⟩,
      ⟨[22], [7], [], Fct.cond x59 (some 39) (Fct.val 39 (.pointer none))⟩,
      ⟨[22, 23], [], [], Fct.cond x59 (some 40) (Fct.row 61 [] 40 35 R35 ([] : List (Int × Int)))⟩,
      ⟨[22, 24], [], [], Fct.cond x59 (some 41) (Fct.val 41 (.int .i64 (([] : List (Int × Int)).length : Int)))⟩,
      ⟨[22, 25], [], [], Fct.cond x59 (some 42) (Fct.val 42 (.bool (decide ((([] : List (Int × Int)).length : Int) = 0))))⟩,
      ⟨[22, 26], [], [], Fct.val 43 (.bool x62)⟩,
      ⟨[27], [], [], Fct.val 44 (.bool x62)⟩,
      ⟨[28], [8], [], Fct.cond x62 (some 45) (Fct.val 45 (.agg #[.int .i64 r44.1.1.1, .int .i64 r44.1.1.2, .int .i64 r44.1.2.1, .int .i64 r44.1.2.2]))⟩,
      ⟨[28], [], [], Fct.cond x62 (some 46) (Fct.val 46 (.agg #[.int .i64 0, .int .i64 0, .int .i64 0, .int .i64 0]))⟩,
      ⟨[28, 29, 30], [], [], Fct.cond x62 (some 47) (Fct.val 47 (.bool (decide (r44.1 = ((0, 0), (0, 0))))))⟩,
      ⟨[28, 31], [], [], Fct.val 48 (.bool x63)⟩,
      ⟨[32], [], [], Fct.val 49 (.bool x63)⟩,
      ⟨[33], [9], [], Fct.cond x63 (some 50) (Fct.val 50 (.bool r44.2))⟩,
      ⟨[33, 34], [], [], Fct.cond x63 (some 51) (Fct.val 51 (.bool (!r44.2)))⟩,
      ⟨[33, 35], [], [], Fct.val 52 (.bool (x63 && (!r44.2)))⟩,
      ⟨[36], [], [], Fct.val 53 (.bool (x63 && (!r44.2)))⟩,
      ⟨[37], [7], [], Fct.cond (x63 && (!r44.2)) (some 54) (Fct.val 54 (.pointer none))⟩,
      ⟨[37, 38], [], [], Fct.cond (x63 && (!r44.2)) (some 55) (Fct.val 55 (.int .i64 0))⟩,
      ⟨[37, 39], [], [], Fct.cond (x63 && (!r44.2)) (some 56) (Fct.val 56 (.bool true))⟩,
      ⟨[37, 40], [], [], Fct.val 57 (.bool ((x63 && (!r44.2)) && true))⟩,
      ⟨[41], [], [], Fct.val 6 (.bool ((x63 && (!r44.2)) && true))⟩]) (by kernel_rfl) hz48 hd48 (fun _ h => nomatch h) ?_ ?_
  · refine steps_cons (fun own a wx hf hsl hE => ?_) ?_
    · exact sg_plain rfl rfl (or_call cf14 (args0) (law06_known_w _   r49 hr49) post_val)
    refine steps_cons (fun own a wx hf hsl hE => ?_) ?_
    · obtain ⟨(f_16 : a.eval (.tmp 16) = .bool r49), -⟩ := hf
      exact sg_plain rfl rfl (or_move f_16)
    refine steps_cons (fun own a wx hf hsl hE => ?_) ?_
    · obtain ⟨(f_17 : a.eval (.tmp 17) = .bool r49), -⟩ := hf
      obtain ⟨s_7, -⟩ := hsl
      refine sg_t rfl rfl rfl f_17 (fun hg => ?_)
      exact or_move (s_7.trans e48_7)
    refine steps_cons (fun own a wx hf hsl hE => ?_) ?_
    · obtain ⟨(f_17 : a.eval (.tmp 17) = .bool r49), -⟩ := hf
      obtain ⟨s_3, -⟩ := hsl
      refine sg_t rfl rfl rfl f_17 (fun hg => ?_)
      exact or_load (l := [.int .i64 b1.1.1, .int .i64 b1.1.2, .int .i64 b1.2.1, .int .i64 b1.2.2]) ta26 (s_3.trans e48_3) (Blk.cellsFrom (BlkO.evo (by decide) hE b48_g38).2 0 rfl) rfl
    refine steps_cons (fun own a wx hf hsl hE => ?_) ?_
    · obtain ⟨(f_17 : a.eval (.tmp 17) = .bool r49), c_19, -⟩ := hf
      refine sg_t rfl rfl rfl f_17 (fun hg => ?_)
      have f_19 : a.eval (.tmp 19) = .agg #[.int .i64 b1.1.1, .int .i64 b1.1.2, .int .i64 b1.2.1, .int .i64 b1.2.2] := c_19.1 hg
      exact or_lit (lab := 51) (e := 26) (cs := #[.int .i64 b1.1.1, .int .i64 b1.1.2, .int .i64 b1.2.1, .int .i64 b1.2.2]) (F := E26) (or_new [(19, .agg #[.int .i64 b1.1.1, .int .i64 b1.1.2, .int .i64 b1.2.1, .int .i64 b1.2.2])] rfl rfl ⟨f_19, trivial⟩ (by kernel_rfl)) rfl rfl (show 1 ≤ maxLen by decide)
    refine steps_cons (fun own a wx hf hsl hE => ?_) ?_
    · obtain ⟨(f_17 : a.eval (.tmp 17) = .bool r49), c_18, c_20, -⟩ := hf
      refine sg_t rfl rfl rfl f_17 (fun hg => ?_)
      have f_18 : a.eval (.tmp 18) = .pointer none := c_18.1 hg
      obtain ⟨⟨A50, cA50⟩, (f_20 : a.eval (.tmp 20) = .slice A50 [b1].length cA50), (b_A50 : RwO own 51 [] wx 26 R26 A50 cA50 [b1])⟩ := c_20.1 hg
      exact or_call cf8 (args2 f_18 f_20) (rows_Index_Add_nil_w _ [b1] A50 cA50 (RdO.zero (RwO.rd b_A50)) 0 rfl) post_val
    refine steps_cons (fun own a wx hf hsl hE => ?_) ?_
    · obtain ⟨(f_17 : a.eval (.tmp 17) = .bool r49), c_21, -⟩ := hf
      refine sg_t rfl rfl rfl f_17 (fun hg => ?_)
      have f_21 : a.eval (.tmp 21) = .int .i64 0 := c_21.1 hg
      exact or_eql f_21 rfl (by decide)
    refine steps_cons (fun own a wx hf hsl hE => ?_) ?_
    · obtain ⟨(f_17 : a.eval (.tmp 17) = .bool r49), c_22, -⟩ := hf
      exact sg_plain rfl rfl (or_and f_17 (fun hx => c_22.1 hx) rfl rfl)
    refine steps_cons (fun own a wx hf hsl hE => ?_) ?_
    · obtain ⟨(f_23 : a.eval (.tmp 23) = .bool (r49 && true)), -⟩ := hf
      exact sg_plain rfl rfl (or_move f_23)
    refine steps_cons (fun own a wx hf hsl hE => ?_) ?_
    · obtain ⟨(f_24 : a.eval (.tmp 24) = .bool (r49 && true)), -⟩ := hf
      obtain ⟨s_7, -⟩ := hsl
      refine sg_t rfl rfl rfl f_24 (fun hg => ?_)
      exact or_move (s_7.trans e48_7)
    refine steps_cons (fun own a wx hf hsl hE => ?_) ?_
    · obtain ⟨(f_24 : a.eval (.tmp 24) = .bool (r49 && true)), -⟩ := hf
      obtain ⟨s_3, -⟩ := hsl
      refine sg_t rfl rfl rfl f_24 (fun hg => ?_)
      exact or_load (l := [.int .i64 b1.1.1, .int .i64 b1.1.2, .int .i64 b1.2.1, .int .i64 b1.2.2]) ta26 (s_3.trans e48_3) (Blk.cellsFrom (BlkO.evo (by decide) hE b48_g38).2 0 rfl) rfl
    refine steps_cons (fun own a wx hf hsl hE => ?_) ?_
    · obtain ⟨(f_24 : a.eval (.tmp 24) = .bool (r49 && true)), c_25, c_26, -⟩ := hf
      refine sg_t rfl rfl rfl f_24 (fun hg => ?_)
      have f_25 : a.eval (.tmp 25) = .pointer none := c_25.1 hg
      have f_26 : a.eval (.tmp 26) = .agg #[.int .i64 b1.1.1, .int .i64 b1.1.2, .int .i64 b1.2.1, .int .i64 b1.2.2] := c_26.1 hg
      exact or_call cf11 (args2 f_25 f_26) (rows_Index_Find_nil_w _ b1  r52 (gd_t hr52 hg)) (post_row (m' := (look0 [(1, 54)])) (.inl (Rep.fl_flat _)) rfl rfl (fun _ => rfl))
    refine steps_cons (fun own a wx hf hsl hE => ?_) ?_
    · obtain ⟨(f_24 : a.eval (.tmp 24) = .bool (r49 && true)), c_27, -⟩ := hf
      refine sg_t rfl rfl rfl f_24 (fun hg => ?_)
      obtain ⟨⟨A53, cA53⟩, (f_27 : a.eval (.tmp 27) = .slice A53 r52.length cA53), (b_A53 : RwO own 54 [] wx 3 R3 A53 cA53 r52)⟩ := c_27.1 hg
      exact or_len tu33 f_27 rfl
    refine steps_cons (fun own a wx hf hsl hE => ?_) ?_
    · obtain ⟨(f_24 : a.eval (.tmp 24) = .bool (r49 && true)), c_28, -⟩ := hf
      refine sg_t rfl rfl rfl f_24 (fun hg => ?_)
      have f_28 : a.eval (.tmp 28) = .int .i64 (r52.length : Int) := c_28.1 hg
      exact or_eql f_28 rfl rfl
    refine steps_cons (fun own a wx hf hsl hE => ?_) ?_
    · obtain ⟨(f_24 : a.eval (.tmp 24) = .bool (r49 && true)), c_29, -⟩ := hf
      exact sg_plain rfl rfl (or_and f_24 (fun hx => c_29.1 hx) rfl (osome hx55).symm)
    refine steps_cons (fun own a wx hf hsl hE => ?_) ?_
    · obtain ⟨(f_30 : a.eval (.tmp 30) = .bool x55), -⟩ := hf
      exact sg_plain rfl rfl (or_move f_30)
    refine steps_cons (fun own a wx hf hsl hE => ?_) ?_
    · obtain ⟨(f_31 : a.eval (.tmp 31) = .bool x55), -⟩ := hf
      obtain ⟨s_7, -⟩ := hsl
      refine sg_t rfl rfl rfl f_31 (fun hg => ?_)
      exact or_move (s_7.trans e48_7)
    refine steps_cons (fun own a wx hf hsl hE => ?_) ?_
    · obtain ⟨(f_31 : a.eval (.tmp 31) = .bool x55), -⟩ := hf
      obtain ⟨s_4, -⟩ := hsl
      refine sg_t rfl rfl rfl f_31 (fun hg => ?_)
      exact or_load (l := [.int .i64 p2.1, .int .i64 p2.2]) ta24 (s_4.trans e48_4) (Blk.cellsFrom (BlkO.evo (by decide) hE b48_g40).2 0 rfl) rfl
    refine steps_cons (fun own a wx hf hsl hE => ?_) ?_
    · obtain ⟨(f_31 : a.eval (.tmp 31) = .bool x55), c_32, c_33, -⟩ := hf
      refine sg_t rfl rfl rfl f_31 (fun hg => ?_)
      have f_32 : a.eval (.tmp 32) = .pointer none := c_32.1 hg
      have f_33 : a.eval (.tmp 33) = .agg #[.int .i64 p2.1, .int .i64 p2.2] := c_33.1 hg
      exact or_call cf20 (args2 f_32 f_33) (rows_Index_At_nil_w _ p2  r56 (gd_t hr56 hg)) (post_row (m' := (look0 [(1, 58)])) (.inl (Rep.fl_flat _)) rfl rfl (fun _ => rfl))
    refine steps_cons (fun own a wx hf hsl hE => ?_) ?_
    · obtain ⟨(f_31 : a.eval (.tmp 31) = .bool x55), c_34, -⟩ := hf
      refine sg_t rfl rfl rfl f_31 (fun hg => ?_)
      obtain ⟨⟨A57, cA57⟩, (f_34 : a.eval (.tmp 34) = .slice A57 r56.length cA57), (b_A57 : RwO own 58 [] wx 3 R3 A57 cA57 r56)⟩ := c_34.1 hg
      exact or_len tu33 f_34 rfl
    refine steps_cons (fun own a wx hf hsl hE => ?_) ?_
    · obtain ⟨(f_31 : a.eval (.tmp 31) = .bool x55), c_35, -⟩ := hf
      refine sg_t rfl rfl rfl f_31 (fun hg => ?_)
      have f_35 : a.eval (.tmp 35) = .int .i64 (r56.length : Int) := c_35.1 hg
      exact or_eql f_35 rfl rfl
    refine steps_cons (fun own a wx hf hsl hE => ?_) ?_
    · obtain ⟨(f_31 : a.eval (.tmp 31) = .bool x55), c_36, -⟩ := hf
      exact sg_plain rfl rfl (or_and f_31 (fun hx => c_36.1 hx) rfl (osome hx59).symm)
    refine steps_cons (fun own a wx hf hsl hE => ?_) ?_
    · obtain ⟨(f_37 : a.eval (.tmp 37) = .bool x59), -⟩ := hf
      exact sg_plain rfl rfl (or_move f_37)
    refine steps_cons (fun own a wx hf hsl hE => ?_) ?_
    · obtain ⟨(f_38 : a.eval (.tmp 38) = .bool x59), -⟩ := hf
      obtain ⟨s_7, -⟩ := hsl
      refine sg_t rfl rfl rfl f_38 (fun hg => ?_)
      exact or_move (s_7.trans e48_7)
    refine steps_cons (fun own a wx hf hsl hE => ?_) ?_
    · obtain ⟨(f_38 : a.eval (.tmp 38) = .bool x59), c_39, -⟩ := hf
      refine sg_t rfl rfl rfl f_38 (fun hg => ?_)
      have f_39 : a.eval (.tmp 39) = .pointer none := c_39.1 hg
      exact or_call cf9 (args1 f_39) (rows_Index_Pairs_nil_w _   ([] : List (Int × Int)) rfl) (post_row (m' := (look0 [(1, 61)])) (.inl (Rep.fl_flat _)) rfl rfl (fun _ => rfl))
    refine steps_cons (fun own a wx hf hsl hE => ?_) ?_
    · obtain ⟨(f_38 : a.eval (.tmp 38) = .bool x59), c_40, -⟩ := hf
      refine sg_t rfl rfl rfl f_38 (fun hg => ?_)
      obtain ⟨⟨A60, cA60⟩, (f_40 : a.eval (.tmp 40) = .slice A60 ([] : List (Int × Int)).length cA60), (b_A60 : RwO own 61 [] wx 35 R35 A60 cA60 ([] : List (Int × Int)))⟩ := c_40.1 hg
      exact or_len tu30 f_40 rfl
    refine steps_cons (fun own a wx hf hsl hE => ?_) ?_
    · obtain ⟨(f_38 : a.eval (.tmp 38) = .bool x59), c_41, -⟩ := hf
      refine sg_t rfl rfl rfl f_38 (fun hg => ?_)
      have f_41 : a.eval (.tmp 41) = .int .i64 (([] : List (Int × Int)).length : Int) := c_41.1 hg
      exact or_eql f_41 rfl rfl
    refine steps_cons (fun own a wx hf hsl hE => ?_) ?_
    · obtain ⟨(f_38 : a.eval (.tmp 38) = .bool x59), c_42, -⟩ := hf
      exact sg_plain rfl rfl (or_and f_38 (fun hx => c_42.1 hx) rfl (osome hx62).symm)
    refine steps_cons (fun own a wx hf hsl hE => ?_) ?_
    · obtain ⟨(f_43 : a.eval (.tmp 43) = .bool x62), -⟩ := hf
      exact sg_plain rfl rfl (or_move f_43)
    refine steps_cons (fun own a wx hf hsl hE => ?_) ?_
    · obtain ⟨(f_44 : a.eval (.tmp 44) = .bool x62), -⟩ := hf
      obtain ⟨s_8, -⟩ := hsl
      refine sg_t rfl rfl rfl f_44 (fun hg => ?_)
      exact or_load (l := [.int .i64 r44.1.1.1, .int .i64 r44.1.1.2, .int .i64 r44.1.2.1, .int .i64 r44.1.2.2]) ta26 (s_8.trans e48_8) (Blk.cellsFrom (BlkO.evo (by decide) hE b48_g45).2 0 rfl) rfl
    refine steps_cons (fun own a wx hf hsl hE => ?_) ?_
    · obtain ⟨(f_44 : a.eval (.tmp 44) = .bool x62), -⟩ := hf
      refine sg_t rfl rfl rfl f_44 (fun hg => ?_)
      exact or_k [] rfl rfl trivial (by kernel_rfl)
    refine steps_cons (fun own a wx hf hsl hE => ?_) ?_
    · obtain ⟨(f_44 : a.eval (.tmp 44) = .bool x62), c_45, c_46, -⟩ := hf
      refine sg_t rfl rfl rfl f_44 (fun hg => ?_)
      have f_45 : a.eval (.tmp 45) = .agg #[.int .i64 r44.1.1.1, .int .i64 r44.1.1.2, .int .i64 r44.1.2.1, .int .i64 r44.1.2.2] := c_45.1 hg
      have f_46 : a.eval (.tmp 46) = .agg #[.int .i64 0, .int .i64 0, .int .i64 0, .int .i64 0] := c_46.1 hg
      exact or_eqlA sg26 f_45 f_46 (se26 r44.1.1.1 r44.1.1.2 r44.1.2.1 r44.1.2.2 0 0 0 0 _) rfl
    refine steps_cons (fun own a wx hf hsl hE => ?_) ?_
    · obtain ⟨(f_44 : a.eval (.tmp 44) = .bool x62), c_47, -⟩ := hf
      exact sg_plain rfl rfl (or_and f_44 (fun hx => c_47.1 hx) rfl (osome hx63).symm)
    refine steps_cons (fun own a wx hf hsl hE => ?_) ?_
    · obtain ⟨(f_48 : a.eval (.tmp 48) = .bool x63), -⟩ := hf
      exact sg_plain rfl rfl (or_move f_48)
    refine steps_cons (fun own a wx hf hsl hE => ?_) ?_
    · obtain ⟨(f_49 : a.eval (.tmp 49) = .bool x63), -⟩ := hf
      obtain ⟨s_9, -⟩ := hsl
      refine sg_t rfl rfl rfl f_49 (fun hg => ?_)
      exact or_move (s_9.trans e48_9)
    refine steps_cons (fun own a wx hf hsl hE => ?_) ?_
    · obtain ⟨(f_49 : a.eval (.tmp 49) = .bool x63), c_50, -⟩ := hf
      refine sg_t rfl rfl rfl f_49 (fun hg => ?_)
      have f_50 : a.eval (.tmp 50) = .bool r44.2 := c_50.1 hg
      exact or_not f_50 rfl
    refine steps_cons (fun own a wx hf hsl hE => ?_) ?_
    · obtain ⟨(f_49 : a.eval (.tmp 49) = .bool x63), c_51, -⟩ := hf
      exact sg_plain rfl rfl (or_and f_49 (fun hx => c_51.1 hx) rfl rfl)
    refine steps_cons (fun own a wx hf hsl hE => ?_) ?_
    · obtain ⟨(f_52 : a.eval (.tmp 52) = .bool (x63 && (!r44.2))), -⟩ := hf
      exact sg_plain rfl rfl (or_move f_52)
    refine steps_cons (fun own a wx hf hsl hE => ?_) ?_
    · obtain ⟨(f_53 : a.eval (.tmp 53) = .bool (x63 && (!r44.2))), -⟩ := hf
      obtain ⟨s_7, -⟩ := hsl
      refine sg_t rfl rfl rfl f_53 (fun hg => ?_)
      exact or_move (s_7.trans e48_7)
    refine steps_cons (fun own a wx hf hsl hE => ?_) ?_
    · obtain ⟨(f_53 : a.eval (.tmp 53) = .bool (x63 && (!r44.2))), c_54, -⟩ := hf
      refine sg_t rfl rfl rfl f_53 (fun hg => ?_)
      have f_54 : a.eval (.tmp 54) = .pointer none := c_54.1 hg
      exact or_call cf15 (args1 f_54) (rows_Index_Len_nil_w _   0 rfl) post_val
    refine steps_cons (fun own a wx hf hsl hE => ?_) ?_
    · obtain ⟨(f_53 : a.eval (.tmp 53) = .bool (x63 && (!r44.2))), c_55, -⟩ := hf
      refine sg_t rfl rfl rfl f_53 (fun hg => ?_)
      have f_55 : a.eval (.tmp 55) = .int .i64 0 := c_55.1 hg
      exact or_eql f_55 rfl (by decide)
    refine steps_cons (fun own a wx hf hsl hE => ?_) ?_
    · obtain ⟨(f_53 : a.eval (.tmp 53) = .bool (x63 && (!r44.2))), c_56, -⟩ := hf
      exact sg_plain rfl rfl (or_and f_53 (fun hx => c_56.1 hx) rfl rfl)
    refine steps_cons (fun own a wx hf hsl hE => ?_) ?_
    · obtain ⟨(f_57 : a.eval (.tmp 57) = .bool ((x63 && (!r44.2)) && true)), -⟩ := hf
      exact sg_plain rfl rfl (or_assign f_57)
    exact steps_nil
  intro own64 a64 w64 hd64 hz64 hk64 hf64 hE64
  obtain ⟨(f_6 : a64.eval (.tmp 6) = .bool ((x63 && (!r44.2)) && true)), -⟩ := hf64 [42] rfl
  have e64_6 := f_6
  have hX64 := Evo.step hX48 (fun _ => Nat.le_refl 0) hE64 rfl
  refine fl_ret ?_
  obtain rfl := osome hs
  exact hret _ _ _ _ (.inl rfl) hd64 (results1_ rfl (RVal.tmp_ e64_6)) ⟨own64, rfl, hX64⟩

end Go.Proofs.Ytajbjhcnppiloaa
