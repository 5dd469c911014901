/-
  Chapter 04. The walks.
-/
import Derived.Test.YthbjlgklmamhjaaWp1
import Derived.Test.YthbjlgklmamhjaaSp2
namespace Go.Proofs.Ythbjlgklmamhjaa
open Go.RowKit
set_option linter.unusedVariables false
theorem order_Compare_w (w : World) (x1 : List Int) (Ax1 : Option Addr) (cx1 : Nat) (b2 : List Int) (Ab2 : Option Addr) (cb2 : Nat) (hx1 : RdO (fun _ => 0) [0] w R3 Ax1 cx1 x1) (hb2 : RdO (fun _ => 0) [0] w R3 Ab2 cb2 b2) (r : Int) (hs : order_Compare x1 b2 = some r) :
    Calls Try.prog 16 #[.slice Ax1 x1.length cx1, .slice Ab2 b2.length cb2] w fun e w' => ∃ own' : Own, e = .returned (.int .i64 r) ∧ Evo [] (fun _ => 0) own' w w' := by
  refine fl_enter (n := 8) rfl rfl rfl (Nat.le_of_ble_eq_true rfl) ?_
  intro a0 Q hd0 hz0 harg hret
  have ha0 := harg 0 _ rfl
  have ha1 := harg 1 _ rfl
  clear harg
  have hE0 : Evo [] (fun _ => 0) (fun _ => 0) w w := Evo.refl _ _ _
  refine rg_plain_seq (n := 8) (rs := []) (own0 := (fun _ => 0)) (K := [])
      (bs := [0])
      (ds := [⟨[], [], [], Fct.val 4 (.int .i64 0)⟩]) (by kernel_rfl) hz0 hd0 (fun _ h => nomatch h) ?_ ?_
  · refine steps_cons (fun own a wx hf hsl hE => ?_) ?_
    · exact sg_plain rfl rfl (or_assign rfl)
    exact steps_nil
  intro own14 a14 w14 hd14 hz14 hk14 hf14 hE14
  have e14_0 : a14.eval (.tmp 0) = .slice Ax1 x1.length cx1 := (hk14 0 rfl).trans ha0
  have e14_1 : a14.eval (.tmp 1) = .slice Ab2 b2.length cb2 := (hk14 1 rfl).trans ha1
  have hX14 := Evo.step hE0 (fun _ => Nat.le_refl 0) hE14 rfl
  have b14_Ax1 := RdO.evo rfl hE14 hx1
  have b14_Ab2 := RdO.evo rfl hE14 hb2
  obtain ⟨r15, hr15, hs⟩ := obind hs
  refine rg_plain_seq (n := 8) (rs := []) (own0 := own14) (K := [])
      (bs := [0, 0, 3, 7])
      (ds := [⟨[], [0], [], Fct.val 5 (.slice Ax1 x1.length cx1)⟩,
      ⟨[], [1], [], Fct.val 6 (.slice Ab2 b2.length cb2)⟩,
      ⟨[0, 1], [], [], Fct.val 7 (.int .i64 r15)⟩,
      ⟨[2], [], [], Fct.val 4 (.int .i64 r15)⟩]) (by kernel_rfl) hz14 hd14 (fun _ h => nomatch h) ?_ ?_
  · refine steps_cons (fun own a wx hf hsl hE => ?_) ?_
    · obtain ⟨s_0, -⟩ := hsl
      exact sg_plain rfl rfl (or_move (s_0.trans e14_0))
    refine steps_cons (fun own a wx hf hsl hE => ?_) ?_
    · obtain ⟨s_1, -⟩ := hsl
      exact sg_plain rfl rfl (or_move (s_1.trans e14_1))
    refine steps_cons (fun own a wx hf hsl hE => ?_) ?_
    · obtain ⟨(f_5 : a.eval (.tmp 5) = .slice Ax1 x1.length cx1), (f_6 : a.eval (.tmp 6) = .slice Ab2 b2.length cb2), -⟩ := hf
      exact sg_plain rfl rfl (or_call cf28 (args2 f_5 f_6) (slices_Compare_int_int_w _ x1 Ax1 cx1 b2 Ab2 cb2 (RdO.zero (RdO.evo rfl hE b14_Ax1)) (RdO.zero (RdO.evo rfl hE b14_Ab2)) r15 hr15) post_val)
    refine steps_cons (fun own a wx hf hsl hE => ?_) ?_
    · obtain ⟨(f_7 : a.eval (.tmp 7) = .int .i64 r15), -⟩ := hf
      exact sg_plain rfl rfl (or_assign f_7)
    exact steps_nil
  intro own16 a16 w16 hd16 hz16 hk16 hf16 hE16
  obtain ⟨(f_4 : a16.eval (.tmp 4) = .int .i64 r15), -⟩ := hf16 [3] rfl
  have e16_4 := f_4
  have hX16 := Evo.step hX14 (fun _ => Nat.le_refl 0) hE16 rfl
  refine fl_ret ?_
  obtain rfl := (osome hs).symm
  exact hret _ _ _ _ (.inl rfl) hd16 (results1_ rfl (RVal.tmp_ e16_4)) ⟨own16, rfl, hX16⟩

theorem order_Rows_1_w (w : World) (x1 : Int) (y2 : Int) (f2 : List (List Int)) (gf2 : Nat) (tf2 : TypeId) (Af2_0 : Option Addr) (cf2_0 : Nat) (hgf2 : BlkO (fun _ => 0) 0 w gf2 tf2 #[.slice Af2_0 f2.length cf2_0]) (hAf2_0 : RdO (fun _ => 0) [0] w R22 Af2_0 cf2_0 f2) (r : Bool) (hs : order_Rows_1 x1 y2 f2 = some r) :
    Calls Try.prog 36 #[.int .i64 x1, .int .i64 y2, .pointer (some ⟨gf2, 0, none⟩)] w fun e w' => ∃ own' : Own, e = .returned (.bool r) ∧ Evo [] (fun _ => 0) own' w w' := by
  refine fl_enter (n := 16) rfl rfl rfl (Nat.le_of_ble_eq_true rfl) ?_
  intro a0 Q hd0 hz0 harg hret
  have ha0 := harg 0 _ rfl
  have ha1 := harg 1 _ rfl
  have ha2 := harg 2 _ rfl
  clear harg
  have hE0 : Evo [] (fun _ => 0) (fun _ => 0) w w := Evo.refl _ _ _
  refine rg_plain_seq (n := 16) (rs := []) (own0 := (fun _ => 0)) (K := [])
      (bs := [0])
      (ds := [⟨[], [], [], Fct.val 5 (.bool false)⟩]) (by kernel_rfl) hz0 hd0 (fun _ h => nomatch h) ?_ ?_
  · refine steps_cons (fun own a wx hf hsl hE => ?_) ?_
    · exact sg_plain rfl rfl (or_assign rfl)
    exact steps_nil
  intro own18 a18 w18 hd18 hz18 hk18 hf18 hE18
  have e18_0 : a18.eval (.tmp 0) = .int .i64 x1 := (hk18 0 rfl).trans ha0
  have e18_1 : a18.eval (.tmp 1) = .int .i64 y2 := (hk18 1 rfl).trans ha1
  have e18_2 : a18.eval (.tmp 2) = .pointer (some ⟨gf2, 0, none⟩) := (hk18 2 rfl).trans ha2
  have hX18 := Evo.step hE0 (fun _ => Nat.le_refl 0) hE18 rfl
  have b18_Af2_0 := RdO.evo rfl hE18 hAf2_0
  have b18_gf2 := BlkO.evo (by decide) hE18 hgf2
  obtain ⟨x19, hx19, hs⟩ := obind hs
  obtain ⟨x21, hx21, hs⟩ := obind hs
  obtain ⟨r23, hr23, hs⟩ := obind hs
  refine rg_draw_seq g_mixed (n := 16) (rs := []) (own0 := own18) (K := [])
      (bs := [0, 0, 3, 7, 0, 0, 48, 112, 255, 511, 1023])
      (ds := [⟨[], [2], [], Fct.val 6 (.slice Af2_0 f2.length cf2_0)⟩,
      ⟨[], [0], [], Fct.val 7 (.int .i64 x1)⟩,
      ⟨[0, 1], [], [], Fct.val 8 (.pointer (some ((adr Af2_0).add ((x1 : Int).toNat * R22.s))))⟩,
      ⟨[2], [], [], Fct.nest X22 [0] 9 (fun (y : (Option Addr × Nat)) => .slice y.1 x19.length y.2) x19⟩,
      ⟨[], [2], [], Fct.val 10 (.slice Af2_0 f2.length cf2_0)⟩,
      ⟨[], [1], [], Fct.val 11 (.int .i64 y2)⟩,
      ⟨[4, 5], [], [], Fct.val 12 (.pointer (some ((adr Af2_0).add ((y2 : Int).toNat * R22.s))))⟩,
      ⟨[6], [], [], Fct.nest X22 [0] 13 (fun (y : (Option Addr × Nat)) => .slice y.1 x21.length y.2) x21⟩,
      ⟨[3, 7], [], [], Fct.val 14 (.int .i64 r23)⟩,
      ⟨[8], [], [], Fct.val 15 (.bool (decide (r23 < 0)))⟩,
      ⟨[9], [], [], Fct.val 5 (.bool (decide (r23 < 0)))⟩]) (by kernel_rfl) hz18 hd18 (fun _ h => nomatch h) ?_ ?_
  · refine steps_cons (fun own a wx hf hsl hE => ?_) ?_
    · obtain ⟨s_2, -⟩ := hsl
      exact sg_plain rfl rfl (or_load1 to35 (s_2.trans e18_2) (Blk.at_ (BlkO.evo (by decide) hE b18_gf2).2 0 rfl))
    refine steps_cons (fun own a wx hf hsl hE => ?_) ?_
    · obtain ⟨s_0, -⟩ := hsl
      exact sg_plain rfl rfl (or_move (s_0.trans e18_0))
    refine steps_cons (fun own a wx hf hsl hE => ?_) ?_
    · obtain ⟨(f_6 : a.eval (.tmp 6) = .slice Af2_0 f2.length cf2_0), (f_7 : a.eval (.tmp 7) = .int .i64 x1), -⟩ := hf
      exact sg_plain rfl rfl (or_index (R := R22) (l := f2) tl35 f_6 f_7 (RdO.some_ b18_Af2_0 hx19) hx19)
    refine steps_cons (fun own a wx hf hsl hE => ?_) ?_
    · obtain ⟨(f_8 : a.eval (.tmp 8) = .pointer (some ((adr Af2_0).add ((x1 : Int).toNat * R22.s)))), -⟩ := hf
      exact sg_plain rfl rfl (or_loadN1 X22 0 to22 f_8 (Addr.add_zero' _).symm (RdO.evo rfl hE b18_Af2_0) hx19 (fun _ => rfl))
    refine steps_cons (fun own a wx hf hsl hE => ?_) ?_
    · obtain ⟨s_2, -⟩ := hsl
      exact sg_plain rfl rfl (or_load1 to35 (s_2.trans e18_2) (Blk.at_ (BlkO.evo (by decide) hE b18_gf2).2 0 rfl))
    refine steps_cons (fun own a wx hf hsl hE => ?_) ?_
    · obtain ⟨s_1, -⟩ := hsl
      exact sg_plain rfl rfl (or_move (s_1.trans e18_1))
    refine steps_cons (fun own a wx hf hsl hE => ?_) ?_
    · obtain ⟨(f_10 : a.eval (.tmp 10) = .slice Af2_0 f2.length cf2_0), (f_11 : a.eval (.tmp 11) = .int .i64 y2), -⟩ := hf
      exact sg_plain rfl rfl (or_index (R := R22) (l := f2) tl35 f_10 f_11 (RdO.some_ b18_Af2_0 hx21) hx21)
    refine steps_cons (fun own a wx hf hsl hE => ?_) ?_
    · obtain ⟨(f_12 : a.eval (.tmp 12) = .pointer (some ((adr Af2_0).add ((y2 : Int).toNat * R22.s)))), -⟩ := hf
      exact sg_plain rfl rfl (or_loadN1 X22 0 to22 f_12 (Addr.add_zero' _).symm (RdO.evo rfl hE b18_Af2_0) hx21 (fun _ => rfl))
    refine steps_cons (fun own a wx hf hsl hE => ?_) ?_
    · obtain ⟨⟨⟨A20, cA20⟩, (f_9 : a.eval (.tmp 9) = .slice A20 x19.length cA20), (b_A20 : RdO own [0] wx R3 A20 cA20 x19)⟩, ⟨⟨A22, cA22⟩, (f_13 : a.eval (.tmp 13) = .slice A22 x21.length cA22), (b_A22 : RdO own [0] wx R3 A22 cA22 x21)⟩, -⟩ := hf
      exact sg_plain rfl rfl (or_call cf16 (args2 f_9 f_13) (order_Compare_w _ x19 A20 cA20 x21 A22 cA22 (RdO.zero b_A20) (RdO.zero b_A22) r23 hr23) post_val)
    refine steps_cons (fun own a wx hf hsl hE => ?_) ?_
    · obtain ⟨(f_14 : a.eval (.tmp 14) = .int .i64 r23), -⟩ := hf
      exact sg_plain rfl rfl (or_lss f_14 rfl rfl)
    refine steps_cons (fun own a wx hf hsl hE => ?_) ?_
    · obtain ⟨(f_15 : a.eval (.tmp 15) = .bool (decide (r23 < 0))), -⟩ := hf
      exact sg_plain rfl rfl (or_assign f_15)
    exact steps_nil
  intro own24 a24 w24 hd24 hz24 hk24 hf24 hE24
  obtain ⟨(f_5 : a24.eval (.tmp 5) = .bool (decide (r23 < 0))), -⟩ := hf24 [10] rfl
  have e24_5 := f_5
  have hX24 := Evo.step hX18 (fun _ => Nat.le_refl 0) hE24 rfl
  refine fl_ret ?_
  obtain rfl := osome hs
  exact hret _ _ _ _ (.inl rfl) hd24 (results1_ rfl (RVal.tmp_ e24_5)) ⟨own24, rfl, hX24⟩

set_option maxHeartbeats 2000000 in
theorem order_merged_int_Rows_1_w (w : World) (x1 : List Int) (Ax1 : Option Addr) (cx1 : Nat) (b2 : List Int) (Ab2 : Option Addr) (cb2 : Nat) (ahead3_0 : List (List Int)) (gahead3_0 : Nat) (tahead3_0 : TypeId) (Aahead3_0_0 : Option Addr) (cahead3_0_0 : Nat) (hx1 : RdO (fun _ => 0) [0] w R3 Ax1 cx1 x1) (hb2 : RdO (fun _ => 0) [0] w R3 Ab2 cb2 b2) (hgahead3_0 : BlkO (fun _ => 0) 0 w gahead3_0 tahead3_0 #[.slice Aahead3_0_0 ahead3_0.length cahead3_0_0]) (hAahead3_0_0 : RdO (fun _ => 0) [0] w R22 Aahead3_0_0 cahead3_0_0 ahead3_0) (r : List Int) (hs : order_merged_int_Rows_1 x1 b2 ahead3_0 = some r) :
    Calls Try.prog 26 #[.slice Ax1 x1.length cx1, .slice Ab2 b2.length cb2, .func (.func 36) #[] #[.pointer (some ⟨gahead3_0, 0, none⟩)]] w fun e w' => ∃ (own' : Own) (x : Option Addr × Nat), e = .returned (.slice x.1 r.length x.2) ∧ Evo [] (fun _ => 0) own' w w' ∧ RwO own' 1 [] w' 3 R3 x.1 x.2 r := by
  refine fl_enter (n := 51) rfl rfl rfl (Nat.le_of_ble_eq_true rfl) ?_
  intro a0 Q hd0 hz0 harg hret
  have ha0 := harg 0 _ rfl
  have ha1 := harg 1 _ rfl
  have ha2 := harg 2 _ rfl
  clear harg
  have hE0 : Evo [] (fun _ => 0) (fun _ => 0) w w := Evo.refl _ _ _
  refine rg_plain_seq (n := 51) (rs := []) (own0 := (fun _ => 0)) (K := [])
      (bs := [0])
      (ds := [⟨[], [], [], Fct.val 6 (.slice none 0 0)⟩]) (by kernel_rfl) hz0 hd0 (fun _ h => nomatch h) ?_ ?_
  · refine steps_cons (fun own a wx hf hsl hE => ?_) ?_
    · exact sg_plain rfl rfl (or_assign rfl)
    exact steps_nil
  intro own204 a204 w204 hd204 hz204 hk204 hf204 hE204
  have e204_0 : a204.eval (.tmp 0) = .slice Ax1 x1.length cx1 := (hk204 0 rfl).trans ha0
  have e204_1 : a204.eval (.tmp 1) = .slice Ab2 b2.length cb2 := (hk204 1 rfl).trans ha1
  have e204_2 : a204.eval (.tmp 2) = .func (.func 36) #[] #[.pointer (some ⟨gahead3_0, 0, none⟩)] := (hk204 2 rfl).trans ha2
  have hX204 := Evo.step hE0 (fun _ => Nat.le_refl 0) hE204 rfl
  have b204_Ax1 := RdO.evo rfl hE204 hx1
  have b204_Ab2 := RdO.evo rfl hE204 hb2
  have b204_Aahead3_0_0 := RdO.evo rfl hE204 hAahead3_0_0
  have b204_gahead3_0 := BlkO.evo (by decide) hE204 hgahead3_0
  refine fl_scope (S := ((List Int) × (List Int) × (List Int))) (body := (fun s => order_merged_int_Rows_1_b1_0 ahead3_0 s.1 s.2.1 s.2.2)) (z := r) (fun _ => 0) ?_ (fun s a wx => ((fun (s : (List Int) × (List Int) × (List Int)) => match s with | (x254, b257, out260) => ∃ (ox : Own) (A252 : Option Addr) (c253 : Nat) (A255 : Option Addr) (c256 : Nat) (A258 : Option Addr) (c259 : Nat), a.defers = [] ∧ a.tmps.size = 51 ∧ a.eval (.tmp 0) = .slice A252 x254.length c253 ∧ a.eval (.tmp 1) = .slice A255 b257.length c256 ∧ a.eval (.tmp 2) = .func (.func 36) #[] #[.pointer (some ⟨gahead3_0, 0, none⟩)] ∧ a.eval (.tmp 7) = .slice A258 out260.length c259 ∧ Evo [] (fun _ => 0) ox w wx ∧ RdO ox [0] wx R3 A252 c253 x254 ∧ RdO ox [0] wx R3 A255 c256 b257 ∧ BlkO ox 0 wx gahead3_0 tahead3_0 #[.slice Aahead3_0_0 ahead3_0.length cahead3_0_0] ∧ RdO ox [0] wx R22 Aahead3_0_0 cahead3_0_0 ahead3_0 ∧ RwO ox 261 [] wx 3 R3 A258 c259 out260) : (((List Int) × (List Int) × (List Int))) → Prop) s) ?_ ?_
  · intro s; rfl
  · intro Q305 hj305 hp305
    obtain ⟨x350, hx350, hs⟩ := obind hs
    obtain ⟨x351, hx351, hs⟩ := obind hs
    refine rg_plain_seq (n := 51) (rs := []) (own0 := own204) (K := [])
        (bs := [0, 1, 0, 4, 15, 31, 63])
        (ds := [⟨[], [0], [], Fct.val 8 (.slice Ax1 x1.length cx1)⟩,
        ⟨[0], [], [], Fct.val 9 (.int .i64 (x1.length : Int))⟩,
        ⟨[], [1], [], Fct.val 10 (.slice Ab2 b2.length cb2)⟩,
        ⟨[2], [], [], Fct.val 11 (.int .i64 (b2.length : Int))⟩,
        ⟨[1, 3], [], [], Fct.val 12 (.int .i64 x350)⟩,
        ⟨[4], [], [], Fct.row 353 [] 13 3 R3 x351⟩,
        ⟨[5], [], [], Fct.rel [7, 13] (fun l => ∀ (A352 : Option Addr) (cA352 : Nat), l.getD 1 undef = .slice A352 x351.length cA352 → l.getD 0 undef = .slice A352 x351.length cA352)⟩]) (by kernel_rfl) hz204 hd204 (fun _ h => nomatch h) ?_ ?_
    · refine steps_cons (fun own a wx hf hsl hE => ?_) ?_
      · obtain ⟨s_0, -⟩ := hsl
        exact sg_plain rfl rfl (or_move (s_0.trans e204_0))
      refine steps_cons (fun own a wx hf hsl hE => ?_) ?_
      · obtain ⟨(f_8 : a.eval (.tmp 8) = .slice Ax1 x1.length cx1), -⟩ := hf
        exact sg_plain rfl rfl (or_len tu22 f_8 rfl)
      refine steps_cons (fun own a wx hf hsl hE => ?_) ?_
      · obtain ⟨s_1, -⟩ := hsl
        exact sg_plain rfl rfl (or_move (s_1.trans e204_1))
      refine steps_cons (fun own a wx hf hsl hE => ?_) ?_
      · obtain ⟨(f_10 : a.eval (.tmp 10) = .slice Ab2 b2.length cb2), -⟩ := hf
        exact sg_plain rfl rfl (or_len tu22 f_10 rfl)
      refine steps_cons (fun own a wx hf hsl hE => ?_) ?_
      · obtain ⟨(f_9 : a.eval (.tmp 9) = .int .i64 (x1.length : Int)), (f_11 : a.eval (.tmp 11) = .int .i64 (b2.length : Int)), -⟩ := hf
        exact sg_plain rfl rfl (or_add f_9 f_11 (osome hx350).symm)
      refine steps_cons (fun own a wx hf hsl hE => ?_) ?_
      · obtain ⟨(f_12 : a.eval (.tmp 12) = .int .i64 x350), -⟩ := hf
        exact sg_plain rfl rfl (or_make (R := R3) (lab := 353) tp22 rfl f_12 hx351 (by decide))
      refine steps_cons (fun own a wx hf hsl hE => ?_) ?_
      · obtain ⟨⟨⟨A352, cA352⟩, (f_13 : a.eval (.tmp 13) = .slice A352 x351.length cA352), (b_A352 : RwO own 353 [] wx 3 R3 A352 cA352 x351)⟩, -⟩ := hf
        exact sg_plain rfl rfl (or_mono (f := Fct.val 7 (.slice A352 x351.length cA352)) (or_assign f_13) (fun own' a' w' v' hp h => fun _ _ h0' => by cases (f_13.symm.trans ((hp.2 13 (by decide)).symm.trans h0')); exact h))
      exact steps_nil
    intro own354 a354 w354 hd354 hz354 hk354 hf354 hE354
    have e354_0 : a354.eval (.tmp 0) = .slice Ax1 x1.length cx1 := (hk354 0 rfl).trans e204_0
    have e354_1 : a354.eval (.tmp 1) = .slice Ab2 b2.length cb2 := (hk354 1 rfl).trans e204_1
    have e354_2 : a354.eval (.tmp 2) = .func (.func 36) #[] #[.pointer (some ⟨gahead3_0, 0, none⟩)] := (hk354 2 rfl).trans e204_2
    obtain ⟨⟨⟨A352, cA352⟩, (f_13 : a354.eval (.tmp 13) = .slice A352 x351.length cA352), (b_A352 : RwO own354 353 [] w354 3 R3 A352 cA352 x351)⟩, (q_7 : ∀ (A352 : Option Addr) (cA352 : Nat), a354.eval (.tmp 13) = .slice A352 x351.length cA352 → a354.eval (.tmp 7) = .slice A352 x351.length cA352), -⟩ := hf354 [5, 6] rfl
    have f_7 := q_7 _ _ f_13
    have e354_7 := f_7
    have hX354 := Evo.step hX204 (fun _ => Nat.le_refl 0) hE354 rfl
    have b354_Ax1 := RdO.evo rfl hE354 b204_Ax1
    have b354_Ab2 := RdO.evo rfl hE354 b204_Ab2
    have b354_Aahead3_0_0 := RdO.evo rfl hE354 b204_Aahead3_0_0
    have b354_gahead3_0 := BlkO.evo (by decide) hE354 b204_gahead3_0
    have b354_A352 := b_A352
    refine fl_seq (fun Q355 hn355 hp355 => ?_)
    refine fl_label ?_
    refine hn355 _ _ ?_
    refine fl_seq (fun Q356 hn356 hp356 => ?_)
    obtain ⟨x357, hx357, hs⟩ := obind hs
    refine rg_plain_seq (n := 51) (rs := []) (own0 := own354) (K := [])
        (bs := [0, 1, 3, 7, 15, 31, 63, 127])
        (ds := [⟨[], [0], [], Fct.val 14 (.slice Ax1 x1.length cx1)⟩,
        ⟨[0], [], [], Fct.val 15 (.int .i64 (x1.length : Int))⟩,
        ⟨[1], [], [], Fct.val 16 (.bool (decide ((x1.length : Int) = 0)))⟩,
        ⟨[2], [], [], Fct.val 17 (.bool (decide ((x1.length : Int) = 0)))⟩,
        ⟨[3], [1], [], Fct.cond (!(decide ((x1.length : Int) = 0))) (some 18) (Fct.val 18 (.slice Ab2 b2.length cb2))⟩,
        ⟨[3, 4], [], [], Fct.cond (!(decide ((x1.length : Int) = 0))) (some 19) (Fct.val 19 (.int .i64 (b2.length : Int)))⟩,
        ⟨[3, 5], [], [], Fct.cond (!(decide ((x1.length : Int) = 0))) (some 20) (Fct.val 20 (.bool (decide ((b2.length : Int) = 0))))⟩,
        ⟨[3, 6], [], [], Fct.val 21 (.bool x357)⟩]) (by kernel_rfl) hz354 hd354 (fun _ h => nomatch h) ?_ ?_
    · refine steps_cons (fun own a wx hf hsl hE => ?_) ?_
      · obtain ⟨s_0, -⟩ := hsl
        exact sg_plain rfl rfl (or_move (s_0.trans e354_0))
      refine steps_cons (fun own a wx hf hsl hE => ?_) ?_
      · obtain ⟨(f_14 : a.eval (.tmp 14) = .slice Ax1 x1.length cx1), -⟩ := hf
        exact sg_plain rfl rfl (or_len tu22 f_14 rfl)
      refine steps_cons (fun own a wx hf hsl hE => ?_) ?_
      · obtain ⟨(f_15 : a.eval (.tmp 15) = .int .i64 (x1.length : Int)), -⟩ := hf
        exact sg_plain rfl rfl (or_eql f_15 rfl rfl)
      refine steps_cons (fun own a wx hf hsl hE => ?_) ?_
      · obtain ⟨(f_16 : a.eval (.tmp 16) = .bool (decide ((x1.length : Int) = 0))), -⟩ := hf
        exact sg_plain rfl rfl (or_move f_16)
      refine steps_cons (fun own a wx hf hsl hE => ?_) ?_
      · obtain ⟨(f_17 : a.eval (.tmp 17) = .bool (decide ((x1.length : Int) = 0))), -⟩ := hf
        obtain ⟨s_1, -⟩ := hsl
        refine sg_f rfl rfl rfl f_17 (fun hg => ?_)
        exact or_move (s_1.trans e354_1)
      refine steps_cons (fun own a wx hf hsl hE => ?_) ?_
      · obtain ⟨(f_17 : a.eval (.tmp 17) = .bool (decide ((x1.length : Int) = 0))), c_18, -⟩ := hf
        refine sg_f rfl rfl rfl f_17 (fun hg => ?_)
        have f_18 : a.eval (.tmp 18) = .slice Ab2 b2.length cb2 := c_18.1 hg
        exact or_len tu22 f_18 rfl
      refine steps_cons (fun own a wx hf hsl hE => ?_) ?_
      · obtain ⟨(f_17 : a.eval (.tmp 17) = .bool (decide ((x1.length : Int) = 0))), c_19, -⟩ := hf
        refine sg_f rfl rfl rfl f_17 (fun hg => ?_)
        have f_19 : a.eval (.tmp 19) = .int .i64 (b2.length : Int) := c_19.1 hg
        exact or_eql f_19 rfl rfl
      refine steps_cons (fun own a wx hf hsl hE => ?_) ?_
      · obtain ⟨(f_17 : a.eval (.tmp 17) = .bool (decide ((x1.length : Int) = 0))), c_20, -⟩ := hf
        exact sg_plain rfl rfl (or_or f_17 rfl (fun hx => c_20.1 hx) (osome hx357).symm)
      exact steps_nil
    intro own358 a358 w358 hd358 hz358 hk358 hf358 hE358
    have e358_0 : a358.eval (.tmp 0) = .slice Ax1 x1.length cx1 := (hk358 0 rfl).trans e354_0
    have e358_1 : a358.eval (.tmp 1) = .slice Ab2 b2.length cb2 := (hk358 1 rfl).trans e354_1
    have e358_2 : a358.eval (.tmp 2) = .func (.func 36) #[] #[.pointer (some ⟨gahead3_0, 0, none⟩)] := (hk358 2 rfl).trans e354_2
    have e358_7 : a358.eval (.tmp 7) = .slice A352 x351.length cA352 := (hk358 7 rfl).trans e354_7
    obtain ⟨(f_21 : a358.eval (.tmp 21) = .bool x357), -⟩ := hf358 [7] rfl
    have e358_21 := f_21
    have hX358 := Evo.step hX354 (fun _ => Nat.le_refl 0) hE358 rfl
    have b358_Ax1 := RdO.evo rfl hE358 b354_Ax1
    have b358_Ab2 := RdO.evo rfl hE358 b354_Ab2
    have b358_Aahead3_0_0 := RdO.evo rfl hE358 b354_Aahead3_0_0
    have b358_gahead3_0 := BlkO.evo (by decide) hE358 b354_gahead3_0
    have b358_A352 := RwO.evo rfl hE358 b354_A352
    refine fl_cond e358_21 hs (fun c359 hs => ?_) (fun c359 hs => ?_)
    · obtain ⟨x360, hx360, hs⟩ := obind hs
      obtain ⟨x363, hx363, hs⟩ := obind hs
      refine rg_plain_seq (n := 51) (rs := [Fct.rowAt 353 [] 3 R3 A352 cA352 x351]) (own0 := own358) (K := [353, 361])
          (bs := [0, 0, 3, 0, 15, 31])
          (ds := [⟨[], [7], [], Fct.val 22 (.slice A352 x351.length cA352)⟩,
          ⟨[], [0], [], Fct.val 23 (.slice Ax1 x1.length cx1)⟩,
          ⟨[0, 1, 6], [], [353], Fct.row 361 [] 24 3 R3 x360⟩,
          ⟨[], [1], [], Fct.val 25 (.slice Ab2 b2.length cb2)⟩,
          ⟨[2, 3], [], [361], Fct.row 364 [] 26 3 R3 x363⟩,
          ⟨[4], [], [], Fct.rel [6, 26] (fun l => ∀ (A365 : Option Addr) (cA365 : Nat), l.getD 1 undef = .slice A365 x363.length cA365 → l.getD 0 undef = .slice A365 x363.length cA365)⟩]) (by kernel_rfl) hz358 hd358 (by simp only [List.forall_mem_cons]; exact ⟨b358_A352, fun _ h => nomatch h⟩) ?_ ?_
      · refine steps_cons (fun own a wx hf hsl hE => ?_) ?_
        · obtain ⟨s_7, -⟩ := hsl
          exact sg_plain rfl rfl (or_move (s_7.trans e358_7))
        refine steps_cons (fun own a wx hf hsl hE => ?_) ?_
        · obtain ⟨s_0, -⟩ := hsl
          exact sg_plain rfl rfl (or_move (s_0.trans e358_0))
        refine steps_cons (fun own a wx hf hsl hE => ?_) ?_
        · obtain ⟨(f_22 : a.eval (.tmp 22) = .slice A352 x351.length cA352), (f_23 : a.eval (.tmp 23) = .slice Ax1 x1.length cx1), (b_A352 : RwO own 353 [] wx 3 R3 A352 cA352 x351), -⟩ := hf
          exact sg_plain rfl rfl (or_append (R := R3) (lab := 353) (lab2 := 361) (L := []) (L3 := []) tp22 f_22 b_A352 (by decide) f_23 (RdO.evo rfl hE b358_Ax1) hx360 (by decide) (by decide) (mem_of rfl) (.inl (Rep.fl_flat _)))
        refine steps_cons (fun own a wx hf hsl hE => ?_) ?_
        · obtain ⟨s_1, -⟩ := hsl
          exact sg_plain rfl rfl (or_move (s_1.trans e358_1))
        refine steps_cons (fun own a wx hf hsl hE => ?_) ?_
        · obtain ⟨⟨⟨A362, cA362⟩, (f_24 : a.eval (.tmp 24) = .slice A362 x360.length cA362), (b_A362 : RwO own 361 [] wx 3 R3 A362 cA362 x360)⟩, (f_25 : a.eval (.tmp 25) = .slice Ab2 b2.length cb2), -⟩ := hf
          exact sg_plain rfl rfl (or_append (R := R3) (lab := 361) (lab2 := 364) (L := []) (L3 := []) tp22 f_24 b_A362 (by decide) f_25 (RdO.evo rfl hE b358_Ab2) hx363 (by decide) (by decide) (mem_of rfl) (.inl (Rep.fl_flat _)))
        refine steps_cons (fun own a wx hf hsl hE => ?_) ?_
        · obtain ⟨⟨⟨A365, cA365⟩, (f_26 : a.eval (.tmp 26) = .slice A365 x363.length cA365), (b_A365 : RwO own 364 [] wx 3 R3 A365 cA365 x363)⟩, -⟩ := hf
          exact sg_plain rfl rfl (or_mono (f := Fct.val 6 (.slice A365 x363.length cA365)) (or_assign f_26) (fun own' a' w' v' hp h => fun _ _ h0' => by cases (f_26.symm.trans ((hp.2 26 (by decide)).symm.trans h0')); exact h))
        exact steps_nil
      intro own366 a366 w366 hd366 hz366 hk366 hf366 hE366
      obtain ⟨⟨⟨A365, cA365⟩, (f_26 : a366.eval (.tmp 26) = .slice A365 x363.length cA365), (b_A365 : RwO own366 364 [] w366 3 R3 A365 cA365 x363)⟩, (q_6 : ∀ (A365 : Option Addr) (cA365 : Nat), a366.eval (.tmp 26) = .slice A365 x363.length cA365 → a366.eval (.tmp 6) = .slice A365 x363.length cA365), -⟩ := hf366 [4, 5] rfl
      have f_6 := q_6 _ _ f_26
      have e366_6 := f_6
      have hX366 := Evo.step hX358 (fun _ => Nat.le_refl 0) hE366 rfl
      have b366_A365 := b_A365
      refine fl_ret ?_
      refine hp356 _ _ _ rfl ?_
      refine hp305.leaves _ _ _ rfl ?_
      obtain rfl := (osome hs).symm
      exact hret _ _ _ _ (.inl rfl) hd366 (results1_ rfl (RVal.tmp_ e366_6)) ⟨(rl [(364, 1)] own366), (A365, cA365), rfl, (Evo.rl_ hX366 (fun _ => Nat.le_refl 0) rfl), (RwO.rl_ (mm := [(364, 1)]) b366_A365)⟩
    refine fl_skip ?_
    refine hn356 _ _ ?_
    refine fl_seq (fun Q367 hn367 hp367 => ?_)
    obtain ⟨x368, hx368, hs⟩ := obind hs
    obtain ⟨x369, hx369, hs⟩ := obind hs
    obtain ⟨r370, hr370, hs⟩ := obind hs
    refine rg_draw_seq g_mixed (n := 51) (rs := []) (own0 := own358) (K := [])
        (bs := [0, 0, 2, 6, 0, 16, 48, 127])
        (ds := [⟨[], [2], [], Fct.val 27 (.func (.func 36) #[] #[.pointer (some ⟨gahead3_0, 0, none⟩)])⟩,
        ⟨[], [1], [], Fct.val 28 (.slice Ab2 b2.length cb2)⟩,
        ⟨[1], [], [], Fct.val 29 (.pointer (some ((adr Ab2).add ((0 : Int).toNat * R3.s))))⟩,
        ⟨[2], [], [], Fct.val 30 (.int .i64 x368)⟩,
        ⟨[], [0], [], Fct.val 31 (.slice Ax1 x1.length cx1)⟩,
        ⟨[4], [], [], Fct.val 32 (.pointer (some ((adr Ax1).add ((0 : Int).toNat * R3.s))))⟩,
        ⟨[5], [], [], Fct.val 33 (.int .i64 x369)⟩,
        ⟨[0, 3, 6], [], [], Fct.val 34 (.bool r370)⟩]) (by kernel_rfl) hz358 hd358 (fun _ h => nomatch h) ?_ ?_
    · refine steps_cons (fun own a wx hf hsl hE => ?_) ?_
      · obtain ⟨s_2, -⟩ := hsl
        exact sg_plain rfl rfl (or_move (s_2.trans e358_2))
      refine steps_cons (fun own a wx hf hsl hE => ?_) ?_
      · obtain ⟨s_1, -⟩ := hsl
        exact sg_plain rfl rfl (or_move (s_1.trans e358_1))
      refine steps_cons (fun own a wx hf hsl hE => ?_) ?_
      · obtain ⟨(f_28 : a.eval (.tmp 28) = .slice Ab2 b2.length cb2), -⟩ := hf
        exact sg_plain rfl rfl (or_index (R := R3) (l := b2) tl22 f_28 rfl (RdO.some_ b358_Ab2 hx368) hx368)
      refine steps_cons (fun own a wx hf hsl hE => ?_) ?_
      · obtain ⟨(f_29 : a.eval (.tmp 29) = .pointer (some ((adr Ab2).add ((0 : Int).toNat * R3.s)))), -⟩ := hf
        exact sg_plain rfl rfl (or_load1 to3 f_29 (CellsAt.zero (RdO.cells (F := E3) (RdO.evo rfl hE b358_Ab2) hx368) rfl))
      refine steps_cons (fun own a wx hf hsl hE => ?_) ?_
      · obtain ⟨s_0, -⟩ := hsl
        exact sg_plain rfl rfl (or_move (s_0.trans e358_0))
      refine steps_cons (fun own a wx hf hsl hE => ?_) ?_
      · obtain ⟨(f_31 : a.eval (.tmp 31) = .slice Ax1 x1.length cx1), -⟩ := hf
        exact sg_plain rfl rfl (or_index (R := R3) (l := x1) tl22 f_31 rfl (RdO.some_ b358_Ax1 hx369) hx369)
      refine steps_cons (fun own a wx hf hsl hE => ?_) ?_
      · obtain ⟨(f_32 : a.eval (.tmp 32) = .pointer (some ((adr Ax1).add ((0 : Int).toNat * R3.s)))), -⟩ := hf
        exact sg_plain rfl rfl (or_load1 to3 f_32 (CellsAt.zero (RdO.cells (F := E3) (RdO.evo rfl hE b358_Ax1) hx369) rfl))
      refine steps_cons (fun own a wx hf hsl hE => ?_) ?_
      · obtain ⟨(f_27 : a.eval (.tmp 27) = .func (.func 36) #[] #[.pointer (some ⟨gahead3_0, 0, none⟩)]), (f_30 : a.eval (.tmp 30) = .int .i64 x368), (f_33 : a.eval (.tmp 33) = .int .i64 x369), -⟩ := hf
        exact sg_plain rfl rfl (or_callf cf36 f_27 (args2 f_30 f_33) rfl (order_Rows_1_w _ x368 x369 ahead3_0 gahead3_0 tahead3_0 Aahead3_0_0 cahead3_0_0 (BlkO.zero_ (BlkO.evo (by decide) hE b358_gahead3_0)) (RdO.zero (RdO.evo rfl hE b358_Aahead3_0_0)) r370 hr370) post_val)
      exact steps_nil
    intro own371 a371 w371 hd371 hz371 hk371 hf371 hE371
    have e371_0 : a371.eval (.tmp 0) = .slice Ax1 x1.length cx1 := (hk371 0 rfl).trans e358_0
    have e371_1 : a371.eval (.tmp 1) = .slice Ab2 b2.length cb2 := (hk371 1 rfl).trans e358_1
    have e371_2 : a371.eval (.tmp 2) = .func (.func 36) #[] #[.pointer (some ⟨gahead3_0, 0, none⟩)] := (hk371 2 rfl).trans e358_2
    have e371_7 : a371.eval (.tmp 7) = .slice A352 x351.length cA352 := (hk371 7 rfl).trans e358_7
    obtain ⟨(f_34 : a371.eval (.tmp 34) = .bool r370), -⟩ := hf371 [7] rfl
    have e371_34 := f_34
    have hX371 := Evo.step hX358 (fun _ => Nat.le_refl 0) hE371 rfl
    have b371_Ax1 := RdO.evo rfl hE371 b358_Ax1
    have b371_Ab2 := RdO.evo rfl hE371 b358_Ab2
    have b371_Aahead3_0_0 := RdO.evo rfl hE371 b358_Aahead3_0_0
    have b371_gahead3_0 := BlkO.evo (by decide) hE371 b358_gahead3_0
    have b371_A352 := RwO.evo rfl hE371 b358_A352
    refine fl_cond e371_34 hs (fun c372 hs => ?_) (fun c372 hs => ?_)
    · obtain ⟨x376, hx376, hs⟩ := obind hs
      obtain ⟨x379, hx379, hs⟩ := obind hs
      obtain ⟨x382, hx382, hs⟩ := obind hs
      refine rg_draw_seq g_mixed (n := 51) (rs := [Fct.rowAt 353 [] 3 R3 A352 cA352 x351]) (own0 := own371) (K := [353])
          (bs := [0, 0, 2, 6, 14, 31, 0, 64, 63, 511])
          (ds := [⟨[], [7], [], Fct.val 35 (.slice A352 x351.length cA352)⟩,
          ⟨[], [1], [], Fct.val 36 (.slice Ab2 b2.length cb2)⟩,
          ⟨[1], [], [], Fct.val 37 (.pointer (some ((adr Ab2).add ((0 : Int).toNat * R3.s))))⟩,
          ⟨[2], [], [], Fct.val 38 (.int .i64 x376)⟩,
          ⟨[3], [], [], Fct.row 378 [] 39 3 R3 [x376]⟩,
          ⟨[0, 4, 10], [], [353], Fct.row 380 [] 40 3 R3 x379⟩,
          ⟨[], [1], [], Fct.val 41 (.slice Ab2 b2.length cb2)⟩,
          ⟨[6], [], [], Fct.view [0] 42 R3 x382⟩,
          ⟨[5], [], [], Fct.rel [7, 40] (fun l => ∀ (A381 : Option Addr) (cA381 : Nat), l.getD 1 undef = .slice A381 x379.length cA381 → l.getD 0 undef = .slice A381 x379.length cA381)⟩,
          ⟨[7], [], [], Fct.rel [1, 42] (fun l => ∀ (A383 : Option Addr) (cA383 : Nat), l.getD 1 undef = .slice A383 x382.length cA383 → l.getD 0 undef = .slice A383 x382.length cA383)⟩]) (by kernel_rfl) hz371 hd371 (by simp only [List.forall_mem_cons]; exact ⟨b371_A352, fun _ h => nomatch h⟩) ?_ ?_
      · refine steps_cons (fun own a wx hf hsl hE => ?_) ?_
        · obtain ⟨s_7, -⟩ := hsl
          exact sg_plain rfl rfl (or_move (s_7.trans e371_7))
        refine steps_cons (fun own a wx hf hsl hE => ?_) ?_
        · obtain ⟨s_1, -⟩ := hsl
          exact sg_plain rfl rfl (or_move (s_1.trans e371_1))
        refine steps_cons (fun own a wx hf hsl hE => ?_) ?_
        · obtain ⟨(f_36 : a.eval (.tmp 36) = .slice Ab2 b2.length cb2), -⟩ := hf
          exact sg_plain rfl rfl (or_index (R := R3) (l := b2) tl22 f_36 rfl (RdO.some_ b371_Ab2 hx376) hx376)
        refine steps_cons (fun own a wx hf hsl hE => ?_) ?_
        · obtain ⟨(f_37 : a.eval (.tmp 37) = .pointer (some ((adr Ab2).add ((0 : Int).toNat * R3.s)))), -⟩ := hf
          exact sg_plain rfl rfl (or_load1 to3 f_37 (CellsAt.zero (RdO.cells (F := E3) (RdO.evo rfl hE b371_Ab2) hx376) rfl))
        refine steps_cons (fun own a wx hf hsl hE => ?_) ?_
        · obtain ⟨(f_38 : a.eval (.tmp 38) = .int .i64 x376), -⟩ := hf
          exact sg_plain rfl rfl (or_lit (lab := 378) (e := 3) (cs := #[.int .i64 x376]) (F := E3) (or_new [(38, .int .i64 x376)] rfl rfl ⟨f_38, trivial⟩ (by kernel_rfl)) rfl rfl (show 1 ≤ maxLen by decide))
        refine steps_cons (fun own a wx hf hsl hE => ?_) ?_
        · obtain ⟨(f_35 : a.eval (.tmp 35) = .slice A352 x351.length cA352), ⟨⟨A377, cA377⟩, (f_39 : a.eval (.tmp 39) = .slice A377 [x376].length cA377), (b_A377 : RwO own 378 [] wx 3 R3 A377 cA377 [x376])⟩, (b_A352 : RwO own 353 [] wx 3 R3 A352 cA352 x351), -⟩ := hf
          exact sg_plain rfl rfl (or_append (R := R3) (lab := 353) (lab2 := 380) (L := []) (L3 := []) tp22 f_35 b_A352 (by decide) f_39 (RwO.rd b_A377) hx379 (by decide) (by decide) (mem_of rfl) (.inl (Rep.fl_flat _)))
        refine steps_cons (fun own a wx hf hsl hE => ?_) ?_
        · obtain ⟨s_1, -⟩ := hsl
          exact sg_plain rfl rfl (or_move (s_1.trans e371_1))
        refine steps_cons (fun own a wx hf hsl hE => ?_) ?_
        · obtain ⟨(f_41 : a.eval (.tmp 41) = .slice Ab2 b2.length cb2), -⟩ := hf
          exact sg_plain rfl rfl (or_view (R := R3) (l := b2) (L := [0]) tu22 ts3 f_41 (Bnd.some_ rfl) Bnd.none_ Bnd.none_ (RdO.evo rfl hE b371_Ab2) hx382 (.inl rfl) (by simp))
        refine steps_cons (fun own a wx hf hsl hE => ?_) ?_
        · obtain ⟨⟨⟨A381, cA381⟩, (f_40 : a.eval (.tmp 40) = .slice A381 x379.length cA381), (b_A381 : RwO own 380 [] wx 3 R3 A381 cA381 x379)⟩, -⟩ := hf
          exact sg_plain rfl rfl (or_mono (f := Fct.val 7 (.slice A381 x379.length cA381)) (or_assign f_40) (fun own' a' w' v' hp h => fun _ _ h0' => by cases (f_40.symm.trans ((hp.2 40 (by decide)).symm.trans h0')); exact h))
        refine steps_cons (fun own a wx hf hsl hE => ?_) ?_
        · obtain ⟨⟨⟨A383, cA383⟩, (f_42 : a.eval (.tmp 42) = .slice A383 x382.length cA383), (b_A383 : RdO own [0] wx R3 A383 cA383 x382)⟩, -⟩ := hf
          exact sg_plain rfl rfl (or_mono (f := Fct.val 1 (.slice A383 x382.length cA383)) (or_assign f_42) (fun own' a' w' v' hp h => fun _ _ h0' => by cases (f_42.symm.trans ((hp.2 42 (by decide)).symm.trans h0')); exact h))
        exact steps_nil
      intro own384 a384 w384 hd384 hz384 hk384 hf384 hE384
      have e384_0 : a384.eval (.tmp 0) = .slice Ax1 x1.length cx1 := (hk384 0 rfl).trans e371_0
      have e384_2 : a384.eval (.tmp 2) = .func (.func 36) #[] #[.pointer (some ⟨gahead3_0, 0, none⟩)] := (hk384 2 rfl).trans e371_2
      obtain ⟨⟨⟨A381, cA381⟩, (f_40 : a384.eval (.tmp 40) = .slice A381 x379.length cA381), (b_A381 : RwO own384 380 [] w384 3 R3 A381 cA381 x379)⟩, (q_7 : ∀ (A381 : Option Addr) (cA381 : Nat), a384.eval (.tmp 40) = .slice A381 x379.length cA381 → a384.eval (.tmp 7) = .slice A381 x379.length cA381), ⟨⟨A383, cA383⟩, (f_42 : a384.eval (.tmp 42) = .slice A383 x382.length cA383), (b_A383 : RdO own384 [0] w384 R3 A383 cA383 x382)⟩, (q_1 : ∀ (A383 : Option Addr) (cA383 : Nat), a384.eval (.tmp 42) = .slice A383 x382.length cA383 → a384.eval (.tmp 1) = .slice A383 x382.length cA383), -⟩ := hf384 [5, 8, 7, 9] rfl
      have f_7 := q_7 _ _ f_40
      have f_1 := q_1 _ _ f_42
      have e384_7 := f_7
      have e384_1 := f_1
      have hX384 := Evo.step hX371 (fun _ => Nat.le_refl 0) hE384 rfl
      have b384_Ax1 := RdO.evo rfl hE384 b371_Ax1
      have b384_Aahead3_0_0 := RdO.evo rfl hE384 b371_Aahead3_0_0
      have b384_gahead3_0 := BlkO.evo (by decide) hE384 b371_gahead3_0
      have b384_A381 := b_A381
      have b384_A383 := b_A383
      refine fl_goto ?_
      refine hp367 _ _ _ rfl ?_
      exact hj305 (x1, x382, x379) _ _ (show loopO _ _ = _ from hs) ⟨(rl [(380, 261)] own384), Ax1, cx1, A383, cA383, A381, cA381, hd384, hz384, e384_0, e384_1, e384_2, e384_7, (Evo.rl_ hX384 (fun _ => Nat.le_refl 0) rfl), (RdO.rl_ (mm := [(380, 261)]) b384_Ax1), (RdO.rl_ (mm := [(380, 261)]) b384_A383), (BlkO.rl_ (mm := [(380, 261)]) b384_gahead3_0), (RdO.rl_ (mm := [(380, 261)]) b384_Aahead3_0_0), (RwO.rl_ (mm := [(380, 261)]) b384_A381)⟩
    refine fl_skip ?_
    refine hn367 _ _ ?_
    obtain ⟨x388, hx388, hs⟩ := obind hs
    obtain ⟨x391, hx391, hs⟩ := obind hs
    obtain ⟨x394, hx394, hs⟩ := obind hs
    refine rg_draw_seq g_mixed (n := 51) (rs := [Fct.rowAt 353 [] 3 R3 A352 cA352 x351]) (own0 := own371) (K := [353])
        (bs := [0, 0, 2, 6, 14, 31, 0, 64, 63, 511])
        (ds := [⟨[], [7], [], Fct.val 43 (.slice A352 x351.length cA352)⟩,
        ⟨[], [0], [], Fct.val 44 (.slice Ax1 x1.length cx1)⟩,
        ⟨[1], [], [], Fct.val 45 (.pointer (some ((adr Ax1).add ((0 : Int).toNat * R3.s))))⟩,
        ⟨[2], [], [], Fct.val 46 (.int .i64 x388)⟩,
        ⟨[3], [], [], Fct.row 390 [] 47 3 R3 [x388]⟩,
        ⟨[0, 4, 10], [], [353], Fct.row 392 [] 48 3 R3 x391⟩,
        ⟨[], [0], [], Fct.val 49 (.slice Ax1 x1.length cx1)⟩,
        ⟨[6], [], [], Fct.view [0] 50 R3 x394⟩,
        ⟨[5], [], [], Fct.rel [7, 48] (fun l => ∀ (A393 : Option Addr) (cA393 : Nat), l.getD 1 undef = .slice A393 x391.length cA393 → l.getD 0 undef = .slice A393 x391.length cA393)⟩,
        ⟨[7], [], [], Fct.rel [0, 50] (fun l => ∀ (A395 : Option Addr) (cA395 : Nat), l.getD 1 undef = .slice A395 x394.length cA395 → l.getD 0 undef = .slice A395 x394.length cA395)⟩]) (by kernel_rfl) hz371 hd371 (by simp only [List.forall_mem_cons]; exact ⟨b371_A352, fun _ h => nomatch h⟩) ?_ ?_
    · refine steps_cons (fun own a wx hf hsl hE => ?_) ?_
      · obtain ⟨s_7, -⟩ := hsl
        exact sg_plain rfl rfl (or_move (s_7.trans e371_7))
      refine steps_cons (fun own a wx hf hsl hE => ?_) ?_
      · obtain ⟨s_0, -⟩ := hsl
        exact sg_plain rfl rfl (or_move (s_0.trans e371_0))
      refine steps_cons (fun own a wx hf hsl hE => ?_) ?_
      · obtain ⟨(f_44 : a.eval (.tmp 44) = .slice Ax1 x1.length cx1), -⟩ := hf
        exact sg_plain rfl rfl (or_index (R := R3) (l := x1) tl22 f_44 rfl (RdO.some_ b371_Ax1 hx388) hx388)
      refine steps_cons (fun own a wx hf hsl hE => ?_) ?_
      · obtain ⟨(f_45 : a.eval (.tmp 45) = .pointer (some ((adr Ax1).add ((0 : Int).toNat * R3.s)))), -⟩ := hf
        exact sg_plain rfl rfl (or_load1 to3 f_45 (CellsAt.zero (RdO.cells (F := E3) (RdO.evo rfl hE b371_Ax1) hx388) rfl))
      refine steps_cons (fun own a wx hf hsl hE => ?_) ?_
      · obtain ⟨(f_46 : a.eval (.tmp 46) = .int .i64 x388), -⟩ := hf
        exact sg_plain rfl rfl (or_lit (lab := 390) (e := 3) (cs := #[.int .i64 x388]) (F := E3) (or_new [(46, .int .i64 x388)] rfl rfl ⟨f_46, trivial⟩ (by kernel_rfl)) rfl rfl (show 1 ≤ maxLen by decide))
      refine steps_cons (fun own a wx hf hsl hE => ?_) ?_
      · obtain ⟨(f_43 : a.eval (.tmp 43) = .slice A352 x351.length cA352), ⟨⟨A389, cA389⟩, (f_47 : a.eval (.tmp 47) = .slice A389 [x388].length cA389), (b_A389 : RwO own 390 [] wx 3 R3 A389 cA389 [x388])⟩, (b_A352 : RwO own 353 [] wx 3 R3 A352 cA352 x351), -⟩ := hf
        exact sg_plain rfl rfl (or_append (R := R3) (lab := 353) (lab2 := 392) (L := []) (L3 := []) tp22 f_43 b_A352 (by decide) f_47 (RwO.rd b_A389) hx391 (by decide) (by decide) (mem_of rfl) (.inl (Rep.fl_flat _)))
      refine steps_cons (fun own a wx hf hsl hE => ?_) ?_
      · obtain ⟨s_0, -⟩ := hsl
        exact sg_plain rfl rfl (or_move (s_0.trans e371_0))
      refine steps_cons (fun own a wx hf hsl hE => ?_) ?_
      · obtain ⟨(f_49 : a.eval (.tmp 49) = .slice Ax1 x1.length cx1), -⟩ := hf
        exact sg_plain rfl rfl (or_view (R := R3) (l := x1) (L := [0]) tu22 ts3 f_49 (Bnd.some_ rfl) Bnd.none_ Bnd.none_ (RdO.evo rfl hE b371_Ax1) hx394 (.inl rfl) (by simp))
      refine steps_cons (fun own a wx hf hsl hE => ?_) ?_
      · obtain ⟨⟨⟨A393, cA393⟩, (f_48 : a.eval (.tmp 48) = .slice A393 x391.length cA393), (b_A393 : RwO own 392 [] wx 3 R3 A393 cA393 x391)⟩, -⟩ := hf
        exact sg_plain rfl rfl (or_mono (f := Fct.val 7 (.slice A393 x391.length cA393)) (or_assign f_48) (fun own' a' w' v' hp h => fun _ _ h0' => by cases (f_48.symm.trans ((hp.2 48 (by decide)).symm.trans h0')); exact h))
      refine steps_cons (fun own a wx hf hsl hE => ?_) ?_
      · obtain ⟨⟨⟨A395, cA395⟩, (f_50 : a.eval (.tmp 50) = .slice A395 x394.length cA395), (b_A395 : RdO own [0] wx R3 A395 cA395 x394)⟩, -⟩ := hf
        exact sg_plain rfl rfl (or_mono (f := Fct.val 0 (.slice A395 x394.length cA395)) (or_assign f_50) (fun own' a' w' v' hp h => fun _ _ h0' => by cases (f_50.symm.trans ((hp.2 50 (by decide)).symm.trans h0')); exact h))
      exact steps_nil
    intro own396 a396 w396 hd396 hz396 hk396 hf396 hE396
    have e396_1 : a396.eval (.tmp 1) = .slice Ab2 b2.length cb2 := (hk396 1 rfl).trans e371_1
    have e396_2 : a396.eval (.tmp 2) = .func (.func 36) #[] #[.pointer (some ⟨gahead3_0, 0, none⟩)] := (hk396 2 rfl).trans e371_2
    obtain ⟨⟨⟨A393, cA393⟩, (f_48 : a396.eval (.tmp 48) = .slice A393 x391.length cA393), (b_A393 : RwO own396 392 [] w396 3 R3 A393 cA393 x391)⟩, (q_7 : ∀ (A393 : Option Addr) (cA393 : Nat), a396.eval (.tmp 48) = .slice A393 x391.length cA393 → a396.eval (.tmp 7) = .slice A393 x391.length cA393), ⟨⟨A395, cA395⟩, (f_50 : a396.eval (.tmp 50) = .slice A395 x394.length cA395), (b_A395 : RdO own396 [0] w396 R3 A395 cA395 x394)⟩, (q_0 : ∀ (A395 : Option Addr) (cA395 : Nat), a396.eval (.tmp 50) = .slice A395 x394.length cA395 → a396.eval (.tmp 0) = .slice A395 x394.length cA395), -⟩ := hf396 [5, 8, 7, 9] rfl
    have f_7 := q_7 _ _ f_48
    have f_0 := q_0 _ _ f_50
    have e396_7 := f_7
    have e396_0 := f_0
    have hX396 := Evo.step hX371 (fun _ => Nat.le_refl 0) hE396 rfl
    have b396_Ab2 := RdO.evo rfl hE396 b371_Ab2
    have b396_Aahead3_0_0 := RdO.evo rfl hE396 b371_Aahead3_0_0
    have b396_gahead3_0 := BlkO.evo (by decide) hE396 b371_gahead3_0
    have b396_A393 := b_A393
    have b396_A395 := b_A395
    refine fl_goto ?_
    exact hj305 (x394, b2, x391) _ _ (show loopO _ _ = _ from hs) ⟨(rl [(392, 261)] own396), A395, cA395, Ab2, cb2, A393, cA393, hd396, hz396, e396_0, e396_1, e396_2, e396_7, (Evo.rl_ hX396 (fun _ => Nat.le_refl 0) rfl), (RdO.rl_ (mm := [(392, 261)]) b396_A395), (RdO.rl_ (mm := [(392, 261)]) b396_Ab2), (BlkO.rl_ (mm := [(392, 261)]) b396_gahead3_0), (RdO.rl_ (mm := [(392, 261)]) b396_Aahead3_0_0), (RwO.rl_ (mm := [(392, 261)]) b396_A393)⟩
  · rintro ⟨x254, b257, out260⟩
    rintro zz305 a306 w306 ⟨own306, A252, c253, A255, c256, A258, c259, hd307, hz307, e307_0, e307_1, e307_2, e307_7, hE307, b307_A252, b307_A255, b307_gahead3_0, b307_Aahead3_0_0, b307_A258⟩ hs Q306 hj306 hp306 hz306
    have hs : order_merged_int_Rows_1_b1_0 ahead3_0 x254 b257 out260 = some zz305 := hs
    conv => arg 4; whnf
    refine fl_seq (fun Q308 hn308 hp308 => ?_)
    refine fl_skip ?_
    refine hn308 _ _ ?_
    refine fl_seq (fun Q309 hn309 hp309 => ?_)
    obtain ⟨x310, hx310, hs⟩ := obind hs
    refine rg_plain_seq (n := 51) (rs := []) (own0 := own306) (K := [])
        (bs := [0, 1, 3, 7, 15, 31, 63, 127])
        (ds := [⟨[], [0], [], Fct.val 14 (.slice A252 x254.length c253)⟩,
        ⟨[0], [], [], Fct.val 15 (.int .i64 (x254.length : Int))⟩,
        ⟨[1], [], [], Fct.val 16 (.bool (decide ((x254.length : Int) = 0)))⟩,
        ⟨[2], [], [], Fct.val 17 (.bool (decide ((x254.length : Int) = 0)))⟩,
        ⟨[3], [1], [], Fct.cond (!(decide ((x254.length : Int) = 0))) (some 18) (Fct.val 18 (.slice A255 b257.length c256))⟩,
        ⟨[3, 4], [], [], Fct.cond (!(decide ((x254.length : Int) = 0))) (some 19) (Fct.val 19 (.int .i64 (b257.length : Int)))⟩,
        ⟨[3, 5], [], [], Fct.cond (!(decide ((x254.length : Int) = 0))) (some 20) (Fct.val 20 (.bool (decide ((b257.length : Int) = 0))))⟩,
        ⟨[3, 6], [], [], Fct.val 21 (.bool x310)⟩]) (by kernel_rfl) hz307 hd307 (fun _ h => nomatch h) ?_ ?_
    · refine steps_cons (fun own a wx hf hsl hE => ?_) ?_
      · obtain ⟨s_0, -⟩ := hsl
        exact sg_plain rfl rfl (or_move (s_0.trans e307_0))
      refine steps_cons (fun own a wx hf hsl hE => ?_) ?_
      · obtain ⟨(f_14 : a.eval (.tmp 14) = .slice A252 x254.length c253), -⟩ := hf
        exact sg_plain rfl rfl (or_len tu22 f_14 rfl)
      refine steps_cons (fun own a wx hf hsl hE => ?_) ?_
      · obtain ⟨(f_15 : a.eval (.tmp 15) = .int .i64 (x254.length : Int)), -⟩ := hf
        exact sg_plain rfl rfl (or_eql f_15 rfl rfl)
      refine steps_cons (fun own a wx hf hsl hE => ?_) ?_
      · obtain ⟨(f_16 : a.eval (.tmp 16) = .bool (decide ((x254.length : Int) = 0))), -⟩ := hf
        exact sg_plain rfl rfl (or_move f_16)
      refine steps_cons (fun own a wx hf hsl hE => ?_) ?_
      · obtain ⟨(f_17 : a.eval (.tmp 17) = .bool (decide ((x254.length : Int) = 0))), -⟩ := hf
        obtain ⟨s_1, -⟩ := hsl
        refine sg_f rfl rfl rfl f_17 (fun hg => ?_)
        exact or_move (s_1.trans e307_1)
      refine steps_cons (fun own a wx hf hsl hE => ?_) ?_
      · obtain ⟨(f_17 : a.eval (.tmp 17) = .bool (decide ((x254.length : Int) = 0))), c_18, -⟩ := hf
        refine sg_f rfl rfl rfl f_17 (fun hg => ?_)
        have f_18 : a.eval (.tmp 18) = .slice A255 b257.length c256 := c_18.1 hg
        exact or_len tu22 f_18 rfl
      refine steps_cons (fun own a wx hf hsl hE => ?_) ?_
      · obtain ⟨(f_17 : a.eval (.tmp 17) = .bool (decide ((x254.length : Int) = 0))), c_19, -⟩ := hf
        refine sg_f rfl rfl rfl f_17 (fun hg => ?_)
        have f_19 : a.eval (.tmp 19) = .int .i64 (b257.length : Int) := c_19.1 hg
        exact or_eql f_19 rfl rfl
      refine steps_cons (fun own a wx hf hsl hE => ?_) ?_
      · obtain ⟨(f_17 : a.eval (.tmp 17) = .bool (decide ((x254.length : Int) = 0))), c_20, -⟩ := hf
        exact sg_plain rfl rfl (or_or f_17 rfl (fun hx => c_20.1 hx) (osome hx310).symm)
      exact steps_nil
    intro own311 a311 w311 hd311 hz311 hk311 hf311 hE311
    have e311_0 : a311.eval (.tmp 0) = .slice A252 x254.length c253 := (hk311 0 rfl).trans e307_0
    have e311_1 : a311.eval (.tmp 1) = .slice A255 b257.length c256 := (hk311 1 rfl).trans e307_1
    have e311_2 : a311.eval (.tmp 2) = .func (.func 36) #[] #[.pointer (some ⟨gahead3_0, 0, none⟩)] := (hk311 2 rfl).trans e307_2
    have e311_7 : a311.eval (.tmp 7) = .slice A258 out260.length c259 := (hk311 7 rfl).trans e307_7
    obtain ⟨(f_21 : a311.eval (.tmp 21) = .bool x310), -⟩ := hf311 [7] rfl
    have e311_21 := f_21
    have hX311 := Evo.step hE307 (fun _ => Nat.le_refl 0) hE311 rfl
    have b311_A252 := RdO.evo rfl hE311 b307_A252
    have b311_A255 := RdO.evo rfl hE311 b307_A255
    have b311_gahead3_0 := BlkO.evo (by decide) hE311 b307_gahead3_0
    have b311_Aahead3_0_0 := RdO.evo rfl hE311 b307_Aahead3_0_0
    have b311_A258 := RwO.evo rfl hE311 b307_A258
    refine fl_cond e311_21 hs (fun c312 hs => ?_) (fun c312 hs => ?_)
    · obtain ⟨x313, hx313, hs⟩ := obind hs
      obtain ⟨x316, hx316, hs⟩ := obind hs
      refine rg_plain_seq (n := 51) (rs := [Fct.rowAt 261 [] 3 R3 A258 c259 out260]) (own0 := own311) (K := [261, 314])
          (bs := [0, 0, 3, 0, 15, 31])
          (ds := [⟨[], [7], [], Fct.val 22 (.slice A258 out260.length c259)⟩,
          ⟨[], [0], [], Fct.val 23 (.slice A252 x254.length c253)⟩,
          ⟨[0, 1, 6], [], [261], Fct.row 314 [] 24 3 R3 x313⟩,
          ⟨[], [1], [], Fct.val 25 (.slice A255 b257.length c256)⟩,
          ⟨[2, 3], [], [314], Fct.row 317 [] 26 3 R3 x316⟩,
          ⟨[4], [], [], Fct.rel [6, 26] (fun l => ∀ (A318 : Option Addr) (cA318 : Nat), l.getD 1 undef = .slice A318 x316.length cA318 → l.getD 0 undef = .slice A318 x316.length cA318)⟩]) (by kernel_rfl) hz311 hd311 (by simp only [List.forall_mem_cons]; exact ⟨b311_A258, fun _ h => nomatch h⟩) ?_ ?_
      · refine steps_cons (fun own a wx hf hsl hE => ?_) ?_
        · obtain ⟨s_7, -⟩ := hsl
          exact sg_plain rfl rfl (or_move (s_7.trans e311_7))
        refine steps_cons (fun own a wx hf hsl hE => ?_) ?_
        · obtain ⟨s_0, -⟩ := hsl
          exact sg_plain rfl rfl (or_move (s_0.trans e311_0))
        refine steps_cons (fun own a wx hf hsl hE => ?_) ?_
        · obtain ⟨(f_22 : a.eval (.tmp 22) = .slice A258 out260.length c259), (f_23 : a.eval (.tmp 23) = .slice A252 x254.length c253), (b_A258 : RwO own 261 [] wx 3 R3 A258 c259 out260), -⟩ := hf
          exact sg_plain rfl rfl (or_append (R := R3) (lab := 261) (lab2 := 314) (L := []) (L3 := []) tp22 f_22 b_A258 (by decide) f_23 (RdO.evo rfl hE b311_A252) hx313 (by decide) (by decide) (mem_of rfl) (.inl (Rep.fl_flat _)))
        refine steps_cons (fun own a wx hf hsl hE => ?_) ?_
        · obtain ⟨s_1, -⟩ := hsl
          exact sg_plain rfl rfl (or_move (s_1.trans e311_1))
        refine steps_cons (fun own a wx hf hsl hE => ?_) ?_
        · obtain ⟨⟨⟨A315, cA315⟩, (f_24 : a.eval (.tmp 24) = .slice A315 x313.length cA315), (b_A315 : RwO own 314 [] wx 3 R3 A315 cA315 x313)⟩, (f_25 : a.eval (.tmp 25) = .slice A255 b257.length c256), -⟩ := hf
          exact sg_plain rfl rfl (or_append (R := R3) (lab := 314) (lab2 := 317) (L := []) (L3 := []) tp22 f_24 b_A315 (by decide) f_25 (RdO.evo rfl hE b311_A255) hx316 (by decide) (by decide) (mem_of rfl) (.inl (Rep.fl_flat _)))
        refine steps_cons (fun own a wx hf hsl hE => ?_) ?_
        · obtain ⟨⟨⟨A318, cA318⟩, (f_26 : a.eval (.tmp 26) = .slice A318 x316.length cA318), (b_A318 : RwO own 317 [] wx 3 R3 A318 cA318 x316)⟩, -⟩ := hf
          exact sg_plain rfl rfl (or_mono (f := Fct.val 6 (.slice A318 x316.length cA318)) (or_assign f_26) (fun own' a' w' v' hp h => fun _ _ h0' => by cases (f_26.symm.trans ((hp.2 26 (by decide)).symm.trans h0')); exact h))
        exact steps_nil
      intro own319 a319 w319 hd319 hz319 hk319 hf319 hE319
      obtain ⟨⟨⟨A318, cA318⟩, (f_26 : a319.eval (.tmp 26) = .slice A318 x316.length cA318), (b_A318 : RwO own319 317 [] w319 3 R3 A318 cA318 x316)⟩, (q_6 : ∀ (A318 : Option Addr) (cA318 : Nat), a319.eval (.tmp 26) = .slice A318 x316.length cA318 → a319.eval (.tmp 6) = .slice A318 x316.length cA318), -⟩ := hf319 [4, 5] rfl
      have f_6 := q_6 _ _ f_26
      have e319_6 := f_6
      have hX319 := Evo.step hX311 (fun _ => Nat.le_refl 0) hE319 rfl
      have b319_A318 := b_A318
      refine fl_ret ?_
      refine hp309 _ _ _ rfl ?_
      replace hs := hz306 _ hs
      refine hp306.leaves _ _ _ rfl ?_
      obtain rfl := (osome hs).symm
      exact hret _ _ _ _ (.inl rfl) hd319 (results1_ rfl (RVal.tmp_ e319_6)) ⟨(rl [(317, 1)] own319), (A318, cA318), rfl, (Evo.rl_ hX319 (fun _ => Nat.le_refl 0) rfl), (RwO.rl_ (mm := [(317, 1)]) b319_A318)⟩
    refine fl_skip ?_
    refine hn309 _ _ ?_
    refine fl_seq (fun Q320 hn320 hp320 => ?_)
    obtain ⟨x321, hx321, hs⟩ := obind hs
    obtain ⟨x322, hx322, hs⟩ := obind hs
    obtain ⟨r323, hr323, hs⟩ := obind hs
    refine rg_draw_seq g_mixed (n := 51) (rs := []) (own0 := own311) (K := [])
        (bs := [0, 0, 2, 6, 0, 16, 48, 127])
        (ds := [⟨[], [2], [], Fct.val 27 (.func (.func 36) #[] #[.pointer (some ⟨gahead3_0, 0, none⟩)])⟩,
        ⟨[], [1], [], Fct.val 28 (.slice A255 b257.length c256)⟩,
        ⟨[1], [], [], Fct.val 29 (.pointer (some ((adr A255).add ((0 : Int).toNat * R3.s))))⟩,
        ⟨[2], [], [], Fct.val 30 (.int .i64 x321)⟩,
        ⟨[], [0], [], Fct.val 31 (.slice A252 x254.length c253)⟩,
        ⟨[4], [], [], Fct.val 32 (.pointer (some ((adr A252).add ((0 : Int).toNat * R3.s))))⟩,
        ⟨[5], [], [], Fct.val 33 (.int .i64 x322)⟩,
        ⟨[0, 3, 6], [], [], Fct.val 34 (.bool r323)⟩]) (by kernel_rfl) hz311 hd311 (fun _ h => nomatch h) ?_ ?_
    · refine steps_cons (fun own a wx hf hsl hE => ?_) ?_
      · obtain ⟨s_2, -⟩ := hsl
        exact sg_plain rfl rfl (or_move (s_2.trans e311_2))
      refine steps_cons (fun own a wx hf hsl hE => ?_) ?_
      · obtain ⟨s_1, -⟩ := hsl
        exact sg_plain rfl rfl (or_move (s_1.trans e311_1))
      refine steps_cons (fun own a wx hf hsl hE => ?_) ?_
      · obtain ⟨(f_28 : a.eval (.tmp 28) = .slice A255 b257.length c256), -⟩ := hf
        exact sg_plain rfl rfl (or_index (R := R3) (l := b257) tl22 f_28 rfl (RdO.some_ b311_A255 hx321) hx321)
      refine steps_cons (fun own a wx hf hsl hE => ?_) ?_
      · obtain ⟨(f_29 : a.eval (.tmp 29) = .pointer (some ((adr A255).add ((0 : Int).toNat * R3.s)))), -⟩ := hf
        exact sg_plain rfl rfl (or_load1 to3 f_29 (CellsAt.zero (RdO.cells (F := E3) (RdO.evo rfl hE b311_A255) hx321) rfl))
      refine steps_cons (fun own a wx hf hsl hE => ?_) ?_
      · obtain ⟨s_0, -⟩ := hsl
        exact sg_plain rfl rfl (or_move (s_0.trans e311_0))
      refine steps_cons (fun own a wx hf hsl hE => ?_) ?_
      · obtain ⟨(f_31 : a.eval (.tmp 31) = .slice A252 x254.length c253), -⟩ := hf
        exact sg_plain rfl rfl (or_index (R := R3) (l := x254) tl22 f_31 rfl (RdO.some_ b311_A252 hx322) hx322)
      refine steps_cons (fun own a wx hf hsl hE => ?_) ?_
      · obtain ⟨(f_32 : a.eval (.tmp 32) = .pointer (some ((adr A252).add ((0 : Int).toNat * R3.s)))), -⟩ := hf
        exact sg_plain rfl rfl (or_load1 to3 f_32 (CellsAt.zero (RdO.cells (F := E3) (RdO.evo rfl hE b311_A252) hx322) rfl))
      refine steps_cons (fun own a wx hf hsl hE => ?_) ?_
      · obtain ⟨(f_27 : a.eval (.tmp 27) = .func (.func 36) #[] #[.pointer (some ⟨gahead3_0, 0, none⟩)]), (f_30 : a.eval (.tmp 30) = .int .i64 x321), (f_33 : a.eval (.tmp 33) = .int .i64 x322), -⟩ := hf
        exact sg_plain rfl rfl (or_callf cf36 f_27 (args2 f_30 f_33) rfl (order_Rows_1_w _ x321 x322 ahead3_0 gahead3_0 tahead3_0 Aahead3_0_0 cahead3_0_0 (BlkO.zero_ (BlkO.evo (by decide) hE b311_gahead3_0)) (RdO.zero (RdO.evo rfl hE b311_Aahead3_0_0)) r323 hr323) post_val)
      exact steps_nil
    intro own324 a324 w324 hd324 hz324 hk324 hf324 hE324
    have e324_0 : a324.eval (.tmp 0) = .slice A252 x254.length c253 := (hk324 0 rfl).trans e311_0
    have e324_1 : a324.eval (.tmp 1) = .slice A255 b257.length c256 := (hk324 1 rfl).trans e311_1
    have e324_2 : a324.eval (.tmp 2) = .func (.func 36) #[] #[.pointer (some ⟨gahead3_0, 0, none⟩)] := (hk324 2 rfl).trans e311_2
    have e324_7 : a324.eval (.tmp 7) = .slice A258 out260.length c259 := (hk324 7 rfl).trans e311_7
    obtain ⟨(f_34 : a324.eval (.tmp 34) = .bool r323), -⟩ := hf324 [7] rfl
    have e324_34 := f_34
    have hX324 := Evo.step hX311 (fun _ => Nat.le_refl 0) hE324 rfl
    have b324_A252 := RdO.evo rfl hE324 b311_A252
    have b324_A255 := RdO.evo rfl hE324 b311_A255
    have b324_gahead3_0 := BlkO.evo (by decide) hE324 b311_gahead3_0
    have b324_Aahead3_0_0 := RdO.evo rfl hE324 b311_Aahead3_0_0
    have b324_A258 := RwO.evo rfl hE324 b311_A258
    refine fl_cond e324_34 hs (fun c325 hs => ?_) (fun c325 hs => ?_)
    · obtain ⟨x329, hx329, hs⟩ := obind hs
      obtain ⟨x332, hx332, hs⟩ := obind hs
      obtain ⟨x335, hx335, hs⟩ := obind hs
      refine rg_draw_seq g_mixed (n := 51) (rs := [Fct.rowAt 261 [] 3 R3 A258 c259 out260]) (own0 := own324) (K := [261])
          (bs := [0, 0, 2, 6, 14, 31, 0, 64, 63, 511])
          (ds := [⟨[], [7], [], Fct.val 35 (.slice A258 out260.length c259)⟩,
          ⟨[], [1], [], Fct.val 36 (.slice A255 b257.length c256)⟩,
          ⟨[1], [], [], Fct.val 37 (.pointer (some ((adr A255).add ((0 : Int).toNat * R3.s))))⟩,
          ⟨[2], [], [], Fct.val 38 (.int .i64 x329)⟩,
          ⟨[3], [], [], Fct.row 331 [] 39 3 R3 [x329]⟩,
          ⟨[0, 4, 10], [], [261], Fct.row 333 [] 40 3 R3 x332⟩,
          ⟨[], [1], [], Fct.val 41 (.slice A255 b257.length c256)⟩,
          ⟨[6], [], [], Fct.view [0] 42 R3 x335⟩,
          ⟨[5], [], [], Fct.rel [7, 40] (fun l => ∀ (A334 : Option Addr) (cA334 : Nat), l.getD 1 undef = .slice A334 x332.length cA334 → l.getD 0 undef = .slice A334 x332.length cA334)⟩,
          ⟨[7], [], [], Fct.rel [1, 42] (fun l => ∀ (A336 : Option Addr) (cA336 : Nat), l.getD 1 undef = .slice A336 x335.length cA336 → l.getD 0 undef = .slice A336 x335.length cA336)⟩]) (by kernel_rfl) hz324 hd324 (by simp only [List.forall_mem_cons]; exact ⟨b324_A258, fun _ h => nomatch h⟩) ?_ ?_
      · refine steps_cons (fun own a wx hf hsl hE => ?_) ?_
        · obtain ⟨s_7, -⟩ := hsl
          exact sg_plain rfl rfl (or_move (s_7.trans e324_7))
        refine steps_cons (fun own a wx hf hsl hE => ?_) ?_
        · obtain ⟨s_1, -⟩ := hsl
          exact sg_plain rfl rfl (or_move (s_1.trans e324_1))
        refine steps_cons (fun own a wx hf hsl hE => ?_) ?_
        · obtain ⟨(f_36 : a.eval (.tmp 36) = .slice A255 b257.length c256), -⟩ := hf
          exact sg_plain rfl rfl (or_index (R := R3) (l := b257) tl22 f_36 rfl (RdO.some_ b324_A255 hx329) hx329)
        refine steps_cons (fun own a wx hf hsl hE => ?_) ?_
        · obtain ⟨(f_37 : a.eval (.tmp 37) = .pointer (some ((adr A255).add ((0 : Int).toNat * R3.s)))), -⟩ := hf
          exact sg_plain rfl rfl (or_load1 to3 f_37 (CellsAt.zero (RdO.cells (F := E3) (RdO.evo rfl hE b324_A255) hx329) rfl))
        refine steps_cons (fun own a wx hf hsl hE => ?_) ?_
        · obtain ⟨(f_38 : a.eval (.tmp 38) = .int .i64 x329), -⟩ := hf
          exact sg_plain rfl rfl (or_lit (lab := 331) (e := 3) (cs := #[.int .i64 x329]) (F := E3) (or_new [(38, .int .i64 x329)] rfl rfl ⟨f_38, trivial⟩ (by kernel_rfl)) rfl rfl (show 1 ≤ maxLen by decide))
        refine steps_cons (fun own a wx hf hsl hE => ?_) ?_
        · obtain ⟨(f_35 : a.eval (.tmp 35) = .slice A258 out260.length c259), ⟨⟨A330, cA330⟩, (f_39 : a.eval (.tmp 39) = .slice A330 [x329].length cA330), (b_A330 : RwO own 331 [] wx 3 R3 A330 cA330 [x329])⟩, (b_A258 : RwO own 261 [] wx 3 R3 A258 c259 out260), -⟩ := hf
          exact sg_plain rfl rfl (or_append (R := R3) (lab := 261) (lab2 := 333) (L := []) (L3 := []) tp22 f_35 b_A258 (by decide) f_39 (RwO.rd b_A330) hx332 (by decide) (by decide) (mem_of rfl) (.inl (Rep.fl_flat _)))
        refine steps_cons (fun own a wx hf hsl hE => ?_) ?_
        · obtain ⟨s_1, -⟩ := hsl
          exact sg_plain rfl rfl (or_move (s_1.trans e324_1))
        refine steps_cons (fun own a wx hf hsl hE => ?_) ?_
        · obtain ⟨(f_41 : a.eval (.tmp 41) = .slice A255 b257.length c256), -⟩ := hf
          exact sg_plain rfl rfl (or_view (R := R3) (l := b257) (L := [0]) tu22 ts3 f_41 (Bnd.some_ rfl) Bnd.none_ Bnd.none_ (RdO.evo rfl hE b324_A255) hx335 (.inl rfl) (by simp))
        refine steps_cons (fun own a wx hf hsl hE => ?_) ?_
        · obtain ⟨⟨⟨A334, cA334⟩, (f_40 : a.eval (.tmp 40) = .slice A334 x332.length cA334), (b_A334 : RwO own 333 [] wx 3 R3 A334 cA334 x332)⟩, -⟩ := hf
          exact sg_plain rfl rfl (or_mono (f := Fct.val 7 (.slice A334 x332.length cA334)) (or_assign f_40) (fun own' a' w' v' hp h => fun _ _ h0' => by cases (f_40.symm.trans ((hp.2 40 (by decide)).symm.trans h0')); exact h))
        refine steps_cons (fun own a wx hf hsl hE => ?_) ?_
        · obtain ⟨⟨⟨A336, cA336⟩, (f_42 : a.eval (.tmp 42) = .slice A336 x335.length cA336), (b_A336 : RdO own [0] wx R3 A336 cA336 x335)⟩, -⟩ := hf
          exact sg_plain rfl rfl (or_mono (f := Fct.val 1 (.slice A336 x335.length cA336)) (or_assign f_42) (fun own' a' w' v' hp h => fun _ _ h0' => by cases (f_42.symm.trans ((hp.2 42 (by decide)).symm.trans h0')); exact h))
        exact steps_nil
      intro own337 a337 w337 hd337 hz337 hk337 hf337 hE337
      have e337_0 : a337.eval (.tmp 0) = .slice A252 x254.length c253 := (hk337 0 rfl).trans e324_0
      have e337_2 : a337.eval (.tmp 2) = .func (.func 36) #[] #[.pointer (some ⟨gahead3_0, 0, none⟩)] := (hk337 2 rfl).trans e324_2
      obtain ⟨⟨⟨A334, cA334⟩, (f_40 : a337.eval (.tmp 40) = .slice A334 x332.length cA334), (b_A334 : RwO own337 333 [] w337 3 R3 A334 cA334 x332)⟩, (q_7 : ∀ (A334 : Option Addr) (cA334 : Nat), a337.eval (.tmp 40) = .slice A334 x332.length cA334 → a337.eval (.tmp 7) = .slice A334 x332.length cA334), ⟨⟨A336, cA336⟩, (f_42 : a337.eval (.tmp 42) = .slice A336 x335.length cA336), (b_A336 : RdO own337 [0] w337 R3 A336 cA336 x335)⟩, (q_1 : ∀ (A336 : Option Addr) (cA336 : Nat), a337.eval (.tmp 42) = .slice A336 x335.length cA336 → a337.eval (.tmp 1) = .slice A336 x335.length cA336), -⟩ := hf337 [5, 8, 7, 9] rfl
      have f_7 := q_7 _ _ f_40
      have f_1 := q_1 _ _ f_42
      have e337_7 := f_7
      have e337_1 := f_1
      have hX337 := Evo.step hX324 (fun _ => Nat.le_refl 0) hE337 rfl
      have b337_A252 := RdO.evo rfl hE337 b324_A252
      have b337_gahead3_0 := BlkO.evo (by decide) hE337 b324_gahead3_0
      have b337_Aahead3_0_0 := RdO.evo rfl hE337 b324_Aahead3_0_0
      have b337_A334 := b_A334
      have b337_A336 := b_A336
      refine fl_goto ?_
      refine hp320 _ _ _ rfl ?_
      exact hj306 (x254, x335, x332) _ _ hs ⟨(rl [(333, 261)] own337), A252, c253, A336, cA336, A334, cA334, hd337, hz337, e337_0, e337_1, e337_2, e337_7, (Evo.rl_ hX337 (fun _ => Nat.le_refl 0) rfl), (RdO.rl_ (mm := [(333, 261)]) b337_A252), (RdO.rl_ (mm := [(333, 261)]) b337_A336), (BlkO.rl_ (mm := [(333, 261)]) b337_gahead3_0), (RdO.rl_ (mm := [(333, 261)]) b337_Aahead3_0_0), (RwO.rl_ (mm := [(333, 261)]) b337_A334)⟩
    refine fl_skip ?_
    refine hn320 _ _ ?_
    obtain ⟨x341, hx341, hs⟩ := obind hs
    obtain ⟨x344, hx344, hs⟩ := obind hs
    obtain ⟨x347, hx347, hs⟩ := obind hs
    refine rg_draw_seq g_mixed (n := 51) (rs := [Fct.rowAt 261 [] 3 R3 A258 c259 out260]) (own0 := own324) (K := [261])
        (bs := [0, 0, 2, 6, 14, 31, 0, 64, 63, 511])
        (ds := [⟨[], [7], [], Fct.val 43 (.slice A258 out260.length c259)⟩,
        ⟨[], [0], [], Fct.val 44 (.slice A252 x254.length c253)⟩,
        ⟨[1], [], [], Fct.val 45 (.pointer (some ((adr A252).add ((0 : Int).toNat * R3.s))))⟩,
        ⟨[2], [], [], Fct.val 46 (.int .i64 x341)⟩,
        ⟨[3], [], [], Fct.row 343 [] 47 3 R3 [x341]⟩,
        ⟨[0, 4, 10], [], [261], Fct.row 345 [] 48 3 R3 x344⟩,
        ⟨[], [0], [], Fct.val 49 (.slice A252 x254.length c253)⟩,
        ⟨[6], [], [], Fct.view [0] 50 R3 x347⟩,
        ⟨[5], [], [], Fct.rel [7, 48] (fun l => ∀ (A346 : Option Addr) (cA346 : Nat), l.getD 1 undef = .slice A346 x344.length cA346 → l.getD 0 undef = .slice A346 x344.length cA346)⟩,
        ⟨[7], [], [], Fct.rel [0, 50] (fun l => ∀ (A348 : Option Addr) (cA348 : Nat), l.getD 1 undef = .slice A348 x347.length cA348 → l.getD 0 undef = .slice A348 x347.length cA348)⟩]) (by kernel_rfl) hz324 hd324 (by simp only [List.forall_mem_cons]; exact ⟨b324_A258, fun _ h => nomatch h⟩) ?_ ?_
    · refine steps_cons (fun own a wx hf hsl hE => ?_) ?_
      · obtain ⟨s_7, -⟩ := hsl
        exact sg_plain rfl rfl (or_move (s_7.trans e324_7))
      refine steps_cons (fun own a wx hf hsl hE => ?_) ?_
      · obtain ⟨s_0, -⟩ := hsl
        exact sg_plain rfl rfl (or_move (s_0.trans e324_0))
      refine steps_cons (fun own a wx hf hsl hE => ?_) ?_
      · obtain ⟨(f_44 : a.eval (.tmp 44) = .slice A252 x254.length c253), -⟩ := hf
        exact sg_plain rfl rfl (or_index (R := R3) (l := x254) tl22 f_44 rfl (RdO.some_ b324_A252 hx341) hx341)
      refine steps_cons (fun own a wx hf hsl hE => ?_) ?_
      · obtain ⟨(f_45 : a.eval (.tmp 45) = .pointer (some ((adr A252).add ((0 : Int).toNat * R3.s)))), -⟩ := hf
        exact sg_plain rfl rfl (or_load1 to3 f_45 (CellsAt.zero (RdO.cells (F := E3) (RdO.evo rfl hE b324_A252) hx341) rfl))
      refine steps_cons (fun own a wx hf hsl hE => ?_) ?_
      · obtain ⟨(f_46 : a.eval (.tmp 46) = .int .i64 x341), -⟩ := hf
        exact sg_plain rfl rfl (or_lit (lab := 343) (e := 3) (cs := #[.int .i64 x341]) (F := E3) (or_new [(46, .int .i64 x341)] rfl rfl ⟨f_46, trivial⟩ (by kernel_rfl)) rfl rfl (show 1 ≤ maxLen by decide))
      refine steps_cons (fun own a wx hf hsl hE => ?_) ?_
      · obtain ⟨(f_43 : a.eval (.tmp 43) = .slice A258 out260.length c259), ⟨⟨A342, cA342⟩, (f_47 : a.eval (.tmp 47) = .slice A342 [x341].length cA342), (b_A342 : RwO own 343 [] wx 3 R3 A342 cA342 [x341])⟩, (b_A258 : RwO own 261 [] wx 3 R3 A258 c259 out260), -⟩ := hf
        exact sg_plain rfl rfl (or_append (R := R3) (lab := 261) (lab2 := 345) (L := []) (L3 := []) tp22 f_43 b_A258 (by decide) f_47 (RwO.rd b_A342) hx344 (by decide) (by decide) (mem_of rfl) (.inl (Rep.fl_flat _)))
      refine steps_cons (fun own a wx hf hsl hE => ?_) ?_
      · obtain ⟨s_0, -⟩ := hsl
        exact sg_plain rfl rfl (or_move (s_0.trans e324_0))
      refine steps_cons (fun own a wx hf hsl hE => ?_) ?_
      · obtain ⟨(f_49 : a.eval (.tmp 49) = .slice A252 x254.length c253), -⟩ := hf
        exact sg_plain rfl rfl (or_view (R := R3) (l := x254) (L := [0]) tu22 ts3 f_49 (Bnd.some_ rfl) Bnd.none_ Bnd.none_ (RdO.evo rfl hE b324_A252) hx347 (.inl rfl) (by simp))
      refine steps_cons (fun own a wx hf hsl hE => ?_) ?_
      · obtain ⟨⟨⟨A346, cA346⟩, (f_48 : a.eval (.tmp 48) = .slice A346 x344.length cA346), (b_A346 : RwO own 345 [] wx 3 R3 A346 cA346 x344)⟩, -⟩ := hf
        exact sg_plain rfl rfl (or_mono (f := Fct.val 7 (.slice A346 x344.length cA346)) (or_assign f_48) (fun own' a' w' v' hp h => fun _ _ h0' => by cases (f_48.symm.trans ((hp.2 48 (by decide)).symm.trans h0')); exact h))
      refine steps_cons (fun own a wx hf hsl hE => ?_) ?_
      · obtain ⟨⟨⟨A348, cA348⟩, (f_50 : a.eval (.tmp 50) = .slice A348 x347.length cA348), (b_A348 : RdO own [0] wx R3 A348 cA348 x347)⟩, -⟩ := hf
        exact sg_plain rfl rfl (or_mono (f := Fct.val 0 (.slice A348 x347.length cA348)) (or_assign f_50) (fun own' a' w' v' hp h => fun _ _ h0' => by cases (f_50.symm.trans ((hp.2 50 (by decide)).symm.trans h0')); exact h))
      exact steps_nil
    intro own349 a349 w349 hd349 hz349 hk349 hf349 hE349
    have e349_1 : a349.eval (.tmp 1) = .slice A255 b257.length c256 := (hk349 1 rfl).trans e324_1
    have e349_2 : a349.eval (.tmp 2) = .func (.func 36) #[] #[.pointer (some ⟨gahead3_0, 0, none⟩)] := (hk349 2 rfl).trans e324_2
    obtain ⟨⟨⟨A346, cA346⟩, (f_48 : a349.eval (.tmp 48) = .slice A346 x344.length cA346), (b_A346 : RwO own349 345 [] w349 3 R3 A346 cA346 x344)⟩, (q_7 : ∀ (A346 : Option Addr) (cA346 : Nat), a349.eval (.tmp 48) = .slice A346 x344.length cA346 → a349.eval (.tmp 7) = .slice A346 x344.length cA346), ⟨⟨A348, cA348⟩, (f_50 : a349.eval (.tmp 50) = .slice A348 x347.length cA348), (b_A348 : RdO own349 [0] w349 R3 A348 cA348 x347)⟩, (q_0 : ∀ (A348 : Option Addr) (cA348 : Nat), a349.eval (.tmp 50) = .slice A348 x347.length cA348 → a349.eval (.tmp 0) = .slice A348 x347.length cA348), -⟩ := hf349 [5, 8, 7, 9] rfl
    have f_7 := q_7 _ _ f_48
    have f_0 := q_0 _ _ f_50
    have e349_7 := f_7
    have e349_0 := f_0
    have hX349 := Evo.step hX324 (fun _ => Nat.le_refl 0) hE349 rfl
    have b349_A255 := RdO.evo rfl hE349 b324_A255
    have b349_gahead3_0 := BlkO.evo (by decide) hE349 b324_gahead3_0
    have b349_Aahead3_0_0 := RdO.evo rfl hE349 b324_Aahead3_0_0
    have b349_A346 := b_A346
    have b349_A348 := b_A348
    refine fl_goto ?_
    exact hj306 (x347, b257, x344) _ _ hs ⟨(rl [(345, 261)] own349), A348, cA348, A255, c256, A346, cA346, hd349, hz349, e349_0, e349_1, e349_2, e349_7, (Evo.rl_ hX349 (fun _ => Nat.le_refl 0) rfl), (RdO.rl_ (mm := [(345, 261)]) b349_A348), (RdO.rl_ (mm := [(345, 261)]) b349_A255), (BlkO.rl_ (mm := [(345, 261)]) b349_gahead3_0), (RdO.rl_ (mm := [(345, 261)]) b349_Aahead3_0_0), (RwO.rl_ (mm := [(345, 261)]) b349_A346)⟩

theorem order_sorted_int_Rows_1_w (w : World) (l1 : List Int) (Al1 : Option Addr) (cl1 : Nat) (ahead2_0 : List (List Int)) (gahead2_0 : Nat) (tahead2_0 : TypeId) (Aahead2_0_0 : Option Addr) (cahead2_0_0 : Nat) (hl1 : RdO (fun _ => 0) [0] w R3 Al1 cl1 l1) (hgahead2_0 : BlkO (fun _ => 0) 0 w gahead2_0 tahead2_0 #[.slice Aahead2_0_0 ahead2_0.length cahead2_0_0]) (hAahead2_0_0 : RdO (fun _ => 0) [0] w R22 Aahead2_0_0 cahead2_0_0 ahead2_0) (r : List Int) (hs : order_sorted_int_Rows_1 l1 ahead2_0 = some r) :
    Calls Try.prog 35 #[.slice Al1 l1.length cl1, .func (.func 36) #[] #[.pointer (some ⟨gahead2_0, 0, none⟩)]] w fun e w' => ∃ (own' : Own) (x : Option Addr × Nat), e = .returned (.slice x.1 r.length x.2) ∧ Evo [] (fun _ => 0) own' w w' ∧ RwO own' 1 [] w' 3 R3 x.1 x.2 r := by
  refine fl_enter (n := 54) rfl rfl rfl (Nat.le_of_ble_eq_true rfl) ?_
  intro a0 Q hd0 hz0 harg hret
  have ha0 := harg 0 _ rfl
  have ha1 := harg 1 _ rfl
  clear harg
  have hE0 : Evo [] (fun _ => 0) (fun _ => 0) w w := Evo.refl _ _ _
  refine rg_plain_seq (n := 54) (rs := []) (own0 := (fun _ => 0)) (K := [])
      (bs := [0])
      (ds := [⟨[], [], [], Fct.val 4 (.slice none 0 0)⟩]) (by kernel_rfl) hz0 hd0 (fun _ h => nomatch h) ?_ ?_
  · refine steps_cons (fun own a wx hf hsl hE => ?_) ?_
    · exact sg_plain rfl rfl (or_assign rfl)
    exact steps_nil
  intro own339 a339 w339 hd339 hz339 hk339 hf339 hE339
  have e339_0 : a339.eval (.tmp 0) = .slice Al1 l1.length cl1 := (hk339 0 rfl).trans ha0
  have e339_1 : a339.eval (.tmp 1) = .func (.func 36) #[] #[.pointer (some ⟨gahead2_0, 0, none⟩)] := (hk339 1 rfl).trans ha1
  have hX339 := Evo.step hE0 (fun _ => Nat.le_refl 0) hE339 rfl
  have b339_Al1 := RdO.evo rfl hE339 hl1
  have b339_Aahead2_0_0 := RdO.evo rfl hE339 hAahead2_0_0
  have b339_gahead2_0 := BlkO.evo (by decide) hE339 hgahead2_0
  obtain ⟨r340, hr340, hs⟩ := obind hs
  refine rg_plain_seq (n := 54) (rs := []) (own0 := own339) (K := [])
      (bs := [0, 1, 3])
      (ds := [⟨[], [0], [], Fct.val 9 (.slice Al1 l1.length cl1)⟩,
      ⟨[0], [], [], Fct.row 342 [] 10 3 R3 r340⟩,
      ⟨[1], [], [], Fct.rel [5, 10] (fun l => ∀ (A341 : Option Addr) (cA341 : Nat), l.getD 1 undef = .slice A341 r340.length cA341 → l.getD 0 undef = .slice A341 r340.length cA341)⟩]) (by kernel_rfl) hz339 hd339 (fun _ h => nomatch h) ?_ ?_
  · refine steps_cons (fun own a wx hf hsl hE => ?_) ?_
    · obtain ⟨s_0, -⟩ := hsl
      exact sg_plain rfl rfl (or_move (s_0.trans e339_0))
    refine steps_cons (fun own a wx hf hsl hE => ?_) ?_
    · obtain ⟨(f_9 : a.eval (.tmp 9) = .slice Al1 l1.length cl1), -⟩ := hf
      exact sg_plain rfl rfl (or_call cf42 (args1 f_9) (slices_Clone_int_int_w _ l1 Al1 cl1 (RdO.zero (RdO.evo rfl hE b339_Al1)) r340 hr340) (post_row (m' := (look0 [(1, 342)])) (.inl (Rep.fl_flat _)) rfl rfl (fun _ => rfl)))
    refine steps_cons (fun own a wx hf hsl hE => ?_) ?_
    · obtain ⟨⟨⟨A341, cA341⟩, (f_10 : a.eval (.tmp 10) = .slice A341 r340.length cA341), (b_A341 : RwO own 342 [] wx 3 R3 A341 cA341 r340)⟩, -⟩ := hf
      exact sg_plain rfl rfl (or_mono (f := Fct.val 5 (.slice A341 r340.length cA341)) (or_assign f_10) (fun own' a' w' v' hp h => fun _ _ h0' => by cases (f_10.symm.trans ((hp.2 10 (by decide)).symm.trans h0')); exact h))
    exact steps_nil
  intro own343 a343 w343 hd343 hz343 hk343 hf343 hE343
  have e343_1 : a343.eval (.tmp 1) = .func (.func 36) #[] #[.pointer (some ⟨gahead2_0, 0, none⟩)] := (hk343 1 rfl).trans e339_1
  obtain ⟨⟨⟨A341, cA341⟩, (f_10 : a343.eval (.tmp 10) = .slice A341 r340.length cA341), (b_A341 : RwO own343 342 [] w343 3 R3 A341 cA341 r340)⟩, (q_5 : ∀ (A341 : Option Addr) (cA341 : Nat), a343.eval (.tmp 10) = .slice A341 r340.length cA341 → a343.eval (.tmp 5) = .slice A341 r340.length cA341), -⟩ := hf343 [1, 2] rfl
  have f_5 := q_5 _ _ f_10
  have e343_5 := f_5
  have hX343 := Evo.step hX339 (fun _ => Nat.le_refl 0) hE343 rfl
  have b343_Aahead2_0_0 := RdO.evo rfl hE343 b339_Aahead2_0_0
  have b343_gahead2_0 := BlkO.evo (by decide) hE343 b339_gahead2_0
  have b343_A341 := b_A341
  refine fl_seq (fun Q344 hn344 hp344 => ?_)
  refine rg_plain_seq (n := 54) (rs := []) (own0 := own343) (K := [])
      (bs := [0])
      (ds := [⟨[], [], [], Fct.val 6 (.int .i64 1)⟩]) (by kernel_rfl) hz343 hd343 (fun _ h => nomatch h) ?_ ?_
  · refine steps_cons (fun own a wx hf hsl hE => ?_) ?_
    · exact sg_plain rfl rfl (or_assign rfl)
    exact steps_nil
  intro own345 a345 w345 hd345 hz345 hk345 hf345 hE345
  have e345_1 : a345.eval (.tmp 1) = .func (.func 36) #[] #[.pointer (some ⟨gahead2_0, 0, none⟩)] := (hk345 1 rfl).trans e343_1
  have e345_5 : a345.eval (.tmp 5) = .slice A341 r340.length cA341 := (hk345 5 rfl).trans e343_5
  obtain ⟨(f_6 : a345.eval (.tmp 6) = .int .i64 1), -⟩ := hf345 [0] rfl
  have e345_6 := f_6
  have hX345 := Evo.step hX343 (fun _ => Nat.le_refl 0) hE345 rfl
  have b345_Aahead2_0_0 := RdO.evo rfl hE345 b343_Aahead2_0_0
  have b345_gahead2_0 := BlkO.evo (by decide) hE345 b343_gahead2_0
  have b345_A341 := RwO.evo rfl hE345 b343_A341
  refine fl_block (fun Q346 hn346 hx346 hp346 => ?_)
  refine fl_loop (body := (fun s => order_sorted_int_Rows_1_b1 ahead2_0 s.1 s.2)) (z := r) (show loopO _ _ = _ from hs) (fun (s : (List Int) × Int) a wx => match s with | (out450, run452) => ∃ (ox : Own), a.defers = [] ∧ a.tmps.size = 54 ∧ a.eval (.tmp 1) = .func (.func 36) #[] #[.pointer (some ⟨gahead2_0, 0, none⟩)] ∧ a.eval (.tmp 5) = .slice A341 out450.length cA341 ∧ a.eval (.tmp 6) = .int .i64 run452 ∧ Evo [] (fun _ => 0) ox w wx ∧ BlkO ox 0 wx gahead2_0 tahead2_0 #[.slice Aahead2_0_0 ahead2_0.length cahead2_0_0] ∧ RdO ox [0] wx R22 Aahead2_0_0 cahead2_0_0 ahead2_0 ∧ RwO ox 451 [] wx 3 R3 A341 cA341 out450) ?_ ?_
  · exact ⟨(rl [(342, 451)] own345), hd345, hz345, e345_1, e345_5, e345_6, (Evo.rl_ hX345 (fun _ => Nat.le_refl 0) rfl), (BlkO.rl_ (mm := [(342, 451)]) b345_gahead2_0), (RdO.rl_ (mm := [(342, 451)]) b345_Aahead2_0_0), (RwO.rl_ (mm := [(342, 451)]) b345_A341)⟩
  · rintro ⟨out450, run452⟩ zz559 a559 w559 ⟨own559, hd560, hz560, e560_1, e560_5, e560_6, hE560, b560_gahead2_0, b560_Aahead2_0_0, b560_A341⟩ hs Q559 hn559 hp559 hz559
    have hs : order_sorted_int_Rows_1_b1 ahead2_0 out450 run452 = some zz559 := hs
    refine fl_seq (fun Q561 hn561 hp561 => ?_)
    refine rg_plain_seq (n := 54) (rs := []) (own0 := own559) (K := [])
        (bs := [0, 0, 2, 7])
        (ds := [⟨[], [6], [], Fct.val 11 (.int .i64 run452)⟩,
        ⟨[], [5], [], Fct.val 12 (.slice A341 out450.length cA341)⟩,
        ⟨[1], [], [], Fct.val 13 (.int .i64 (out450.length : Int))⟩,
        ⟨[0, 2], [], [], Fct.val 14 (.bool (decide (run452 < (out450.length : Int))))⟩]) (by kernel_rfl) hz560 hd560 (fun _ h => nomatch h) ?_ ?_
    · refine steps_cons (fun own a wx hf hsl hE => ?_) ?_
      · obtain ⟨s_6, -⟩ := hsl
        exact sg_plain rfl rfl (or_move (s_6.trans e560_6))
      refine steps_cons (fun own a wx hf hsl hE => ?_) ?_
      · obtain ⟨s_5, -⟩ := hsl
        exact sg_plain rfl rfl (or_move (s_5.trans e560_5))
      refine steps_cons (fun own a wx hf hsl hE => ?_) ?_
      · obtain ⟨(f_12 : a.eval (.tmp 12) = .slice A341 out450.length cA341), -⟩ := hf
        exact sg_plain rfl rfl (or_len tu22 f_12 rfl)
      refine steps_cons (fun own a wx hf hsl hE => ?_) ?_
      · obtain ⟨(f_11 : a.eval (.tmp 11) = .int .i64 run452), (f_13 : a.eval (.tmp 13) = .int .i64 (out450.length : Int)), -⟩ := hf
        exact sg_plain rfl rfl (or_lss f_11 f_13 rfl)
      exact steps_nil
    intro own562 a562 w562 hd562 hz562 hk562 hf562 hE562
    have e562_1 : a562.eval (.tmp 1) = .func (.func 36) #[] #[.pointer (some ⟨gahead2_0, 0, none⟩)] := (hk562 1 rfl).trans e560_1
    have e562_5 : a562.eval (.tmp 5) = .slice A341 out450.length cA341 := (hk562 5 rfl).trans e560_5
    have e562_6 : a562.eval (.tmp 6) = .int .i64 run452 := (hk562 6 rfl).trans e560_6
    obtain ⟨(f_14 : a562.eval (.tmp 14) = .bool (decide (run452 < (out450.length : Int)))), -⟩ := hf562 [3] rfl
    have e562_14 := f_14
    have hX562 := Evo.step hE560 (fun _ => Nat.le_refl 0) hE562 rfl
    have b562_gahead2_0 := BlkO.evo (by decide) hE562 b560_gahead2_0
    have b562_Aahead2_0_0 := RdO.evo rfl hE562 b560_Aahead2_0_0
    have b562_A341 := RwO.evo rfl hE562 b560_A341
    refine fl_cond e562_14 hs (fun c563 hs => ?_) (fun c563 hs => ?_)
    · refine fl_skip ?_
      refine hn561 _ _ ?_
      refine fl_seq (fun Q564 hn564 hp564 => ?_)
      refine fl_block (fun Q565 hn565 hx565 hp565 => ?_)
      refine rg_plain_seq (n := 54) (rs := []) (own0 := own562) (K := [])
          (bs := [0])
          (ds := [⟨[], [], [], Fct.val 7 (.int .i64 0)⟩]) (by kernel_rfl) hz562 hd562 (fun _ h => nomatch h) ?_ ?_
      · refine steps_cons (fun own a wx hf hsl hE => ?_) ?_
        · exact sg_plain rfl rfl (or_assign rfl)
        exact steps_nil
      intro own566 a566 w566 hd566 hz566 hk566 hf566 hE566
      have e566_1 : a566.eval (.tmp 1) = .func (.func 36) #[] #[.pointer (some ⟨gahead2_0, 0, none⟩)] := (hk566 1 rfl).trans e562_1
      have e566_5 : a566.eval (.tmp 5) = .slice A341 out450.length cA341 := (hk566 5 rfl).trans e562_5
      have e566_6 : a566.eval (.tmp 6) = .int .i64 run452 := (hk566 6 rfl).trans e562_6
      obtain ⟨(f_7 : a566.eval (.tmp 7) = .int .i64 0), -⟩ := hf566 [0] rfl
      have e566_7 := f_7
      have hX566 := Evo.step hX562 (fun _ => Nat.le_refl 0) hE566 rfl
      have b566_gahead2_0 := BlkO.evo (by decide) hE566 b562_gahead2_0
      have b566_Aahead2_0_0 := RdO.evo rfl hE566 b562_Aahead2_0_0
      have b566_A341 := RwO.evo rfl hE566 b562_A341
      refine fl_block (fun Q567 hn567 hx567 hp567 => ?_)
      refine fl_loop (body := (fun s => order_sorted_int_Rows_1_b2 ahead2_0 run452 s.1 s.2)) (z := zz559) (show loopO _ _ = _ from hs) (fun (s : (List Int) × Int) a wx => match s with | (out599, x601) => ∃ (ox : Own), a.defers = [] ∧ a.tmps.size = 54 ∧ a.eval (.tmp 1) = .func (.func 36) #[] #[.pointer (some ⟨gahead2_0, 0, none⟩)] ∧ a.eval (.tmp 5) = .slice A341 out599.length cA341 ∧ a.eval (.tmp 6) = .int .i64 run452 ∧ a.eval (.tmp 7) = .int .i64 x601 ∧ Evo [] (fun _ => 0) ox w wx ∧ BlkO ox 0 wx gahead2_0 tahead2_0 #[.slice Aahead2_0_0 ahead2_0.length cahead2_0_0] ∧ RdO ox [0] wx R22 Aahead2_0_0 cahead2_0_0 ahead2_0 ∧ RwO ox 600 [] wx 3 R3 A341 cA341 out599) ?_ ?_
      · exact ⟨(rl [(451, 600)] own566), hd566, hz566, e566_1, e566_5, e566_6, e566_7, (Evo.rl_ hX566 (fun _ => Nat.le_refl 0) rfl), (BlkO.rl_ (mm := [(451, 600)]) b566_gahead2_0), (RdO.rl_ (mm := [(451, 600)]) b566_Aahead2_0_0), (RwO.rl_ (mm := [(451, 600)]) b566_A341)⟩
      · rintro ⟨out599, x601⟩ zz633 a633 w633 ⟨own633, hd634, hz634, e634_1, e634_5, e634_6, e634_7, hE634, b634_gahead2_0, b634_Aahead2_0_0, b634_A341⟩ hs Q633 hn633 hp633 hz633
        have hs : order_sorted_int_Rows_1_b2 ahead2_0 run452 out599 x601 = some zz633 := hs
        refine fl_seq (fun Q635 hn635 hp635 => ?_)
        refine rg_plain_seq (n := 54) (rs := []) (own0 := own633) (K := [])
            (bs := [0, 0, 3, 0, 8, 31])
            (ds := [⟨[], [7], [], Fct.val 17 (.int .i64 x601)⟩,
            ⟨[], [6], [], Fct.val 18 (.int .i64 run452)⟩,
            ⟨[0, 1], [], [], Fct.val 19 (.int .i64 (ad x601 run452))⟩,
            ⟨[], [5], [], Fct.val 20 (.slice A341 out599.length cA341)⟩,
            ⟨[3], [], [], Fct.val 21 (.int .i64 (out599.length : Int))⟩,
            ⟨[2, 4], [], [], Fct.val 22 (.bool (decide ((ad x601 run452) < (out599.length : Int))))⟩]) (by kernel_rfl) hz634 hd634 (fun _ h => nomatch h) ?_ ?_
        · refine steps_cons (fun own a wx hf hsl hE => ?_) ?_
          · obtain ⟨s_7, -⟩ := hsl
            exact sg_plain rfl rfl (or_move (s_7.trans e634_7))
          refine steps_cons (fun own a wx hf hsl hE => ?_) ?_
          · obtain ⟨s_6, -⟩ := hsl
            exact sg_plain rfl rfl (or_move (s_6.trans e634_6))
          refine steps_cons (fun own a wx hf hsl hE => ?_) ?_
          · obtain ⟨(f_17 : a.eval (.tmp 17) = .int .i64 x601), (f_18 : a.eval (.tmp 18) = .int .i64 run452), -⟩ := hf
            exact sg_plain rfl rfl (or_add f_17 f_18 rfl)
          refine steps_cons (fun own a wx hf hsl hE => ?_) ?_
          · obtain ⟨s_5, -⟩ := hsl
            exact sg_plain rfl rfl (or_move (s_5.trans e634_5))
          refine steps_cons (fun own a wx hf hsl hE => ?_) ?_
          · obtain ⟨(f_20 : a.eval (.tmp 20) = .slice A341 out599.length cA341), -⟩ := hf
            exact sg_plain rfl rfl (or_len tu22 f_20 rfl)
          refine steps_cons (fun own a wx hf hsl hE => ?_) ?_
          · obtain ⟨(f_19 : a.eval (.tmp 19) = .int .i64 (ad x601 run452)), (f_21 : a.eval (.tmp 21) = .int .i64 (out599.length : Int)), -⟩ := hf
            exact sg_plain rfl rfl (or_lss f_19 f_21 rfl)
          exact steps_nil
        intro own636 a636 w636 hd636 hz636 hk636 hf636 hE636
        have e636_1 : a636.eval (.tmp 1) = .func (.func 36) #[] #[.pointer (some ⟨gahead2_0, 0, none⟩)] := (hk636 1 rfl).trans e634_1
        have e636_5 : a636.eval (.tmp 5) = .slice A341 out599.length cA341 := (hk636 5 rfl).trans e634_5
        have e636_6 : a636.eval (.tmp 6) = .int .i64 run452 := (hk636 6 rfl).trans e634_6
        have e636_7 : a636.eval (.tmp 7) = .int .i64 x601 := (hk636 7 rfl).trans e634_7
        obtain ⟨(f_22 : a636.eval (.tmp 22) = .bool (decide ((ad x601 run452) < (out599.length : Int)))), -⟩ := hf636 [5] rfl
        have e636_22 := f_22
        have hX636 := Evo.step hE634 (fun _ => Nat.le_refl 0) hE636 rfl
        have b636_gahead2_0 := BlkO.evo (by decide) hE636 b634_gahead2_0
        have b636_Aahead2_0_0 := RdO.evo rfl hE636 b634_Aahead2_0_0
        have b636_A341 := RwO.evo rfl hE636 b634_A341
        refine fl_cond e636_22 hs (fun c637 hs => ?_) (fun c637 hs => ?_)
        · refine fl_skip ?_
          refine hn635 _ _ ?_
          refine fl_seq (fun Q638 hn638 hp638 => ?_)
          refine fl_block (fun Q639 hn639 hx639 hp639 => ?_)
          obtain ⟨x640, hx640, hs⟩ := obind hs
          refine rg_plain_seq (n := 54) (rs := []) (own0 := own636) (K := [])
              (bs := [0, 0, 2, 7, 0, 16, 63, 127])
              (ds := [⟨[], [7], [], Fct.val 27 (.int .i64 x601)⟩,
              ⟨[], [6], [], Fct.val 28 (.int .i64 run452)⟩,
              ⟨[1], [], [], Fct.val 29 (.int .i64 (ml 2 run452))⟩,
              ⟨[0, 2], [], [], Fct.val 30 (.int .i64 (ad x601 (ml 2 run452)))⟩,
              ⟨[], [5], [], Fct.val 31 (.slice A341 out599.length cA341)⟩,
              ⟨[4], [], [], Fct.val 32 (.int .i64 (out599.length : Int))⟩,
              ⟨[3, 5], [], [], Fct.val 33 (.int .i64 x640)⟩,
              ⟨[6], [], [], Fct.val 8 (.int .i64 x640)⟩]) (by kernel_rfl) hz636 hd636 (fun _ h => nomatch h) ?_ ?_
          · refine steps_cons (fun own a wx hf hsl hE => ?_) ?_
            · obtain ⟨s_7, -⟩ := hsl
              exact sg_plain rfl rfl (or_move (s_7.trans e636_7))
            refine steps_cons (fun own a wx hf hsl hE => ?_) ?_
            · obtain ⟨s_6, -⟩ := hsl
              exact sg_plain rfl rfl (or_move (s_6.trans e636_6))
            refine steps_cons (fun own a wx hf hsl hE => ?_) ?_
            · obtain ⟨(f_28 : a.eval (.tmp 28) = .int .i64 run452), -⟩ := hf
              exact sg_plain rfl rfl (or_mul rfl f_28 rfl)
            refine steps_cons (fun own a wx hf hsl hE => ?_) ?_
            · obtain ⟨(f_27 : a.eval (.tmp 27) = .int .i64 x601), (f_29 : a.eval (.tmp 29) = .int .i64 (ml 2 run452)), -⟩ := hf
              exact sg_plain rfl rfl (or_add f_27 f_29 rfl)
            refine steps_cons (fun own a wx hf hsl hE => ?_) ?_
            · obtain ⟨s_5, -⟩ := hsl
              exact sg_plain rfl rfl (or_move (s_5.trans e636_5))
            refine steps_cons (fun own a wx hf hsl hE => ?_) ?_
            · obtain ⟨(f_31 : a.eval (.tmp 31) = .slice A341 out599.length cA341), -⟩ := hf
              exact sg_plain rfl rfl (or_len tu22 f_31 rfl)
            refine steps_cons (fun own a wx hf hsl hE => ?_) ?_
            · obtain ⟨(f_30 : a.eval (.tmp 30) = .int .i64 (ad x601 (ml 2 run452))), (f_32 : a.eval (.tmp 32) = .int .i64 (out599.length : Int)), -⟩ := hf
              exact sg_plain rfl rfl (or_eq_ (osome hx640).symm (or_min f_30 f_32))
            refine steps_cons (fun own a wx hf hsl hE => ?_) ?_
            · obtain ⟨(f_33 : a.eval (.tmp 33) = .int .i64 x640), -⟩ := hf
              exact sg_plain rfl rfl (or_assign f_33)
            exact steps_nil
          intro own641 a641 w641 hd641 hz641 hk641 hf641 hE641
          have e641_1 : a641.eval (.tmp 1) = .func (.func 36) #[] #[.pointer (some ⟨gahead2_0, 0, none⟩)] := (hk641 1 rfl).trans e636_1
          have e641_5 : a641.eval (.tmp 5) = .slice A341 out599.length cA341 := (hk641 5 rfl).trans e636_5
          have e641_6 : a641.eval (.tmp 6) = .int .i64 run452 := (hk641 6 rfl).trans e636_6
          have e641_7 : a641.eval (.tmp 7) = .int .i64 x601 := (hk641 7 rfl).trans e636_7
          obtain ⟨(f_8 : a641.eval (.tmp 8) = .int .i64 x640), -⟩ := hf641 [7] rfl
          have e641_8 := f_8
          have hX641 := Evo.step hX636 (fun _ => Nat.le_refl 0) hE641 rfl
          have b641_gahead2_0 := BlkO.evo (by decide) hE641 b636_gahead2_0
          have b641_Aahead2_0_0 := RdO.evo rfl hE641 b636_Aahead2_0_0
          have b641_A341 := RwO.evo rfl hE641 b636_A341
          obtain ⟨x651, hx651, hs⟩ := obind hs
          obtain ⟨x653, hx653, hs⟩ := obind hs
          obtain ⟨x655, hx655, hs⟩ := obind hs
          obtain ⟨r657, hr657, hs⟩ := obind hs
          obtain ⟨l660, hl660, hs⟩ := obind hs
          refine rg_draw g_mixed (n := 54) (rs := [Fct.rowAt 600 [] 3 R3 A341 cA341 out599]) (own0 := own641) (K := [600])
              (bs := [0, 0, 0, 7, 0, 0, 0, 0, 192, 496, 0, 0, 0, 6144, 0, 31744, 0, 131056, 262143])
              (ds := [⟨[], [5], [], Fct.val 34 (.slice A341 out599.length cA341)⟩,
              ⟨[], [7], [], Fct.val 35 (.int .i64 x601)⟩,
              ⟨[], [8], [], Fct.val 36 (.int .i64 x640)⟩,
              ⟨[0, 1, 2, 19], [], [], Fct.val 37 (.slice (if (cA341 : Int).toNat = (x601 : Int).toNat then A341 else A341.map (·.add ((x601 : Int).toNat * R3.s))) ((x640 : Int).toNat - (x601 : Int).toNat) ((cA341 : Int).toNat - (x601 : Int).toNat))⟩,
              ⟨[], [5], [], Fct.val 38 (.slice A341 out599.length cA341)⟩,
              ⟨[], [7], [], Fct.val 39 (.int .i64 x601)⟩,
              ⟨[], [7], [], Fct.val 40 (.int .i64 x601)⟩,
              ⟨[], [6], [], Fct.val 41 (.int .i64 run452)⟩,
              ⟨[6, 7], [], [], Fct.val 42 (.int .i64 (ad x601 run452))⟩,
              ⟨[4, 5, 8, 19], [], [], Fct.view [600] 43 R3 x653⟩,
              ⟨[], [5], [], Fct.val 44 (.slice A341 out599.length cA341)⟩,
              ⟨[], [7], [], Fct.val 45 (.int .i64 x601)⟩,
              ⟨[], [6], [], Fct.val 46 (.int .i64 run452)⟩,
              ⟨[11, 12], [], [], Fct.val 47 (.int .i64 (ad x601 run452))⟩,
              ⟨[], [8], [], Fct.val 48 (.int .i64 x640)⟩,
              ⟨[10, 13, 14, 19], [], [], Fct.view [600] 49 R3 x655⟩,
              ⟨[], [1], [], Fct.val 50 (.func (.func 36) #[] #[.pointer (some ⟨gahead2_0, 0, none⟩)])⟩,
              ⟨[9, 15, 16], [], [], Fct.row 659 [] 51 3 R3 r657⟩,
              ⟨[3, 17, 19], [], [600], Fct.rowAt 661 [] 3 R3 A341 cA341 l660⟩]) (by kernel_rfl) hz641 hd641 (by simp only [List.forall_mem_cons]; exact ⟨b641_A341, fun _ h => nomatch h⟩) ?_ ?_
          · refine steps_cons (fun own a wx hf hsl hE => ?_) ?_
            · obtain ⟨s_5, -⟩ := hsl
              exact sg_plain rfl rfl (or_move (s_5.trans e641_5))
            refine steps_cons (fun own a wx hf hsl hE => ?_) ?_
            · obtain ⟨s_7, -⟩ := hsl
              exact sg_plain rfl rfl (or_move (s_7.trans e641_7))
            refine steps_cons (fun own a wx hf hsl hE => ?_) ?_
            · obtain ⟨s_8, -⟩ := hsl
              exact sg_plain rfl rfl (or_move (s_8.trans e641_8))
            refine steps_cons (fun own a wx hf hsl hE => ?_) ?_
            · obtain ⟨(f_34 : a.eval (.tmp 34) = .slice A341 out599.length cA341), (f_35 : a.eval (.tmp 35) = .int .i64 x601), (f_36 : a.eval (.tmp 36) = .int .i64 x640), (b_A341 : RwO own 600 [] wx 3 R3 A341 cA341 out599), -⟩ := hf
              exact sg_plain rfl rfl (or_piece (R := R3) tu22 ts3 f_34 (Bnd.some_ f_35) (Bnd.some_ f_36) b_A341 (cut_some hx651).1 (cut_some hx651).2.1 (cut_some hx651).2.2.1)
            refine steps_cons (fun own a wx hf hsl hE => ?_) ?_
            · obtain ⟨s_5, -⟩ := hsl
              exact sg_plain rfl rfl (or_move (s_5.trans e641_5))
            refine steps_cons (fun own a wx hf hsl hE => ?_) ?_
            · obtain ⟨s_7, -⟩ := hsl
              exact sg_plain rfl rfl (or_move (s_7.trans e641_7))
            refine steps_cons (fun own a wx hf hsl hE => ?_) ?_
            · obtain ⟨s_7, -⟩ := hsl
              exact sg_plain rfl rfl (or_move (s_7.trans e641_7))
            refine steps_cons (fun own a wx hf hsl hE => ?_) ?_
            · obtain ⟨s_6, -⟩ := hsl
              exact sg_plain rfl rfl (or_move (s_6.trans e641_6))
            refine steps_cons (fun own a wx hf hsl hE => ?_) ?_
            · obtain ⟨(f_40 : a.eval (.tmp 40) = .int .i64 x601), (f_41 : a.eval (.tmp 41) = .int .i64 run452), -⟩ := hf
              exact sg_plain rfl rfl (or_add f_40 f_41 rfl)
            refine steps_cons (fun own a wx hf hsl hE => ?_) ?_
            · obtain ⟨(f_38 : a.eval (.tmp 38) = .slice A341 out599.length cA341), (f_39 : a.eval (.tmp 39) = .int .i64 x601), (f_42 : a.eval (.tmp 42) = .int .i64 (ad x601 run452)), (b_A341 : RwO own 600 [] wx 3 R3 A341 cA341 out599), -⟩ := hf
              exact sg_plain rfl rfl (or_view (R := R3) (l := out599) (L := [600]) tu22 ts3 f_38 (Bnd.some_ f_39) (Bnd.some_ f_42) Bnd.none_ (RwO.rd b_A341) hx653 (.inl rfl) (by simp))
            refine steps_cons (fun own a wx hf hsl hE => ?_) ?_
            · obtain ⟨s_5, -⟩ := hsl
              exact sg_plain rfl rfl (or_move (s_5.trans e641_5))
            refine steps_cons (fun own a wx hf hsl hE => ?_) ?_
            · obtain ⟨s_7, -⟩ := hsl
              exact sg_plain rfl rfl (or_move (s_7.trans e641_7))
            refine steps_cons (fun own a wx hf hsl hE => ?_) ?_
            · obtain ⟨s_6, -⟩ := hsl
              exact sg_plain rfl rfl (or_move (s_6.trans e641_6))
            refine steps_cons (fun own a wx hf hsl hE => ?_) ?_
            · obtain ⟨(f_45 : a.eval (.tmp 45) = .int .i64 x601), (f_46 : a.eval (.tmp 46) = .int .i64 run452), -⟩ := hf
              exact sg_plain rfl rfl (or_add f_45 f_46 rfl)
            refine steps_cons (fun own a wx hf hsl hE => ?_) ?_
            · obtain ⟨s_8, -⟩ := hsl
              exact sg_plain rfl rfl (or_move (s_8.trans e641_8))
            refine steps_cons (fun own a wx hf hsl hE => ?_) ?_
            · obtain ⟨(f_44 : a.eval (.tmp 44) = .slice A341 out599.length cA341), (f_47 : a.eval (.tmp 47) = .int .i64 (ad x601 run452)), (f_48 : a.eval (.tmp 48) = .int .i64 x640), (b_A341 : RwO own 600 [] wx 3 R3 A341 cA341 out599), -⟩ := hf
              exact sg_plain rfl rfl (or_view (R := R3) (l := out599) (L := [600]) tu22 ts3 f_44 (Bnd.some_ f_47) (Bnd.some_ f_48) Bnd.none_ (RwO.rd b_A341) hx655 (.inl rfl) (by simp))
            refine steps_cons (fun own a wx hf hsl hE => ?_) ?_
            · obtain ⟨s_1, -⟩ := hsl
              exact sg_plain rfl rfl (or_move (s_1.trans e641_1))
            refine steps_cons (fun own a wx hf hsl hE => ?_) ?_
            · obtain ⟨⟨⟨A654, cA654⟩, (f_43 : a.eval (.tmp 43) = .slice A654 x653.length cA654), (b_A654 : RdO own [600] wx R3 A654 cA654 x653)⟩, ⟨⟨A656, cA656⟩, (f_49 : a.eval (.tmp 49) = .slice A656 x655.length cA656), (b_A656 : RdO own [600] wx R3 A656 cA656 x655)⟩, (f_50 : a.eval (.tmp 50) = .func (.func 36) #[] #[.pointer (some ⟨gahead2_0, 0, none⟩)]), -⟩ := hf
              exact sg_plain rfl rfl (or_call cf26 (args3 f_43 f_49 f_50) (order_merged_int_Rows_1_w _ x653 A654 cA654 x655 A656 cA656 ahead2_0 gahead2_0 tahead2_0 Aahead2_0_0 cahead2_0_0 (RdO.zero b_A654) (RdO.zero b_A656) (BlkO.zero_ (BlkO.evo (by decide) hE b641_gahead2_0)) (RdO.zero (RdO.evo rfl hE b641_Aahead2_0_0)) r657 hr657) (post_row (m' := (look0 [(1, 659)])) (.inl (Rep.fl_flat _)) rfl rfl (fun _ => rfl)))
            refine steps_cons (fun own a wx hf hsl hE => ?_) ?_
            · obtain ⟨(f_37 : a.eval (.tmp 37) = .slice (if (cA341 : Int).toNat = (x601 : Int).toNat then A341 else A341.map (·.add ((x601 : Int).toNat * R3.s))) ((x640 : Int).toNat - (x601 : Int).toNat) ((cA341 : Int).toNat - (x601 : Int).toNat)), ⟨⟨A658, cA658⟩, (f_51 : a.eval (.tmp 51) = .slice A658 r657.length cA658), (b_A658 : RwO own 659 [] wx 3 R3 A658 cA658 r657)⟩, (b_A341 : RwO own 600 [] wx 3 R3 A341 cA341 out599), -⟩ := hf
              exact sg_plain rfl rfl (or_copy (R := R3) (lab := 600) (lab2 := 661) tu22 rfl f_37 f_51 b_A341 (RwO.rd b_A658) hl660 (Rep.fl_flat _) (mem_of rfl) (by decide) (fun own' a' w' hb => hb))
            exact steps_nil
          intro own662 a662 w662 hd662 hz662 hk662 hf662 hE662
          have e662_1 : a662.eval (.tmp 1) = .func (.func 36) #[] #[.pointer (some ⟨gahead2_0, 0, none⟩)] := (hk662 1 rfl).trans e641_1
          have e662_5 : a662.eval (.tmp 5) = .slice A341 out599.length cA341 := (hk662 5 rfl).trans e641_5
          have e662_6 : a662.eval (.tmp 6) = .int .i64 run452 := (hk662 6 rfl).trans e641_6
          have e662_7 : a662.eval (.tmp 7) = .int .i64 x601 := (hk662 7 rfl).trans e641_7
          obtain ⟨(b_A341 : RwO own662 661 [] w662 3 R3 A341 cA341 l660), -⟩ := hf662 [18] rfl
          have hX662 := Evo.step hX641 (fun _ => Nat.le_refl 0) hE662 rfl
          have b662_gahead2_0 := BlkO.evo (by decide) hE662 b641_gahead2_0
          have b662_Aahead2_0_0 := RdO.evo rfl hE662 b641_Aahead2_0_0
          have b662_A341 := b_A341
          have m663_5 : a662.eval (.tmp 5) = .slice A341 l660.length cA341 := e662_5.trans (by rw [cpy_len hl660])
          refine hn639 _ _ ?_
          refine hn638 _ _ ?_
          refine rg_plain (n := 54) (rs := []) (own0 := own662) (K := [])
              (bs := [0, 0, 2, 7, 15])
              (ds := [⟨[], [7], [], Fct.val 23 (.int .i64 x601)⟩,
              ⟨[], [6], [], Fct.val 24 (.int .i64 run452)⟩,
              ⟨[1], [], [], Fct.val 25 (.int .i64 (ml 2 run452))⟩,
              ⟨[0, 2], [], [], Fct.val 26 (.int .i64 (ad x601 (ml 2 run452)))⟩,
              ⟨[3], [], [], Fct.val 7 (.int .i64 (ad x601 (ml 2 run452)))⟩]) (by kernel_rfl) hz662 hd662 (fun _ h => nomatch h) ?_ ?_
          · refine steps_cons (fun own a wx hf hsl hE => ?_) ?_
            · obtain ⟨s_7, -⟩ := hsl
              exact sg_plain rfl rfl (or_move (s_7.trans e662_7))
            refine steps_cons (fun own a wx hf hsl hE => ?_) ?_
            · obtain ⟨s_6, -⟩ := hsl
              exact sg_plain rfl rfl (or_move (s_6.trans e662_6))
            refine steps_cons (fun own a wx hf hsl hE => ?_) ?_
            · obtain ⟨(f_24 : a.eval (.tmp 24) = .int .i64 run452), -⟩ := hf
              exact sg_plain rfl rfl (or_mul rfl f_24 rfl)
            refine steps_cons (fun own a wx hf hsl hE => ?_) ?_
            · obtain ⟨(f_23 : a.eval (.tmp 23) = .int .i64 x601), (f_25 : a.eval (.tmp 25) = .int .i64 (ml 2 run452)), -⟩ := hf
              exact sg_plain rfl rfl (or_add f_23 f_25 rfl)
            refine steps_cons (fun own a wx hf hsl hE => ?_) ?_
            · obtain ⟨(f_26 : a.eval (.tmp 26) = .int .i64 (ad x601 (ml 2 run452))), -⟩ := hf
              exact sg_plain rfl rfl (or_assign f_26)
            exact steps_nil
          intro own664 a664 w664 hd664 hz664 hk664 hf664 hE664
          have e664_1 : a664.eval (.tmp 1) = .func (.func 36) #[] #[.pointer (some ⟨gahead2_0, 0, none⟩)] := (hk664 1 rfl).trans e662_1
          have e664_5 : a664.eval (.tmp 5) = .slice A341 l660.length cA341 := (hk664 5 rfl).trans m663_5
          have e664_6 : a664.eval (.tmp 6) = .int .i64 run452 := (hk664 6 rfl).trans e662_6
          obtain ⟨(f_7 : a664.eval (.tmp 7) = .int .i64 (ad x601 (ml 2 run452))), -⟩ := hf664 [4] rfl
          have e664_7 := f_7
          have hX664 := Evo.step hX662 (fun _ => Nat.le_refl 0) hE664 rfl
          have b664_gahead2_0 := BlkO.evo (by decide) hE664 b662_gahead2_0
          have b664_Aahead2_0_0 := RdO.evo rfl hE664 b662_Aahead2_0_0
          have b664_A341 := RwO.evo rfl hE664 b662_A341
          exact hn633 _ _ _ hs ⟨(rl [(661, 600)] own664), hd664, hz664, e664_1, e664_5, e664_6, e664_7, (Evo.rl_ hX664 (fun _ => Nat.le_refl 0) rfl), (BlkO.rl_ (mm := [(661, 600)]) b664_gahead2_0), (RdO.rl_ (mm := [(661, 600)]) b664_Aahead2_0_0), (RwO.rl_ (mm := [(661, 600)]) b664_A341)⟩
        refine fl_exit ?_
        refine hp635 _ _ _ rfl ?_
        replace hs := hz633 _ hs
        refine hp633 _ _ _ rfl ?_
        refine hx567 _ _ ?_
        refine hn565 _ _ ?_
        refine hn564 _ _ ?_
        refine rg_plain (n := 54) (rs := []) (own0 := own636) (K := [])
            (bs := [0, 1, 3])
            (ds := [⟨[], [6], [], Fct.val 15 (.int .i64 run452)⟩,
            ⟨[0], [], [], Fct.val 16 (.int .i64 (ml run452 2))⟩,
            ⟨[1], [], [], Fct.val 6 (.int .i64 (ml run452 2))⟩]) (by kernel_rfl) hz636 hd636 (fun _ h => nomatch h) ?_ ?_
        · refine steps_cons (fun own a wx hf hsl hE => ?_) ?_
          · obtain ⟨s_6, -⟩ := hsl
            exact sg_plain rfl rfl (or_move (s_6.trans e636_6))
          refine steps_cons (fun own a wx hf hsl hE => ?_) ?_
          · obtain ⟨(f_15 : a.eval (.tmp 15) = .int .i64 run452), -⟩ := hf
            exact sg_plain rfl rfl (or_mul f_15 rfl rfl)
          refine steps_cons (fun own a wx hf hsl hE => ?_) ?_
          · obtain ⟨(f_16 : a.eval (.tmp 16) = .int .i64 (ml run452 2)), -⟩ := hf
            exact sg_plain rfl rfl (or_assign f_16)
          exact steps_nil
        intro own665 a665 w665 hd665 hz665 hk665 hf665 hE665
        have e665_1 : a665.eval (.tmp 1) = .func (.func 36) #[] #[.pointer (some ⟨gahead2_0, 0, none⟩)] := (hk665 1 rfl).trans e636_1
        have e665_5 : a665.eval (.tmp 5) = .slice A341 out599.length cA341 := (hk665 5 rfl).trans e636_5
        obtain ⟨(f_6 : a665.eval (.tmp 6) = .int .i64 (ml run452 2)), -⟩ := hf665 [2] rfl
        have e665_6 := f_6
        have hX665 := Evo.step hX636 (fun _ => Nat.le_refl 0) hE665 rfl
        have b665_gahead2_0 := BlkO.evo (by decide) hE665 b636_gahead2_0
        have b665_Aahead2_0_0 := RdO.evo rfl hE665 b636_Aahead2_0_0
        have b665_A341 := RwO.evo rfl hE665 b636_A341
        exact hn559 _ _ _ hs ⟨(rl [(600, 451)] own665), hd665, hz665, e665_1, e665_5, e665_6, (Evo.rl_ hX665 (fun _ => Nat.le_refl 0) rfl), (BlkO.rl_ (mm := [(600, 451)]) b665_gahead2_0), (RdO.rl_ (mm := [(600, 451)]) b665_Aahead2_0_0), (RwO.rl_ (mm := [(600, 451)]) b665_A341)⟩
    refine fl_exit ?_
    refine hp561 _ _ _ rfl ?_
    replace hs := hz559 _ hs
    refine hp559 _ _ _ rfl ?_
    refine hx346 _ _ ?_
    refine hn344 _ _ ?_
    refine rg_plain_seq (n := 54) (rs := []) (own0 := own562) (K := [])
        (bs := [0, 1])
        (ds := [⟨[], [5], [], Fct.val 53 (.slice A341 out450.length cA341)⟩,
        ⟨[0], [], [], Fct.val 4 (.slice A341 out450.length cA341)⟩]) (by kernel_rfl) hz562 hd562 (fun _ h => nomatch h) ?_ ?_
    · refine steps_cons (fun own a wx hf hsl hE => ?_) ?_
      · obtain ⟨s_5, -⟩ := hsl
        exact sg_plain rfl rfl (or_move (s_5.trans e562_5))
      refine steps_cons (fun own a wx hf hsl hE => ?_) ?_
      · obtain ⟨(f_53 : a.eval (.tmp 53) = .slice A341 out450.length cA341), -⟩ := hf
        exact sg_plain rfl rfl (or_assign f_53)
      exact steps_nil
    intro own666 a666 w666 hd666 hz666 hk666 hf666 hE666
    obtain ⟨(f_4 : a666.eval (.tmp 4) = .slice A341 out450.length cA341), -⟩ := hf666 [1] rfl
    have e666_4 := f_4
    have hX666 := Evo.step hX562 (fun _ => Nat.le_refl 0) hE666 rfl
    have b666_A341 := RwO.evo rfl hE666 b562_A341
    refine fl_ret ?_
    obtain rfl := (osome hs).symm
    exact hret _ _ _ _ (.inl rfl) hd666 (results1_ rfl (RVal.tmp_ e666_4)) ⟨(rl [(451, 1)] own666), (A341, cA341), rfl, (Evo.rl_ hX666 (fun _ => Nat.le_refl 0) rfl), (RwO.rl_ (mm := [(451, 1)]) b666_A341)⟩

theorem order_Rows_w (w : World) (l1 : List (List Int)) (Al1 : Option Addr) (cl1 : Nat) (hl1 : RdO (fun _ => 0) [0] w R22 Al1 cl1 l1) (r : List Int) (hs : order_Rows l1 = some r) :
    Calls Try.prog 22 #[.slice Al1 l1.length cl1] w fun e w' => ∃ (own' : Own) (x : Option Addr × Nat), e = .returned (.slice x.1 r.length x.2) ∧ Evo [] (fun _ => 0) own' w w' ∧ RwO own' 1 [] w' 3 R3 x.1 x.2 r := by
  refine fl_enter (n := 18) rfl rfl rfl (Nat.le_of_ble_eq_true rfl) ?_
  intro a0 Q hd0 hz0 harg hret
  have ha0 := harg 0 _ rfl
  clear harg
  have hE0 : Evo [] (fun _ => 0) (fun _ => 0) w w := Evo.refl _ _ _
  refine rg_plain_seq (n := 18) (rs := []) (own0 := (fun _ => 0)) (K := [])
      (bs := [0, 0])
      (ds := [⟨[], [0], [], Fct.blk 76 1 (fun g => .pointer (some ⟨g, 0, none⟩)) 35 #[.slice Al1 l1.length cl1]⟩,
      ⟨[], [], [], Fct.val 2 (.slice none 0 0)⟩]) (by kernel_rfl) hz0 hd0 (fun _ h => nomatch h) ?_ ?_
  · refine steps_cons (fun own a wx hf hsl hE => ?_) ?_
    · obtain ⟨s_0, -⟩ := hsl
      exact sg_plain rfl rfl (or_new [(0, .slice Al1 l1.length cl1)] rfl rfl ⟨(s_0.trans ha0), trivial⟩ (by kernel_rfl))
    refine steps_cons (fun own a wx hf hsl hE => ?_) ?_
    · exact sg_plain rfl rfl (or_assign rfl)
    exact steps_nil
  intro own77 a77 w77 hd77 hz77 hk77 hf77 hE77
  obtain ⟨⟨g75, (f_1 : a77.eval (.tmp 1) = .pointer (some ⟨g75, 0, none⟩)), (b_g75 : BlkO own77 76 w77 g75 35 #[.slice Al1 l1.length cl1])⟩, -⟩ := hf77 [0] rfl
  have e77_1 := f_1
  have hX77 := Evo.step hE0 (fun _ => Nat.le_refl 0) hE77 rfl
  have b77_Al1 := RdO.evo rfl hE77 hl1
  have b77_g75 := b_g75
  refine rg_plain_seq (n := 18) (rs := []) (own0 := own77) (K := [])
      (bs := [0])
      (ds := [⟨[], [], [], Fct.val 3 (.slice none 0 0)⟩]) (by kernel_rfl) hz77 hd77 (fun _ h => nomatch h) ?_ ?_
  · refine steps_cons (fun own a wx hf hsl hE => ?_) ?_
    · exact sg_plain rfl rfl (or_assign rfl)
    exact steps_nil
  intro own78 a78 w78 hd78 hz78 hk78 hf78 hE78
  have e78_1 : a78.eval (.tmp 1) = .pointer (some ⟨g75, 0, none⟩) := (hk78 1 rfl).trans e77_1
  obtain ⟨(f_3 : a78.eval (.tmp 3) = .slice none 0 0), -⟩ := hf78 [0] rfl
  have e78_3 := f_3
  have hX78 := Evo.step hX77 (fun _ => Nat.le_refl 0) hE78 rfl
  have b78_Al1 := RdO.evo rfl hE78 b77_Al1
  have b78_g75 := BlkO.evo (by decide) hE78 b77_g75
  refine fl_seq (fun Q79 hn79 hp79 => ?_)
  refine rg_plain_seq (n := 18) (rs := []) (own0 := own78) (K := [])
      (bs := [0, 1, 0])
      (ds := [⟨[], [1], [], Fct.val 5 (.slice Al1 l1.length cl1)⟩,
      ⟨[0], [], [], Fct.val 6 (.int .i64 (l1.length : Int))⟩,
      ⟨[], [], [], Fct.val 7 (.int .i64 0)⟩]) (by kernel_rfl) hz78 hd78 (fun _ h => nomatch h) ?_ ?_
  · refine steps_cons (fun own a wx hf hsl hE => ?_) ?_
    · obtain ⟨s_1, -⟩ := hsl
      exact sg_plain rfl rfl (or_load1 to35 (s_1.trans e78_1) (Blk.at_ (BlkO.evo (by decide) hE b78_g75).2 0 rfl))
    refine steps_cons (fun own a wx hf hsl hE => ?_) ?_
    · obtain ⟨(f_5 : a.eval (.tmp 5) = .slice Al1 l1.length cl1), -⟩ := hf
      exact sg_plain rfl rfl (or_len tu35 f_5 rfl)
    refine steps_cons (fun own a wx hf hsl hE => ?_) ?_
    · exact sg_plain rfl rfl (or_move rfl)
    exact steps_nil
  intro own80 a80 w80 hd80 hz80 hk80 hf80 hE80
  have e80_1 : a80.eval (.tmp 1) = .pointer (some ⟨g75, 0, none⟩) := (hk80 1 rfl).trans e78_1
  have e80_3 : a80.eval (.tmp 3) = .slice none 0 0 := (hk80 3 rfl).trans e78_3
  obtain ⟨(f_6 : a80.eval (.tmp 6) = .int .i64 (l1.length : Int)), (f_7 : a80.eval (.tmp 7) = .int .i64 0), -⟩ := hf80 [1, 2] rfl
  have e80_6 := f_6
  have e80_7 := f_7
  have hX80 := Evo.step hX78 (fun _ => Nat.le_refl 0) hE80 rfl
  have b80_Al1 := RdO.evo rfl hE80 b78_Al1
  have b80_g75 := BlkO.evo (by decide) hE80 b78_g75
  refine fl_block (fun Q81 hn81 hx81 hp81 => ?_)
  refine fl_loop (body := (fun s => order_Rows_b1 l1 s.1 s.2)) (z := r) (show loopO _ _ = _ from hs) (fun (s : (List Int) × Int) a wx => match s with | (numbers99, x101) => ∃ (ox : Own) (A97 : Option Addr) (c98 : Nat), a.defers = [] ∧ a.tmps.size = 18 ∧ a.eval (.tmp 1) = .pointer (some ⟨g75, 0, none⟩) ∧ a.eval (.tmp 3) = .slice A97 numbers99.length c98 ∧ a.eval (.tmp 6) = .int .i64 (l1.length : Int) ∧ a.eval (.tmp 7) = .int .i64 x101 ∧ Evo [] (fun _ => 0) ox w wx ∧ BlkO ox 76 wx g75 35 #[.slice Al1 l1.length cl1] ∧ RdO ox [0] wx R22 Al1 cl1 l1 ∧ RwO ox 100 [] wx 3 R3 A97 c98 numbers99) ?_ ?_
  · exact ⟨own80, none, 0, hd80, hz80, e80_1, e80_3, e80_6, e80_7, hX80, b80_g75, b80_Al1, RwO.nil_⟩
  · rintro ⟨numbers99, x101⟩ zz118 a118 w118 ⟨own118, A97, c98, hd119, hz119, e119_1, e119_3, e119_6, e119_7, hE119, b119_g75, b119_Al1, b119_A97⟩ hs Q118 hn118 hp118 hz118
    have hs : order_Rows_b1 l1 numbers99 x101 = some zz118 := hs
    refine rg_plain_seq (n := 18) (rs := []) (own0 := own118) (K := [])
        (bs := [0])
        (ds := [⟨[], [7, 6], [], Fct.val 8 (.bool (decide (x101 < (l1.length : Int))))⟩]) (by kernel_rfl) hz119 hd119 (fun _ h => nomatch h) ?_ ?_
    · refine steps_cons (fun own a wx hf hsl hE => ?_) ?_
      · obtain ⟨s_7, s_6, -⟩ := hsl
        exact sg_plain rfl rfl (or_lss (s_7.trans e119_7) (s_6.trans e119_6) rfl)
      exact steps_nil
    intro own120 a120 w120 hd120 hz120 hk120 hf120 hE120
    have e120_1 : a120.eval (.tmp 1) = .pointer (some ⟨g75, 0, none⟩) := (hk120 1 rfl).trans e119_1
    have e120_3 : a120.eval (.tmp 3) = .slice A97 numbers99.length c98 := (hk120 3 rfl).trans e119_3
    have e120_6 : a120.eval (.tmp 6) = .int .i64 (l1.length : Int) := (hk120 6 rfl).trans e119_6
    have e120_7 : a120.eval (.tmp 7) = .int .i64 x101 := (hk120 7 rfl).trans e119_7
    obtain ⟨(f_8 : a120.eval (.tmp 8) = .bool (decide (x101 < (l1.length : Int)))), -⟩ := hf120 [0] rfl
    have e120_8 := f_8
    have hX120 := Evo.step hE119 (fun _ => Nat.le_refl 0) hE120 rfl
    have b120_g75 := BlkO.evo (by decide) hE120 b119_g75
    have b120_Al1 := RdO.evo rfl hE120 b119_Al1
    have b120_A97 := RwO.evo rfl hE120 b119_A97
    refine fl_seq (fun Q121 hn121 hp121 => ?_)
    refine fl_cond e120_8 hs (fun c122 hs => ?_) (fun c122 hs => ?_)
    · refine fl_skip ?_
      refine hn121 _ _ ?_
      refine fl_seq (fun Q123 hn123 hp123 => ?_)
      refine fl_block (fun Q124 hn124 hx124 hp124 => ?_)
      refine rg_plain_seq (n := 18) (rs := []) (own0 := own120) (K := [])
          (bs := [0, 1])
          (ds := [⟨[], [7], [], Fct.val 9 (.int .i64 x101)⟩,
          ⟨[0], [], [], Fct.val 4 (.int .i64 x101)⟩]) (by kernel_rfl) hz120 hd120 (fun _ h => nomatch h) ?_ ?_
      · refine steps_cons (fun own a wx hf hsl hE => ?_) ?_
        · obtain ⟨s_7, -⟩ := hsl
          exact sg_plain rfl rfl (or_move (s_7.trans e120_7))
        refine steps_cons (fun own a wx hf hsl hE => ?_) ?_
        · obtain ⟨(f_9 : a.eval (.tmp 9) = .int .i64 x101), -⟩ := hf
          exact sg_plain rfl rfl (or_assign f_9)
        exact steps_nil
      intro own125 a125 w125 hd125 hz125 hk125 hf125 hE125
      have e125_1 : a125.eval (.tmp 1) = .pointer (some ⟨g75, 0, none⟩) := (hk125 1 rfl).trans e120_1
      have e125_3 : a125.eval (.tmp 3) = .slice A97 numbers99.length c98 := (hk125 3 rfl).trans e120_3
      have e125_6 : a125.eval (.tmp 6) = .int .i64 (l1.length : Int) := (hk125 6 rfl).trans e120_6
      have e125_7 : a125.eval (.tmp 7) = .int .i64 x101 := (hk125 7 rfl).trans e120_7
      obtain ⟨(f_4 : a125.eval (.tmp 4) = .int .i64 x101), -⟩ := hf125 [1] rfl
      have e125_4 := f_4
      have hX125 := Evo.step hX120 (fun _ => Nat.le_refl 0) hE125 rfl
      have b125_g75 := BlkO.evo (by decide) hE125 b120_g75
      have b125_Al1 := RdO.evo rfl hE125 b120_Al1
      have b125_A97 := RwO.evo rfl hE125 b120_A97
      obtain ⟨x130, hx130, hs⟩ := obind hs
      refine rg_plain (n := 18) (rs := [Fct.rowAt 100 [] 3 R3 A97 c98 numbers99]) (own0 := own125) (K := [100])
          (bs := [0, 0, 2, 7, 15])
          (ds := [⟨[], [3], [], Fct.val 10 (.slice A97 numbers99.length c98)⟩,
          ⟨[], [4], [], Fct.val 11 (.int .i64 x101)⟩,
          ⟨[1], [], [], Fct.row 129 [] 12 3 R3 [x101]⟩,
          ⟨[0, 2, 5], [], [100], Fct.row 131 [] 13 3 R3 x130⟩,
          ⟨[3], [], [], Fct.rel [3, 13] (fun l => ∀ (A132 : Option Addr) (cA132 : Nat), l.getD 1 undef = .slice A132 x130.length cA132 → l.getD 0 undef = .slice A132 x130.length cA132)⟩]) (by kernel_rfl) hz125 hd125 (by simp only [List.forall_mem_cons]; exact ⟨b125_A97, fun _ h => nomatch h⟩) ?_ ?_
      · refine steps_cons (fun own a wx hf hsl hE => ?_) ?_
        · obtain ⟨s_3, -⟩ := hsl
          exact sg_plain rfl rfl (or_move (s_3.trans e125_3))
        refine steps_cons (fun own a wx hf hsl hE => ?_) ?_
        · obtain ⟨s_4, -⟩ := hsl
          exact sg_plain rfl rfl (or_move (s_4.trans e125_4))
        refine steps_cons (fun own a wx hf hsl hE => ?_) ?_
        · obtain ⟨(f_11 : a.eval (.tmp 11) = .int .i64 x101), -⟩ := hf
          exact sg_plain rfl rfl (or_lit (lab := 129) (e := 3) (cs := #[.int .i64 x101]) (F := E3) (or_new [(11, .int .i64 x101)] rfl rfl ⟨f_11, trivial⟩ (by kernel_rfl)) rfl rfl (show 1 ≤ maxLen by decide))
        refine steps_cons (fun own a wx hf hsl hE => ?_) ?_
        · obtain ⟨(f_10 : a.eval (.tmp 10) = .slice A97 numbers99.length c98), ⟨⟨A128, cA128⟩, (f_12 : a.eval (.tmp 12) = .slice A128 [x101].length cA128), (b_A128 : RwO own 129 [] wx 3 R3 A128 cA128 [x101])⟩, (b_A97 : RwO own 100 [] wx 3 R3 A97 c98 numbers99), -⟩ := hf
          exact sg_plain rfl rfl (or_append (R := R3) (lab := 100) (lab2 := 131) (L := []) (L3 := []) tp22 f_10 b_A97 (by decide) f_12 (RwO.rd b_A128) hx130 (by decide) (by decide) (mem_of rfl) (.inl (Rep.fl_flat _)))
        refine steps_cons (fun own a wx hf hsl hE => ?_) ?_
        · obtain ⟨⟨⟨A132, cA132⟩, (f_13 : a.eval (.tmp 13) = .slice A132 x130.length cA132), (b_A132 : RwO own 131 [] wx 3 R3 A132 cA132 x130)⟩, -⟩ := hf
          exact sg_plain rfl rfl (or_mono (f := Fct.val 3 (.slice A132 x130.length cA132)) (or_assign f_13) (fun own' a' w' v' hp h => fun _ _ h0' => by cases (f_13.symm.trans ((hp.2 13 (by decide)).symm.trans h0')); exact h))
        exact steps_nil
      intro own133 a133 w133 hd133 hz133 hk133 hf133 hE133
      have e133_1 : a133.eval (.tmp 1) = .pointer (some ⟨g75, 0, none⟩) := (hk133 1 rfl).trans e125_1
      have e133_6 : a133.eval (.tmp 6) = .int .i64 (l1.length : Int) := (hk133 6 rfl).trans e125_6
      have e133_7 : a133.eval (.tmp 7) = .int .i64 x101 := (hk133 7 rfl).trans e125_7
      obtain ⟨⟨⟨A132, cA132⟩, (f_13 : a133.eval (.tmp 13) = .slice A132 x130.length cA132), (b_A132 : RwO own133 131 [] w133 3 R3 A132 cA132 x130)⟩, (q_3 : ∀ (A132 : Option Addr) (cA132 : Nat), a133.eval (.tmp 13) = .slice A132 x130.length cA132 → a133.eval (.tmp 3) = .slice A132 x130.length cA132), -⟩ := hf133 [3, 4] rfl
      have f_3 := q_3 _ _ f_13
      have e133_3 := f_3
      have hX133 := Evo.step hX125 (fun _ => Nat.le_refl 0) hE133 rfl
      have b133_g75 := BlkO.evo (by decide) hE133 b125_g75
      have b133_Al1 := RdO.evo rfl hE133 b125_Al1
      have b133_A132 := b_A132
      refine hn124 _ _ ?_
      refine hn123 _ _ ?_
      refine rg_plain (n := 18) (rs := []) (own0 := own133) (K := [])
          (bs := [0, 1])
          (ds := [⟨[], [7], [], Fct.val 14 (.int .i64 (ad x101 1))⟩,
          ⟨[0], [], [], Fct.val 7 (.int .i64 (ad x101 1))⟩]) (by kernel_rfl) hz133 hd133 (fun _ h => nomatch h) ?_ ?_
      · refine steps_cons (fun own a wx hf hsl hE => ?_) ?_
        · obtain ⟨s_7, -⟩ := hsl
          exact sg_plain rfl rfl (or_add (s_7.trans e133_7) rfl rfl)
        refine steps_cons (fun own a wx hf hsl hE => ?_) ?_
        · obtain ⟨(f_14 : a.eval (.tmp 14) = .int .i64 (ad x101 1)), -⟩ := hf
          exact sg_plain rfl rfl (or_move f_14)
        exact steps_nil
      intro own134 a134 w134 hd134 hz134 hk134 hf134 hE134
      have e134_1 : a134.eval (.tmp 1) = .pointer (some ⟨g75, 0, none⟩) := (hk134 1 rfl).trans e133_1
      have e134_3 : a134.eval (.tmp 3) = .slice A132 x130.length cA132 := (hk134 3 rfl).trans e133_3
      have e134_6 : a134.eval (.tmp 6) = .int .i64 (l1.length : Int) := (hk134 6 rfl).trans e133_6
      obtain ⟨(f_7 : a134.eval (.tmp 7) = .int .i64 (ad x101 1)), -⟩ := hf134 [1] rfl
      have e134_7 := f_7
      have hX134 := Evo.step hX133 (fun _ => Nat.le_refl 0) hE134 rfl
      have b134_g75 := BlkO.evo (by decide) hE134 b133_g75
      have b134_Al1 := RdO.evo rfl hE134 b133_Al1
      have b134_A132 := RwO.evo rfl hE134 b133_A132
      exact hn118 _ _ _ hs ⟨(rl [(131, 100)] own134), A132, cA132, hd134, hz134, e134_1, e134_3, e134_6, e134_7, (Evo.rl_ hX134 (fun _ => Nat.le_refl 0) rfl), (BlkO.rl_ (mm := [(131, 100)]) b134_g75), (RdO.rl_ (mm := [(131, 100)]) b134_Al1), (RwO.rl_ (mm := [(131, 100)]) b134_A132)⟩
    refine fl_exit ?_
    refine hp121 _ _ _ rfl ?_
    replace hs := hz118 _ hs
    refine hp118 _ _ _ rfl ?_
    refine hx81 _ _ ?_
    refine hn79 _ _ ?_
    obtain ⟨r135, hr135, hs⟩ := obind hs
    refine rg_plain_seq (n := 18) (rs := []) (own0 := own120) (K := [])
        (bs := [0, 0, 3, 7])
        (ds := [⟨[], [3], [], Fct.val 15 (.slice A97 numbers99.length c98)⟩,
        ⟨[], [1], [], Fct.val 16 (.func (.func 36) #[] #[.pointer (some ⟨g75, 0, none⟩)])⟩,
        ⟨[0, 1], [], [], Fct.row 137 [] 17 3 R3 r135⟩,
        ⟨[2], [], [], Fct.rel [2, 17] (fun l => ∀ (A136 : Option Addr) (cA136 : Nat), l.getD 1 undef = .slice A136 r135.length cA136 → l.getD 0 undef = .slice A136 r135.length cA136)⟩]) (by kernel_rfl) hz120 hd120 (fun _ h => nomatch h) ?_ ?_
    · refine steps_cons (fun own a wx hf hsl hE => ?_) ?_
      · obtain ⟨s_3, -⟩ := hsl
        exact sg_plain rfl rfl (or_move (s_3.trans e120_3))
      refine steps_cons (fun own a wx hf hsl hE => ?_) ?_
      · obtain ⟨s_1, -⟩ := hsl
        exact sg_plain rfl rfl (or_k [(1, .pointer (some ⟨g75, 0, none⟩))] rfl rfl ⟨(s_1.trans e120_1), trivial⟩ (by kernel_rfl))
      refine steps_cons (fun own a wx hf hsl hE => ?_) ?_
      · obtain ⟨(f_15 : a.eval (.tmp 15) = .slice A97 numbers99.length c98), (f_16 : a.eval (.tmp 16) = .func (.func 36) #[] #[.pointer (some ⟨g75, 0, none⟩)]), -⟩ := hf
        exact sg_plain rfl rfl (or_call cf35 (args2 f_15 f_16) (order_sorted_int_Rows_1_w _ numbers99 A97 c98 l1 g75 35 Al1 cl1 (RdO.zero (RwO.rd (RwO.evo rfl hE b120_A97))) (BlkO.zero_ (BlkO.evo (by decide) hE b120_g75)) (RdO.zero (RdO.evo rfl hE b120_Al1)) r135 hr135) (post_row (m' := (look0 [(1, 137)])) (.inl (Rep.fl_flat _)) rfl rfl (fun _ => rfl)))
      refine steps_cons (fun own a wx hf hsl hE => ?_) ?_
      · obtain ⟨⟨⟨A136, cA136⟩, (f_17 : a.eval (.tmp 17) = .slice A136 r135.length cA136), (b_A136 : RwO own 137 [] wx 3 R3 A136 cA136 r135)⟩, -⟩ := hf
        exact sg_plain rfl rfl (or_mono (f := Fct.val 2 (.slice A136 r135.length cA136)) (or_assign f_17) (fun own' a' w' v' hp h => fun _ _ h0' => by cases (f_17.symm.trans ((hp.2 17 (by decide)).symm.trans h0')); exact h))
      exact steps_nil
    intro own138 a138 w138 hd138 hz138 hk138 hf138 hE138
    obtain ⟨⟨⟨A136, cA136⟩, (f_17 : a138.eval (.tmp 17) = .slice A136 r135.length cA136), (b_A136 : RwO own138 137 [] w138 3 R3 A136 cA136 r135)⟩, (q_2 : ∀ (A136 : Option Addr) (cA136 : Nat), a138.eval (.tmp 17) = .slice A136 r135.length cA136 → a138.eval (.tmp 2) = .slice A136 r135.length cA136), -⟩ := hf138 [2, 3] rfl
    have f_2 := q_2 _ _ f_17
    have e138_2 := f_2
    have hX138 := Evo.step hX120 (fun _ => Nat.le_refl 0) hE138 rfl
    have b138_A136 := b_A136
    refine fl_ret ?_
    obtain rfl := (osome hs).symm
    exact hret _ _ _ _ (.inl rfl) hd138 (results1_ rfl (RVal.tmp_ e138_2)) ⟨(rl [(137, 1)] own138), (A136, cA136), rfl, (Evo.rl_ hX138 (fun _ => Nat.le_refl 0) rfl), (RwO.rl_ (mm := [(137, 1)]) b138_A136)⟩

theorem law04_known_w (w : World) (r : Bool) (hs : law04_known = some r) :
    Calls Try.prog 10 #[] w fun e w' => ∃ own' : Own, e = .returned (.bool r) ∧ Evo [] (fun _ => 0) own' w w' := by
  refine fl_enter (n := 46) rfl rfl rfl (Nat.le_of_ble_eq_true rfl) ?_
  intro a0 Q hd0 hz0 harg hret
  clear harg
  have hE0 : Evo [] (fun _ => 0) (fun _ => 0) w w := Evo.refl _ _ _
  refine rg_plain_seq (n := 46) (rs := []) (own0 := (fun _ => 0)) (K := [])
      (bs := [0])
      (ds := [⟨[], [], [], Fct.val 0 (.bool false)⟩]) (by kernel_rfl) hz0 hd0 (fun _ h => nomatch h) ?_ ?_
  · refine steps_cons (fun own a wx hf hsl hE => ?_) ?_
    · exact sg_plain rfl rfl (or_assign rfl)
    exact steps_nil
  intro own40 a40 w40 hd40 hz40 hk40 hf40 hE40
  have hX40 := Evo.step hE0 (fun _ => Nat.le_refl 0) hE40 rfl
  obtain ⟨r49, hr49, hs⟩ := obind hs
  refine rg_plain_seq (n := 46) (rs := []) (own0 := own40) (K := [])
      (bs := [0, 0, 0, 7, 15, 31])
      (ds := [⟨[], [], [], Fct.row 42 [] 4 3 R3 [2]⟩,
      ⟨[], [], [], Fct.row 44 [] 5 3 R3 [1, 9]⟩,
      ⟨[], [], [], Fct.row 46 [] 6 3 R3 [1]⟩,
      ⟨[0, 1, 2], [], [], Fct.row 48 [42, 44, 46] 7 22 R22 [[2], [1, 9], [1], ([] : List Int)]⟩,
      ⟨[3], [], [], Fct.row 51 [] 8 3 R3 r49⟩,
      ⟨[4], [], [], Fct.rel [1, 8] (fun l => ∀ (A50 : Option Addr) (cA50 : Nat), l.getD 1 undef = .slice A50 r49.length cA50 → l.getD 0 undef = .slice A50 r49.length cA50)⟩]) (by kernel_rfl) hz40 hd40 (fun _ h => nomatch h) ?_ ?_
  · refine steps_cons (fun own a wx hf hsl hE => ?_) ?_
    · exact sg_plain rfl rfl (or_lit (lab := 42) (e := 3) (cs := #[.int .i64 2]) (F := E3) (or_new [] rfl rfl trivial (by kernel_rfl)) rfl rfl (show 1 ≤ maxLen by decide))
    refine steps_cons (fun own a wx hf hsl hE => ?_) ?_
    · exact sg_plain rfl rfl (or_lit (lab := 44) (e := 3) (cs := #[.int .i64 1, .int .i64 9]) (F := E3) (or_new [] rfl rfl trivial (by kernel_rfl)) rfl rfl (show 2 ≤ maxLen by decide))
    refine steps_cons (fun own a wx hf hsl hE => ?_) ?_
    · exact sg_plain rfl rfl (or_lit (lab := 46) (e := 3) (cs := #[.int .i64 1]) (F := E3) (or_new [] rfl rfl trivial (by kernel_rfl)) rfl rfl (show 1 ≤ maxLen by decide))
    refine steps_cons (fun own a wx hf hsl hE => ?_) ?_
    · obtain ⟨⟨⟨A41, cA41⟩, (f_4 : a.eval (.tmp 4) = .slice A41 [2].length cA41), (b_A41 : RwO own 42 [] wx 3 R3 A41 cA41 [2])⟩, ⟨⟨A43, cA43⟩, (f_5 : a.eval (.tmp 5) = .slice A43 [1, 9].length cA43), (b_A43 : RwO own 44 [] wx 3 R3 A43 cA43 [1, 9])⟩, ⟨⟨A45, cA45⟩, (f_6 : a.eval (.tmp 6) = .slice A45 [1].length cA45), (b_A45 : RwO own 46 [] wx 3 R3 A45 cA45 [1])⟩, -⟩ := hf
      exact sg_plain rfl rfl (or_litN (R := R22) (lab := 48) (L := [42, 44, 46]) (e := 22) (cs := #[.slice A41 [2].length cA41, .slice A43 [1, 9].length cA43, .slice A45 [1].length cA45, .slice none 0 0]) (l := [[2], [1, 9], [1], ([] : List Int)]) (n := 4) [(4, .slice A41 [2].length cA41), (5, .slice A43 [1, 9].length cA43), (6, .slice A45 [1].length cA45)] rfl rfl ⟨f_4, f_5, f_6, trivial⟩ (by kernel_rfl) rfl (by decide) ⟨(Ex.iff X22).2 ⟨(A41, cA41), rfl, (RdO.more (RwO.rd b_A41) (by decide))⟩, ⟨(Ex.iff X22).2 ⟨(A43, cA43), rfl, (RdO.more (RwO.rd b_A43) (by decide))⟩, ⟨(Ex.iff X22).2 ⟨(A45, cA45), rfl, (RdO.more (RwO.rd b_A45) (by decide))⟩, ⟨(Ex.iff X22).2 ⟨(none, 0), rfl, RdO.nil_⟩, rfl⟩⟩⟩⟩ rfl)
    refine steps_cons (fun own a wx hf hsl hE => ?_) ?_
    · obtain ⟨⟨⟨A47, cA47⟩, (f_7 : a.eval (.tmp 7) = .slice A47 [[2], [1, 9], [1], ([] : List Int)].length cA47), (b_A47 : RwO own 48 [42, 44, 46] wx 22 R22 A47 cA47 [[2], [1, 9], [1], ([] : List Int)])⟩, -⟩ := hf
      exact sg_plain rfl rfl (or_call cf22 (args1 f_7) (order_Rows_w _ [[2], [1, 9], [1], ([] : List Int)] A47 cA47 (RdO.zero (RwO.rd b_A47)) r49 hr49) (post_row (m' := (look0 [(1, 51)])) (.inl (Rep.fl_flat _)) rfl rfl (fun _ => rfl)))
    refine steps_cons (fun own a wx hf hsl hE => ?_) ?_
    · obtain ⟨⟨⟨A50, cA50⟩, (f_8 : a.eval (.tmp 8) = .slice A50 r49.length cA50), (b_A50 : RwO own 51 [] wx 3 R3 A50 cA50 r49)⟩, -⟩ := hf
      exact sg_plain rfl rfl (or_mono (f := Fct.val 1 (.slice A50 r49.length cA50)) (or_assign f_8) (fun own' a' w' v' hp h => fun _ _ h0' => by cases (f_8.symm.trans ((hp.2 8 (by decide)).symm.trans h0')); exact h))
    exact steps_nil
  intro own52 a52 w52 hd52 hz52 hk52 hf52 hE52
  obtain ⟨⟨⟨A50, cA50⟩, (f_8 : a52.eval (.tmp 8) = .slice A50 r49.length cA50), (b_A50 : RwO own52 51 [] w52 3 R3 A50 cA50 r49)⟩, (q_1 : ∀ (A50 : Option Addr) (cA50 : Nat), a52.eval (.tmp 8) = .slice A50 r49.length cA50 → a52.eval (.tmp 1) = .slice A50 r49.length cA50), -⟩ := hf52 [4, 5] rfl
  have f_1 := q_1 _ _ f_8
  have e52_1 := f_1
  have hX52 := Evo.step hX40 (fun _ => Nat.le_refl 0) hE52 rfl
  have b52_A50 := b_A50
  obtain ⟨r55, hr55, hs⟩ := obind hs
  refine rg_plain_seq (n := 46) (rs := []) (own0 := own52) (K := [])
      (bs := [0, 1, 3, 7, 7, 15, 63])
      (ds := [⟨[], [], [], Fct.row 54 [] 10 3 R3 [4, 8]⟩,
      ⟨[0], [], [], Fct.val 11 (.tuple #[.int .i64 r55.1, .int .i64 r55.2])⟩,
      ⟨[1], [], [], Fct.val 9 (.tuple #[.int .i64 r55.1, .int .i64 r55.2])⟩,
      ⟨[2], [], [], Fct.val 12 (.int .i64 r55.1)⟩,
      ⟨[2], [], [], Fct.val 13 (.int .i64 r55.2)⟩,
      ⟨[3], [], [], Fct.val 2 (.int .i64 r55.1)⟩,
      ⟨[4], [], [], Fct.val 3 (.int .i64 r55.2)⟩]) (by kernel_rfl) hz52 hd52 (fun _ h => nomatch h) ?_ ?_
  · refine steps_cons (fun own a wx hf hsl hE => ?_) ?_
    · exact sg_plain rfl rfl (or_lit (lab := 54) (e := 3) (cs := #[.int .i64 4, .int .i64 8]) (F := E3) (or_new [] rfl rfl trivial (by kernel_rfl)) rfl rfl (show 2 ≤ maxLen by decide))
    refine steps_cons (fun own a wx hf hsl hE => ?_) ?_
    · obtain ⟨⟨⟨A53, cA53⟩, (f_10 : a.eval (.tmp 10) = .slice A53 [4, 8].length cA53), (b_A53 : RwO own 54 [] wx 3 R3 A53 cA53 [4, 8])⟩, -⟩ := hf
      exact sg_plain rfl rfl (or_call cf8 (args2 f_10 rfl) (order_Strips_w _ [4, 8] A53 cA53 4 (RdO.zero (RwO.rd b_A53)) r55 hr55) post_val)
    refine steps_cons (fun own a wx hf hsl hE => ?_) ?_
    · obtain ⟨(f_11 : a.eval (.tmp 11) = .tuple #[.int .i64 r55.1, .int .i64 r55.2]), -⟩ := hf
      exact sg_plain rfl rfl (or_move f_11)
    refine steps_cons (fun own a wx hf hsl hE => ?_) ?_
    · obtain ⟨(f_9 : a.eval (.tmp 9) = .tuple #[.int .i64 r55.1, .int .i64 r55.2]), -⟩ := hf
      exact sg_plain rfl rfl (or_k [(9, .tuple #[.int .i64 r55.1, .int .i64 r55.2])] rfl rfl ⟨f_9, trivial⟩ (by kernel_rfl))
    refine steps_cons (fun own a wx hf hsl hE => ?_) ?_
    · obtain ⟨(f_9 : a.eval (.tmp 9) = .tuple #[.int .i64 r55.1, .int .i64 r55.2]), -⟩ := hf
      exact sg_plain rfl rfl (or_k [(9, .tuple #[.int .i64 r55.1, .int .i64 r55.2])] rfl rfl ⟨f_9, trivial⟩ (by kernel_rfl))
    refine steps_cons (fun own a wx hf hsl hE => ?_) ?_
    · obtain ⟨(f_12 : a.eval (.tmp 12) = .int .i64 r55.1), -⟩ := hf
      exact sg_plain rfl rfl (or_assign f_12)
    refine steps_cons (fun own a wx hf hsl hE => ?_) ?_
    · obtain ⟨(f_13 : a.eval (.tmp 13) = .int .i64 r55.2), -⟩ := hf
      exact sg_plain rfl rfl (or_assign f_13)
    exact steps_nil
  intro own56 a56 w56 hd56 hz56 hk56 hf56 hE56
  have e56_1 : a56.eval (.tmp 1) = .slice A50 r49.length cA50 := (hk56 1 rfl).trans e52_1
  obtain ⟨(f_2 : a56.eval (.tmp 2) = .int .i64 r55.1), (f_3 : a56.eval (.tmp 3) = .int .i64 r55.2), -⟩ := hf56 [5, 6] rfl
  have e56_2 := f_2
  have e56_3 := f_3
  have hX56 := Evo.step hX52 (fun _ => Nat.le_refl 0) hE56 rfl
  have b56_A50 := RwO.evo rfl hE56 b52_A50
  obtain ⟨x57, hx57, hs⟩ := obind hs
  obtain ⟨x58, hx58, hs⟩ := obind hs
  obtain ⟨x59, hx59, hs⟩ := obind hs
  obtain ⟨x60, hx60, hs⟩ := obind hs
  obtain ⟨r63, hr63, hs⟩ := obind hs
  obtain ⟨x64, hx64, hs⟩ := obind hs
  obtain ⟨r67, hr67, hs⟩ := obind hs
  refine rg_plain_seq (n := 46) (rs := []) (own0 := own56) (K := [])
      (bs := [0, 1, 3, 7, 15, 31, 63, 127, 255, 511, 1023, 2047, 4095, 8191, 16383, 32767, 65535, 131071, 262143, 524287, 1048575, 2097151, 4194303, 8388607, 16777215, 33554431, 67108863, 134217727, 268435455, 536870911, 1073741823, 2147483647, 4294967295])
      (ds := [⟨[], [1], [], Fct.val 14 (.slice A50 r49.length cA50)⟩,
      ⟨[0], [], [], Fct.val 15 (.int .i64 (r49.length : Int))⟩,
      ⟨[1], [], [], Fct.val 16 (.bool (decide ((r49.length : Int) = 4)))⟩,
      ⟨[2], [], [], Fct.val 17 (.bool (decide ((r49.length : Int) = 4)))⟩,
      ⟨[3], [1], [], Fct.cond (decide ((r49.length : Int) = 4)) (some 18) (Fct.val 18 (.slice A50 r49.length cA50))⟩,
      ⟨[3, 4], [], [], Fct.cond (decide ((r49.length : Int) = 4)) (some 19) (Fct.val 19 (.pointer (some ((adr A50).add ((0 : Int).toNat * R3.s)))))⟩,
      ⟨[3, 5], [], [], Fct.cond (decide ((r49.length : Int) = 4)) (some 20) (Fct.val 20 (.int .i64 x57))⟩,
      ⟨[3, 6], [], [], Fct.cond (decide ((r49.length : Int) = 4)) (some 21) (Fct.val 21 (.bool (decide (x57 = 3))))⟩,
      ⟨[3, 7], [], [], Fct.val 22 (.bool x58)⟩,
      ⟨[8], [], [], Fct.val 23 (.bool x58)⟩,
      ⟨[9], [1], [], Fct.cond x58 (some 24) (Fct.val 24 (.slice A50 r49.length cA50))⟩,
      ⟨[9, 10], [], [], Fct.cond x58 (some 25) (Fct.val 25 (.pointer (some ((adr A50).add ((3 : Int).toNat * R3.s)))))⟩,
      ⟨[9, 11], [], [], Fct.cond x58 (some 26) (Fct.val 26 (.int .i64 x59))⟩,
      ⟨[9, 12], [], [], Fct.cond x58 (some 27) (Fct.val 27 (.bool (decide (x59 = 0))))⟩,
      ⟨[9, 13], [], [], Fct.val 28 (.bool (x58 && (decide (x59 = 0))))⟩,
      ⟨[14], [], [], Fct.val 29 (.bool (x58 && (decide (x59 = 0))))⟩,
      ⟨[15], [2], [], Fct.cond (x58 && (decide (x59 = 0))) (some 30) (Fct.val 30 (.int .i64 r55.1))⟩,
      ⟨[15, 16], [], [], Fct.cond (x58 && (decide (x59 = 0))) (some 31) (Fct.val 31 (.bool (decide (r55.1 = 0))))⟩,
      ⟨[15, 17], [], [], Fct.val 32 (.bool x60)⟩,
      ⟨[18], [], [], Fct.val 33 (.bool x60)⟩,
      ⟨[19], [3], [], Fct.cond x60 (some 34) (Fct.val 34 (.int .i64 r55.2))⟩,
      ⟨[19, 20], [], [], Fct.cond x60 (some 35) (Fct.val 35 (.bool (decide (r55.2 = 1))))⟩,
      ⟨[19, 21], [], [], Fct.val 36 (.bool (x60 && (decide (r55.2 = 1))))⟩,
      ⟨[22], [], [], Fct.val 37 (.bool (x60 && (decide (r55.2 = 1))))⟩,
      ⟨[23], [], [], Fct.cond (x60 && (decide (r55.2 = 1))) (some 38) (Fct.row 62 [] 38 3 R3 [4, 8])⟩,
      ⟨[23, 24], [], [], Fct.cond (x60 && (decide (r55.2 = 1))) (some 39) (Fct.val 39 (.bool r63))⟩,
      ⟨[23, 25], [], [], Fct.val 40 (.bool x64)⟩,
      ⟨[26], [], [], Fct.val 41 (.bool x64)⟩,
      ⟨[27], [], [], Fct.cond x64 (some 42) (Fct.row 66 [] 42 3 R3 [4, 8])⟩,
      ⟨[27, 28], [], [], Fct.cond x64 (some 43) (Fct.val 43 (.bool r67))⟩,
      ⟨[27, 29], [], [], Fct.cond x64 (some 44) (Fct.val 44 (.bool (!r67)))⟩,
      ⟨[27, 30], [], [], Fct.val 45 (.bool (x64 && (!r67)))⟩,
      ⟨[31], [], [], Fct.val 0 (.bool (x64 && (!r67)))⟩]) (by kernel_rfl) hz56 hd56 (fun _ h => nomatch h) ?_ ?_
  · refine steps_cons (fun own a wx hf hsl hE => ?_) ?_
    · obtain ⟨s_1, -⟩ := hsl
      exact sg_plain rfl rfl (or_move (s_1.trans e56_1))
    refine steps_cons (fun own a wx hf hsl hE => ?_) ?_
    · obtain ⟨(f_14 : a.eval (.tmp 14) = .slice A50 r49.length cA50), -⟩ := hf
      exact sg_plain rfl rfl (or_len tu22 f_14 rfl)
    refine steps_cons (fun own a wx hf hsl hE => ?_) ?_
    · obtain ⟨(f_15 : a.eval (.tmp 15) = .int .i64 (r49.length : Int)), -⟩ := hf
      exact sg_plain rfl rfl (or_eql f_15 rfl rfl)
    refine steps_cons (fun own a wx hf hsl hE => ?_) ?_
    · obtain ⟨(f_16 : a.eval (.tmp 16) = .bool (decide ((r49.length : Int) = 4))), -⟩ := hf
      exact sg_plain rfl rfl (or_move f_16)
    refine steps_cons (fun own a wx hf hsl hE => ?_) ?_
    · obtain ⟨(f_17 : a.eval (.tmp 17) = .bool (decide ((r49.length : Int) = 4))), -⟩ := hf
      obtain ⟨s_1, -⟩ := hsl
      refine sg_t rfl rfl rfl f_17 (fun hg => ?_)
      exact or_move (s_1.trans e56_1)
    refine steps_cons (fun own a wx hf hsl hE => ?_) ?_
    · obtain ⟨(f_17 : a.eval (.tmp 17) = .bool (decide ((r49.length : Int) = 4))), c_18, -⟩ := hf
      refine sg_t rfl rfl rfl f_17 (fun hg => ?_)
      have f_18 : a.eval (.tmp 18) = .slice A50 r49.length cA50 := c_18.1 hg
      exact or_index (R := R3) (l := r49) tl22 f_18 rfl (RdO.some_ (RwO.rd b56_A50) (gd_t hx57 hg)) (gd_t hx57 hg)
    refine steps_cons (fun own a wx hf hsl hE => ?_) ?_
    · obtain ⟨(f_17 : a.eval (.tmp 17) = .bool (decide ((r49.length : Int) = 4))), c_19, -⟩ := hf
      refine sg_t rfl rfl rfl f_17 (fun hg => ?_)
      have f_19 : a.eval (.tmp 19) = .pointer (some ((adr A50).add ((0 : Int).toNat * R3.s))) := c_19.1 hg
      exact or_load1 to3 f_19 (CellsAt.zero (RdO.cells (F := E3) (RwO.rd (RwO.evo rfl hE b56_A50)) (gd_t hx57 hg)) rfl)
    refine steps_cons (fun own a wx hf hsl hE => ?_) ?_
    · obtain ⟨(f_17 : a.eval (.tmp 17) = .bool (decide ((r49.length : Int) = 4))), c_20, -⟩ := hf
      refine sg_t rfl rfl rfl f_17 (fun hg => ?_)
      have f_20 : a.eval (.tmp 20) = .int .i64 x57 := c_20.1 hg
      exact or_eql f_20 rfl rfl
    refine steps_cons (fun own a wx hf hsl hE => ?_) ?_
    · obtain ⟨(f_17 : a.eval (.tmp 17) = .bool (decide ((r49.length : Int) = 4))), c_21, -⟩ := hf
      exact sg_plain rfl rfl (or_and f_17 (fun hx => c_21.1 hx) rfl (osome hx58).symm)
    refine steps_cons (fun own a wx hf hsl hE => ?_) ?_
    · obtain ⟨(f_22 : a.eval (.tmp 22) = .bool x58), -⟩ := hf
      exact sg_plain rfl rfl (or_move f_22)
    refine steps_cons (fun own a wx hf hsl hE => ?_) ?_
    · obtain ⟨(f_23 : a.eval (.tmp 23) = .bool x58), -⟩ := hf
      obtain ⟨s_1, -⟩ := hsl
      refine sg_t rfl rfl rfl f_23 (fun hg => ?_)
      exact or_move (s_1.trans e56_1)
    refine steps_cons (fun own a wx hf hsl hE => ?_) ?_
    · obtain ⟨(f_23 : a.eval (.tmp 23) = .bool x58), c_24, -⟩ := hf
      refine sg_t rfl rfl rfl f_23 (fun hg => ?_)
      have f_24 : a.eval (.tmp 24) = .slice A50 r49.length cA50 := c_24.1 hg
      exact or_index (R := R3) (l := r49) tl22 f_24 rfl (RdO.some_ (RwO.rd b56_A50) (gd_t hx59 hg)) (gd_t hx59 hg)
    refine steps_cons (fun own a wx hf hsl hE => ?_) ?_
    · obtain ⟨(f_23 : a.eval (.tmp 23) = .bool x58), c_25, -⟩ := hf
      refine sg_t rfl rfl rfl f_23 (fun hg => ?_)
      have f_25 : a.eval (.tmp 25) = .pointer (some ((adr A50).add ((3 : Int).toNat * R3.s))) := c_25.1 hg
      exact or_load1 to3 f_25 (CellsAt.zero (RdO.cells (F := E3) (RwO.rd (RwO.evo rfl hE b56_A50)) (gd_t hx59 hg)) rfl)
    refine steps_cons (fun own a wx hf hsl hE => ?_) ?_
    · obtain ⟨(f_23 : a.eval (.tmp 23) = .bool x58), c_26, -⟩ := hf
      refine sg_t rfl rfl rfl f_23 (fun hg => ?_)
      have f_26 : a.eval (.tmp 26) = .int .i64 x59 := c_26.1 hg
      exact or_eql f_26 rfl rfl
    refine steps_cons (fun own a wx hf hsl hE => ?_) ?_
    · obtain ⟨(f_23 : a.eval (.tmp 23) = .bool x58), c_27, -⟩ := hf
      exact sg_plain rfl rfl (or_and f_23 (fun hx => c_27.1 hx) rfl rfl)
    refine steps_cons (fun own a wx hf hsl hE => ?_) ?_
    · obtain ⟨(f_28 : a.eval (.tmp 28) = .bool (x58 && (decide (x59 = 0)))), -⟩ := hf
      exact sg_plain rfl rfl (or_move f_28)
    refine steps_cons (fun own a wx hf hsl hE => ?_) ?_
    · obtain ⟨(f_29 : a.eval (.tmp 29) = .bool (x58 && (decide (x59 = 0)))), -⟩ := hf
      obtain ⟨s_2, -⟩ := hsl
      refine sg_t rfl rfl rfl f_29 (fun hg => ?_)
      exact or_move (s_2.trans e56_2)
    refine steps_cons (fun own a wx hf hsl hE => ?_) ?_
    · obtain ⟨(f_29 : a.eval (.tmp 29) = .bool (x58 && (decide (x59 = 0)))), c_30, -⟩ := hf
      refine sg_t rfl rfl rfl f_29 (fun hg => ?_)
      have f_30 : a.eval (.tmp 30) = .int .i64 r55.1 := c_30.1 hg
      exact or_eql f_30 rfl rfl
    refine steps_cons (fun own a wx hf hsl hE => ?_) ?_
    · obtain ⟨(f_29 : a.eval (.tmp 29) = .bool (x58 && (decide (x59 = 0)))), c_31, -⟩ := hf
      exact sg_plain rfl rfl (or_and f_29 (fun hx => c_31.1 hx) rfl (osome hx60).symm)
    refine steps_cons (fun own a wx hf hsl hE => ?_) ?_
    · obtain ⟨(f_32 : a.eval (.tmp 32) = .bool x60), -⟩ := hf
      exact sg_plain rfl rfl (or_move f_32)
    refine steps_cons (fun own a wx hf hsl hE => ?_) ?_
    · obtain ⟨(f_33 : a.eval (.tmp 33) = .bool x60), -⟩ := hf
      obtain ⟨s_3, -⟩ := hsl
      refine sg_t rfl rfl rfl f_33 (fun hg => ?_)
      exact or_move (s_3.trans e56_3)
    refine steps_cons (fun own a wx hf hsl hE => ?_) ?_
    · obtain ⟨(f_33 : a.eval (.tmp 33) = .bool x60), c_34, -⟩ := hf
      refine sg_t rfl rfl rfl f_33 (fun hg => ?_)
      have f_34 : a.eval (.tmp 34) = .int .i64 r55.2 := c_34.1 hg
      exact or_eql f_34 rfl rfl
    refine steps_cons (fun own a wx hf hsl hE => ?_) ?_
    · obtain ⟨(f_33 : a.eval (.tmp 33) = .bool x60), c_35, -⟩ := hf
      exact sg_plain rfl rfl (or_and f_33 (fun hx => c_35.1 hx) rfl rfl)
    refine steps_cons (fun own a wx hf hsl hE => ?_) ?_
    · obtain ⟨(f_36 : a.eval (.tmp 36) = .bool (x60 && (decide (r55.2 = 1)))), -⟩ := hf
      exact sg_plain rfl rfl (or_move f_36)
    refine steps_cons (fun own a wx hf hsl hE => ?_) ?_
    · obtain ⟨(f_37 : a.eval (.tmp 37) = .bool (x60 && (decide (r55.2 = 1)))), -⟩ := hf
      refine sg_t rfl rfl rfl f_37 (fun hg => ?_)
      exact or_lit (lab := 62) (e := 3) (cs := #[.int .i64 4, .int .i64 8]) (F := E3) (or_new [] rfl rfl trivial (by kernel_rfl)) rfl rfl (show 2 ≤ maxLen by decide)
    refine steps_cons (fun own a wx hf hsl hE => ?_) ?_
    · obtain ⟨(f_37 : a.eval (.tmp 37) = .bool (x60 && (decide (r55.2 = 1)))), c_38, -⟩ := hf
      refine sg_t rfl rfl rfl f_37 (fun hg => ?_)
      obtain ⟨⟨A61, cA61⟩, (f_38 : a.eval (.tmp 38) = .slice A61 [4, 8].length cA61), (b_A61 : RwO own 62 [] wx 3 R3 A61 cA61 [4, 8])⟩ := c_38.1 hg
      exact or_call cf11 (args3 f_38 rfl rfl) (order_Common_w _ [4, 8] A61 cA61 4 8 (RdO.zero (RwO.rd b_A61)) r63 (gd_t hr63 hg)) post_val
    refine steps_cons (fun own a wx hf hsl hE => ?_) ?_
    · obtain ⟨(f_37 : a.eval (.tmp 37) = .bool (x60 && (decide (r55.2 = 1)))), c_39, -⟩ := hf
      exact sg_plain rfl rfl (or_and f_37 (fun hx => c_39.1 hx) rfl (osome hx64).symm)
    refine steps_cons (fun own a wx hf hsl hE => ?_) ?_
    · obtain ⟨(f_40 : a.eval (.tmp 40) = .bool x64), -⟩ := hf
      exact sg_plain rfl rfl (or_move f_40)
    refine steps_cons (fun own a wx hf hsl hE => ?_) ?_
    · obtain ⟨(f_41 : a.eval (.tmp 41) = .bool x64), -⟩ := hf
      refine sg_t rfl rfl rfl f_41 (fun hg => ?_)
      exact or_lit (lab := 66) (e := 3) (cs := #[.int .i64 4, .int .i64 8]) (F := E3) (or_new [] rfl rfl trivial (by kernel_rfl)) rfl rfl (show 2 ≤ maxLen by decide)
    refine steps_cons (fun own a wx hf hsl hE => ?_) ?_
    · obtain ⟨(f_41 : a.eval (.tmp 41) = .bool x64), c_42, -⟩ := hf
      refine sg_t rfl rfl rfl f_41 (fun hg => ?_)
      obtain ⟨⟨A65, cA65⟩, (f_42 : a.eval (.tmp 42) = .slice A65 [4, 8].length cA65), (b_A65 : RwO own 66 [] wx 3 R3 A65 cA65 [4, 8])⟩ := c_42.1 hg
      exact or_call cf11 (args3 f_42 rfl rfl) (order_Common_w _ [4, 8] A65 cA65 3 5 (RdO.zero (RwO.rd b_A65)) r67 (gd_t hr67 hg)) post_val
    refine steps_cons (fun own a wx hf hsl hE => ?_) ?_
    · obtain ⟨(f_41 : a.eval (.tmp 41) = .bool x64), c_43, -⟩ := hf
      refine sg_t rfl rfl rfl f_41 (fun hg => ?_)
      have f_43 : a.eval (.tmp 43) = .bool r67 := c_43.1 hg
      exact or_not f_43 rfl
    refine steps_cons (fun own a wx hf hsl hE => ?_) ?_
    · obtain ⟨(f_41 : a.eval (.tmp 41) = .bool x64), c_44, -⟩ := hf
      exact sg_plain rfl rfl (or_and f_41 (fun hx => c_44.1 hx) rfl rfl)
    refine steps_cons (fun own a wx hf hsl hE => ?_) ?_
    · obtain ⟨(f_45 : a.eval (.tmp 45) = .bool (x64 && (!r67))), -⟩ := hf
      exact sg_plain rfl rfl (or_assign f_45)
    exact steps_nil
  intro own68 a68 w68 hd68 hz68 hk68 hf68 hE68
  obtain ⟨(f_0 : a68.eval (.tmp 0) = .bool (x64 && (!r67))), -⟩ := hf68 [32] rfl
  have e68_0 := f_0
  have hX68 := Evo.step hX56 (fun _ => Nat.le_refl 0) hE68 rfl
  refine fl_ret ?_
  obtain rfl := osome hs
  exact hret _ _ _ _ (.inl rfl) hd68 (results1_ rfl (RVal.tmp_ e68_0)) ⟨own68, rfl, hX68⟩

end Go.Proofs.Ythbjlgklmamhjaa
