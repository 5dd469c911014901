/-
  Chapter 21. The walks.
-/
import Derived.Test.YtopnbammdeimcaaBase
import Derived.Test.YtopnbammdeimcaaTy
import Derived.Test.YtopnbammdeimcaaSp1
namespace Go.Proofs.Ytopnbammdeimcaa
open Go.RowKit
set_option linter.unusedVariables false
theorem law03_Cut_w (w : World) (own : Own) (l1 : List (Int × Int)) (Al1 : Option Addr) (cl1 : Nat) (hown : ∀ b, own b ≤ 1) (hl1 : RdO own [1] w R25 Al1 cl1 l1) (r : List (Int × Int)) (hs : law03_Cut l1 = some r) :
    Calls Try.prog 6 #[.slice Al1 l1.length cl1] w fun e w' => ∃ (own' : Own) (x : Option Addr × Nat), e = .returned (.slice x.1 r.length x.2) ∧ Evo [] own own' w w' ∧ RdO own' [1, 2] w' R25 x.1 x.2 r := by
  refine fl_enter (n := 8) rfl rfl rfl (Nat.le_of_ble_eq_true rfl) ?_
  intro a0 Q hd0 hz0 harg hret
  have ha0 := harg 0 _ rfl
  clear harg
  have hE0 : Evo [] own own w w := Evo.refl _ _ _
  refine rg_plain_seq (n := 8) (rs := []) (own0 := own) (K := [])
      (bs := [0])
      (ds := [⟨[], [], [], Fct.val 2 (.slice none 0 0)⟩]) (by kernel_rfl) hz0 hd0 (fun _ h => nomatch h) ?_ ?_
  · refine steps_cons (fun own a wx hf hsl hE => ?_) ?_
    · exact sg_plain rfl rfl (or_assign rfl)
    exact steps_nil
  intro own16 a16 w16 hd16 hz16 hk16 hf16 hE16
  have e16_0 : a16.eval (.tmp 0) = .slice Al1 l1.length cl1 := (hk16 0 rfl).trans ha0
  have hX16 := Evo.step hE0 hown hE16 rfl
  have b16_Al1 := RdO.evo rfl hE16 hl1
  obtain ⟨x17, hx17, hs⟩ := obind hs
  refine rg_plain_seq (n := 8) (rs := []) (own0 := own16) (K := [])
      (bs := [0, 0, 2, 6, 15, 31])
      (ds := [⟨[], [0], [], Fct.val 3 (.slice Al1 l1.length cl1)⟩,
      ⟨[], [0], [], Fct.val 4 (.slice Al1 l1.length cl1)⟩,
      ⟨[1], [], [], Fct.val 5 (.int .i64 (l1.length : Int))⟩,
      ⟨[2], [], [], Fct.val 6 (.int .i64 (mn (l1.length : Int) 40))⟩,
      ⟨[0, 3], [], [], Fct.view [1] 7 R25 x17⟩,
      ⟨[4], [], [], Fct.rel [2, 7] (fun l => ∀ (A18 : Option Addr) (cA18 : Nat), l.getD 1 undef = .slice A18 x17.length cA18 → l.getD 0 undef = .slice A18 x17.length cA18)⟩]) (by kernel_rfl) hz16 hd16 (fun _ h => nomatch h) ?_ ?_
  · refine steps_cons (fun own a wx hf hsl hE => ?_) ?_
    · obtain ⟨s_0, -⟩ := hsl
      exact sg_plain rfl rfl (or_move (s_0.trans e16_0))
    refine steps_cons (fun own a wx hf hsl hE => ?_) ?_
    · obtain ⟨s_0, -⟩ := hsl
      exact sg_plain rfl rfl (or_move (s_0.trans e16_0))
    refine steps_cons (fun own a wx hf hsl hE => ?_) ?_
    · obtain ⟨(f_4 : a.eval (.tmp 4) = .slice Al1 l1.length cl1), -⟩ := hf
      exact sg_plain rfl rfl (or_len tu22 f_4 rfl)
    refine steps_cons (fun own a wx hf hsl hE => ?_) ?_
    · obtain ⟨(f_5 : a.eval (.tmp 5) = .int .i64 (l1.length : Int)), -⟩ := hf
      exact sg_plain rfl rfl (or_min f_5 rfl)
    refine steps_cons (fun own a wx hf hsl hE => ?_) ?_
    · obtain ⟨(f_3 : a.eval (.tmp 3) = .slice Al1 l1.length cl1), (f_6 : a.eval (.tmp 6) = .int .i64 (mn (l1.length : Int) 40)), -⟩ := hf
      exact sg_plain rfl rfl (or_view (R := R25) (l := l1) (L := [1]) tu22 ts25 f_3 Bnd.none_ (Bnd.some_ f_6) Bnd.none_ (RdO.evo rfl hE b16_Al1) hx17 (.inl rfl) (by simp))
    refine steps_cons (fun own a wx hf hsl hE => ?_) ?_
    · obtain ⟨⟨⟨A18, cA18⟩, (f_7 : a.eval (.tmp 7) = .slice A18 x17.length cA18), (b_A18 : RdO own [1] wx R25 A18 cA18 x17)⟩, -⟩ := hf
      exact sg_plain rfl rfl (or_mono (f := Fct.val 2 (.slice A18 x17.length cA18)) (or_assign f_7) (fun own' a' w' v' hp h => fun _ _ h0' => by cases (f_7.symm.trans ((hp.2 7 (by decide)).symm.trans h0')); exact h))
    exact steps_nil
  intro own19 a19 w19 hd19 hz19 hk19 hf19 hE19
  obtain ⟨⟨⟨A18, cA18⟩, (f_7 : a19.eval (.tmp 7) = .slice A18 x17.length cA18), (b_A18 : RdO own19 [1] w19 R25 A18 cA18 x17)⟩, (q_2 : ∀ (A18 : Option Addr) (cA18 : Nat), a19.eval (.tmp 7) = .slice A18 x17.length cA18 → a19.eval (.tmp 2) = .slice A18 x17.length cA18), -⟩ := hf19 [4, 5] rfl
  have f_2 := q_2 _ _ f_7
  have e19_2 := f_2
  have hX19 := Evo.step hX16 hown hE19 rfl
  have b19_A18 := b_A18
  refine fl_ret ?_
  obtain rfl := (osome hs).symm
  exact hret _ _ _ _ (.inl rfl) hd19 (results1_ rfl (RVal.tmp_ e19_2)) ⟨own19, (A18, cA18), rfl, hX19, (RdO.more b19_A18 (by decide))⟩

theorem exact_within_w (w : World) (n1 : Int) (least2 : Int) (greatest3 : Int) (r : Bool) (hs : exact_within n1 least2 greatest3 = some r) :
    Calls Try.prog 38 #[.int .i64 n1, .int .i64 least2, .int .i64 greatest3] w fun e w' => ∃ own' : Own, e = .returned (.bool r) ∧ Evo [] (fun _ => 0) own' w w' := by
  refine fl_enter (n := 15) rfl rfl rfl (Nat.le_of_ble_eq_true rfl) ?_
  intro a0 Q hd0 hz0 harg hret
  have ha0 := harg 0 _ rfl
  have ha1 := harg 1 _ rfl
  have ha2 := harg 2 _ rfl
  clear harg
  have hE0 : Evo [] (fun _ => 0) (fun _ => 0) w w := Evo.refl _ _ _
  refine rg_plain_seq (n := 15) (rs := []) (own0 := (fun _ => 0)) (K := [])
      (bs := [0])
      (ds := [⟨[], [], [], Fct.val 6 (.bool false)⟩]) (by kernel_rfl) hz0 hd0 (fun _ h => nomatch h) ?_ ?_
  · refine steps_cons (fun own a wx hf hsl hE => ?_) ?_
    · exact sg_plain rfl rfl (or_assign rfl)
    exact steps_nil
  intro own14 a14 w14 hd14 hz14 hk14 hf14 hE14
  have e14_0 : a14.eval (.tmp 0) = .int .i64 n1 := (hk14 0 rfl).trans ha0
  have e14_1 : a14.eval (.tmp 1) = .int .i64 least2 := (hk14 1 rfl).trans ha1
  have e14_2 : a14.eval (.tmp 2) = .int .i64 greatest3 := (hk14 2 rfl).trans ha2
  have hX14 := Evo.step hE0 (fun _ => Nat.le_refl 0) hE14 rfl
  obtain ⟨x15, hx15, hs⟩ := obind hs
  refine rg_plain_seq (n := 15) (rs := []) (own0 := own14) (K := [])
      (bs := [0, 0, 3, 7, 15, 15, 63, 127, 255])
      (ds := [⟨[], [1], [], Fct.val 7 (.int .i64 least2)⟩,
      ⟨[], [0], [], Fct.val 8 (.int .i64 n1)⟩,
      ⟨[0, 1], [], [], Fct.val 9 (.bool (decide (least2 ≤ n1)))⟩,
      ⟨[2], [], [], Fct.val 10 (.bool (decide (least2 ≤ n1)))⟩,
      ⟨[3], [0], [], Fct.cond (decide (least2 ≤ n1)) (some 11) (Fct.val 11 (.int .i64 n1))⟩,
      ⟨[3], [2], [], Fct.cond (decide (least2 ≤ n1)) (some 12) (Fct.val 12 (.int .i64 greatest3))⟩,
      ⟨[3, 4, 5], [], [], Fct.cond (decide (least2 ≤ n1)) (some 13) (Fct.val 13 (.bool (decide (n1 ≤ greatest3))))⟩,
      ⟨[3, 6], [], [], Fct.val 14 (.bool x15)⟩,
      ⟨[7], [], [], Fct.val 6 (.bool x15)⟩]) (by kernel_rfl) hz14 hd14 (fun _ h => nomatch h) ?_ ?_
  · refine steps_cons (fun own a wx hf hsl hE => ?_) ?_
    · obtain ⟨s_1, -⟩ := hsl
      exact sg_plain rfl rfl (or_move (s_1.trans e14_1))
    refine steps_cons (fun own a wx hf hsl hE => ?_) ?_
    · obtain ⟨s_0, -⟩ := hsl
      exact sg_plain rfl rfl (or_move (s_0.trans e14_0))
    refine steps_cons (fun own a wx hf hsl hE => ?_) ?_
    · obtain ⟨(f_7 : a.eval (.tmp 7) = .int .i64 least2), (f_8 : a.eval (.tmp 8) = .int .i64 n1), -⟩ := hf
      exact sg_plain rfl rfl (or_leq f_7 f_8 rfl)
    refine steps_cons (fun own a wx hf hsl hE => ?_) ?_
    · obtain ⟨(f_9 : a.eval (.tmp 9) = .bool (decide (least2 ≤ n1))), -⟩ := hf
      exact sg_plain rfl rfl (or_move f_9)
    refine steps_cons (fun own a wx hf hsl hE => ?_) ?_
    · obtain ⟨(f_10 : a.eval (.tmp 10) = .bool (decide (least2 ≤ n1))), -⟩ := hf
      obtain ⟨s_0, -⟩ := hsl
      refine sg_t rfl rfl rfl f_10 (fun hg => ?_)
      exact or_move (s_0.trans e14_0)
    refine steps_cons (fun own a wx hf hsl hE => ?_) ?_
    · obtain ⟨(f_10 : a.eval (.tmp 10) = .bool (decide (least2 ≤ n1))), -⟩ := hf
      obtain ⟨s_2, -⟩ := hsl
      refine sg_t rfl rfl rfl f_10 (fun hg => ?_)
      exact or_move (s_2.trans e14_2)
    refine steps_cons (fun own a wx hf hsl hE => ?_) ?_
    · obtain ⟨(f_10 : a.eval (.tmp 10) = .bool (decide (least2 ≤ n1))), c_11, c_12, -⟩ := hf
      refine sg_t rfl rfl rfl f_10 (fun hg => ?_)
      have f_11 : a.eval (.tmp 11) = .int .i64 n1 := c_11.1 hg
      have f_12 : a.eval (.tmp 12) = .int .i64 greatest3 := c_12.1 hg
      exact or_leq f_11 f_12 rfl
    refine steps_cons (fun own a wx hf hsl hE => ?_) ?_
    · obtain ⟨(f_10 : a.eval (.tmp 10) = .bool (decide (least2 ≤ n1))), c_13, -⟩ := hf
      exact sg_plain rfl rfl (or_and f_10 (fun hx => c_13.1 hx) rfl (osome hx15).symm)
    refine steps_cons (fun own a wx hf hsl hE => ?_) ?_
    · obtain ⟨(f_14 : a.eval (.tmp 14) = .bool x15), -⟩ := hf
      exact sg_plain rfl rfl (or_assign f_14)
    exact steps_nil
  intro own16 a16 w16 hd16 hz16 hk16 hf16 hE16
  obtain ⟨(f_6 : a16.eval (.tmp 6) = .bool x15), -⟩ := hf16 [8] rfl
  have e16_6 := f_6
  have hX16 := Evo.step hX14 (fun _ => Nat.le_refl 0) hE16 rfl
  refine fl_ret ?_
  obtain rfl := (osome hs).symm
  exact hret _ _ _ _ (.inl rfl) hd16 (results1_ rfl (RVal.tmp_ e16_6)) ⟨own16, rfl, hX16⟩

theorem exact_Right_w (w : World) (l1 : List (Int × Int)) (Al1 : Option Addr) (cl1 : Nat) (hl1 : RdO (fun _ => 0) [0] w R25 Al1 cl1 l1) (r : Bool) (hs : exact_Right l1 = some r) :
    Calls Try.prog 24 #[.slice Al1 l1.length cl1] w fun e w' => ∃ own' : Own, e = .returned (.bool r) ∧ Evo [] (fun _ => 0) own' w w' := by
  refine fl_enter (n := 22) rfl rfl rfl (Nat.le_of_ble_eq_true rfl) ?_
  intro a0 Q hd0 hz0 harg hret
  have ha0 := harg 0 _ rfl
  clear harg
  have hE0 : Evo [] (fun _ => 0) (fun _ => 0) w w := Evo.refl _ _ _
  refine rg_plain_seq (n := 22) (rs := []) (own0 := (fun _ => 0)) (K := [])
      (bs := [0])
      (ds := [⟨[], [], [], Fct.val 2 (.bool false)⟩]) (by kernel_rfl) hz0 hd0 (fun _ h => nomatch h) ?_ ?_
  · refine steps_cons (fun own a wx hf hsl hE => ?_) ?_
    · exact sg_plain rfl rfl (or_assign rfl)
    exact steps_nil
  intro own69 a69 w69 hd69 hz69 hk69 hf69 hE69
  have e69_0 : a69.eval (.tmp 0) = .slice Al1 l1.length cl1 := (hk69 0 rfl).trans ha0
  have hX69 := Evo.step hE0 (fun _ => Nat.le_refl 0) hE69 rfl
  have b69_Al1 := RdO.evo rfl hE69 hl1
  refine fl_seq (fun Q70 hn70 hp70 => ?_)
  refine rg_plain_seq (n := 22) (rs := []) (own0 := own69) (K := [])
      (bs := [0, 1, 0])
      (ds := [⟨[], [0], [], Fct.val 5 (.slice Al1 l1.length cl1)⟩,
      ⟨[0], [], [], Fct.val 6 (.int .i64 (l1.length : Int))⟩,
      ⟨[], [], [], Fct.val 7 (.int .i64 0)⟩]) (by kernel_rfl) hz69 hd69 (fun _ h => nomatch h) ?_ ?_
  · refine steps_cons (fun own a wx hf hsl hE => ?_) ?_
    · obtain ⟨s_0, -⟩ := hsl
      exact sg_plain rfl rfl (or_move (s_0.trans e69_0))
    refine steps_cons (fun own a wx hf hsl hE => ?_) ?_
    · obtain ⟨(f_5 : a.eval (.tmp 5) = .slice Al1 l1.length cl1), -⟩ := hf
      exact sg_plain rfl rfl (or_len tu22 f_5 rfl)
    refine steps_cons (fun own a wx hf hsl hE => ?_) ?_
    · exact sg_plain rfl rfl (or_move rfl)
    exact steps_nil
  intro own71 a71 w71 hd71 hz71 hk71 hf71 hE71
  obtain ⟨(f_5 : a71.eval (.tmp 5) = .slice Al1 l1.length cl1), (f_6 : a71.eval (.tmp 6) = .int .i64 (l1.length : Int)), (f_7 : a71.eval (.tmp 7) = .int .i64 0), -⟩ := hf71 [0, 1, 2] rfl
  have e71_5 := f_5
  have e71_6 := f_6
  have e71_7 := f_7
  have hX71 := Evo.step hX69 (fun _ => Nat.le_refl 0) hE71 rfl
  have b71_Al1 := RdO.evo rfl hE71 b69_Al1
  refine fl_block (fun Q72 hn72 hx72 hp72 => ?_)
  refine fl_loop (body := (fun s => exact_Right_b1 l1 s)) (z := r) (show loopO _ _ = _ from hs) (fun (x90 : Int) a wx => ∃ (ox : Own), a.defers = [] ∧ a.tmps.size = 22 ∧ a.eval (.tmp 5) = .slice Al1 l1.length cl1 ∧ a.eval (.tmp 6) = .int .i64 (l1.length : Int) ∧ a.eval (.tmp 7) = .int .i64 x90 ∧ Evo [] (fun _ => 0) ox w wx ∧ RdO ox [0] wx R25 Al1 cl1 l1) ?_ ?_
  · exact ⟨own71, hd71, hz71, e71_5, e71_6, e71_7, hX71, b71_Al1⟩
  · rintro x90 zz108 a108 w108 ⟨own108, hd109, hz109, e109_5, e109_6, e109_7, hE109, b109_Al1⟩ hs Q108 hn108 hp108 hz108
    have hs : exact_Right_b1 l1 x90 = some zz108 := hs
    refine rg_plain_seq (n := 22) (rs := []) (own0 := own108) (K := [])
        (bs := [0])
        (ds := [⟨[], [7, 6], [], Fct.val 8 (.bool (decide (x90 < (l1.length : Int))))⟩]) (by kernel_rfl) hz109 hd109 (fun _ h => nomatch h) ?_ ?_
    · refine steps_cons (fun own a wx hf hsl hE => ?_) ?_
      · obtain ⟨s_7, s_6, -⟩ := hsl
        exact sg_plain rfl rfl (or_lss (s_7.trans e109_7) (s_6.trans e109_6) rfl)
      exact steps_nil
    intro own110 a110 w110 hd110 hz110 hk110 hf110 hE110
    have e110_5 : a110.eval (.tmp 5) = .slice Al1 l1.length cl1 := (hk110 5 rfl).trans e109_5
    have e110_6 : a110.eval (.tmp 6) = .int .i64 (l1.length : Int) := (hk110 6 rfl).trans e109_6
    have e110_7 : a110.eval (.tmp 7) = .int .i64 x90 := (hk110 7 rfl).trans e109_7
    obtain ⟨(f_8 : a110.eval (.tmp 8) = .bool (decide (x90 < (l1.length : Int)))), -⟩ := hf110 [0] rfl
    have e110_8 := f_8
    have hX110 := Evo.step hE109 (fun _ => Nat.le_refl 0) hE110 rfl
    have b110_Al1 := RdO.evo rfl hE110 b109_Al1
    refine fl_seq (fun Q111 hn111 hp111 => ?_)
    refine fl_cond e110_8 hs (fun c112 hs => ?_) (fun c112 hs => ?_)
    · refine fl_skip ?_
      refine hn111 _ _ ?_
      refine fl_seq (fun Q113 hn113 hp113 => ?_)
      refine fl_block (fun Q114 hn114 hx114 hp114 => ?_)
      obtain ⟨x115, hx115, hs⟩ := obind hs
      refine rg_plain_seq (n := 22) (rs := []) (own0 := own110) (K := [117])
          (bs := [0, 1, 0, 7])
          (ds := [⟨[], [5, 7], [], Fct.val 9 (.pointer (some ((adr Al1).add ((x90 : Int).toNat * R25.s))))⟩,
          ⟨[0], [], [], Fct.val 10 (.agg #[.int .i64 x115.1, .int .i64 x115.2])⟩,
          ⟨[], [], [], Fct.blk 117 4 (fun g => .pointer (some ⟨g, 0, none⟩)) 25 #[.int .i64 0, .int .i64 0]⟩,
          ⟨[2, 1], [], [117], Fct.blk 118 4 (fun g => .pointer (some ⟨g, 0, none⟩)) 25 #[.int .i64 x115.1, .int .i64 x115.2]⟩]) (by kernel_rfl) hz110 hd110 (fun _ h => nomatch h) ?_ ?_
      · refine steps_cons (fun own a wx hf hsl hE => ?_) ?_
        · obtain ⟨s_5, s_7, -⟩ := hsl
          exact sg_plain rfl rfl (or_index (R := R25) (l := l1) tl22 (s_5.trans e110_5) (s_7.trans e110_7) (RdO.some_ b110_Al1 hx115) hx115)
        refine steps_cons (fun own a wx hf hsl hE => ?_) ?_
        · obtain ⟨(f_9 : a.eval (.tmp 9) = .pointer (some ((adr Al1).add ((x90 : Int).toNat * R25.s)))), -⟩ := hf
          exact sg_plain rfl rfl (or_load (l := E25.f x115) ta25 f_9 (RdO.cells (F := E25) (RdO.evo rfl hE b110_Al1) hx115) rfl)
        refine steps_cons (fun own a wx hf hsl hE => ?_) ?_
        · exact sg_plain rfl rfl (or_new [] rfl rfl trivial (by kernel_rfl))
        refine steps_cons (fun own a wx hf hsl hE => ?_) ?_
        · obtain ⟨⟨g116, (f_4 : a.eval (.tmp 4) = .pointer (some ⟨g116, 0, none⟩)), (b_g116 : BlkO own 117 wx g116 25 #[.int .i64 0, .int .i64 0])⟩, (f_10 : a.eval (.tmp 10) = .agg #[.int .i64 x115.1, .int .i64 x115.2]), -⟩ := hf
          exact sg_plain rfl rfl (or_store (l := #[.int .i64 x115.1, .int .i64 x115.2]) (lab := 117) (lab2 := 118) ts25 f_4 f_10 b_g116 (by simp) (by kernel_rfl) (mem_of rfl) (by decide) (by kernel_rfl) (fun own' a' w' ha hb => ⟨_, (ha 4).trans f_4, hb⟩))
        exact steps_nil
      intro own119 a119 w119 hd119 hz119 hk119 hf119 hE119
      have e119_5 : a119.eval (.tmp 5) = .slice Al1 l1.length cl1 := (hk119 5 rfl).trans e110_5
      have e119_6 : a119.eval (.tmp 6) = .int .i64 (l1.length : Int) := (hk119 6 rfl).trans e110_6
      have e119_7 : a119.eval (.tmp 7) = .int .i64 x90 := (hk119 7 rfl).trans e110_7
      obtain ⟨⟨g116, (f_4 : a119.eval (.tmp 4) = .pointer (some ⟨g116, 0, none⟩)), (b_g116 : BlkO own119 118 w119 g116 25 #[.int .i64 x115.1, .int .i64 x115.2])⟩, -⟩ := hf119 [3] rfl
      have e119_4 := f_4
      have hX119 := Evo.step hX110 (fun _ => Nat.le_refl 0) hE119 rfl
      have b119_Al1 := RdO.evo rfl hE119 b110_Al1
      have b119_g116 := b_g116
      obtain ⟨r120, hr120, hs⟩ := obind hs
      obtain ⟨r121, hr121, hs⟩ := obind hs
      refine rg_plain_seq (n := 22) (rs := []) (own0 := own119) (K := [])
          (bs := [0, 1, 3, 7, 15, 31, 63, 127, 255, 511])
          (ds := [⟨[], [4], [], Fct.val 11 (.pointer (some ⟨g116, 0, none⟩))⟩,
          ⟨[0], [], [], Fct.val 12 (.int .i64 x115.1)⟩,
          ⟨[1], [], [], Fct.val 13 (.bool r120)⟩,
          ⟨[2], [], [], Fct.val 14 (.bool (!r120))⟩,
          ⟨[3], [], [], Fct.val 15 (.bool (!r120))⟩,
          ⟨[4], [4], [], Fct.cond (!(!r120)) (some 16) (Fct.val 16 (.pointer (some ⟨g116, 1, none⟩)))⟩,
          ⟨[4, 5], [], [], Fct.cond (!(!r120)) (some 17) (Fct.val 17 (.int .i64 x115.2))⟩,
          ⟨[4, 6], [], [], Fct.cond (!(!r120)) (some 18) (Fct.val 18 (.bool r121))⟩,
          ⟨[4, 7], [], [], Fct.cond (!(!r120)) (some 19) (Fct.val 19 (.bool (!r121)))⟩,
          ⟨[4, 8], [], [], Fct.val 20 (.bool ((!r120) || (!r121)))⟩]) (by kernel_rfl) hz119 hd119 (fun _ h => nomatch h) ?_ ?_
      · refine steps_cons (fun own a wx hf hsl hE => ?_) ?_
        · obtain ⟨s_4, -⟩ := hsl
          exact sg_plain rfl rfl (or_field fo25_0 (s_4.trans e119_4) (by rfl))
        refine steps_cons (fun own a wx hf hsl hE => ?_) ?_
        · obtain ⟨(f_11 : a.eval (.tmp 11) = .pointer (some ⟨g116, 0, none⟩)), -⟩ := hf
          exact sg_plain rfl rfl (or_load1 to3 f_11 (Blk.at_ (BlkO.evo (by decide) hE b119_g116).2 0 rfl))
        refine steps_cons (fun own a wx hf hsl hE => ?_) ?_
        · obtain ⟨(f_12 : a.eval (.tmp 12) = .int .i64 x115.1), -⟩ := hf
          exact sg_plain rfl rfl (or_call cf38 (args3 f_12 rfl rfl) (exact_within_w _ x115.1 (-16777216) 16777216  r120 hr120) post_val)
        refine steps_cons (fun own a wx hf hsl hE => ?_) ?_
        · obtain ⟨(f_13 : a.eval (.tmp 13) = .bool r120), -⟩ := hf
          exact sg_plain rfl rfl (or_not f_13 rfl)
        refine steps_cons (fun own a wx hf hsl hE => ?_) ?_
        · obtain ⟨(f_14 : a.eval (.tmp 14) = .bool (!r120)), -⟩ := hf
          exact sg_plain rfl rfl (or_move f_14)
        refine steps_cons (fun own a wx hf hsl hE => ?_) ?_
        · obtain ⟨(f_15 : a.eval (.tmp 15) = .bool (!r120)), -⟩ := hf
          obtain ⟨s_4, -⟩ := hsl
          refine sg_f rfl rfl rfl f_15 (fun hg => ?_)
          exact or_field fo25_1 (s_4.trans e119_4) (by rfl)
        refine steps_cons (fun own a wx hf hsl hE => ?_) ?_
        · obtain ⟨(f_15 : a.eval (.tmp 15) = .bool (!r120)), c_16, -⟩ := hf
          refine sg_f rfl rfl rfl f_15 (fun hg => ?_)
          have f_16 : a.eval (.tmp 16) = .pointer (some ⟨g116, 1, none⟩) := c_16.1 hg
          exact or_load1 to3 f_16 (Blk.at_ (BlkO.evo (by decide) hE b119_g116).2 1 rfl)
        refine steps_cons (fun own a wx hf hsl hE => ?_) ?_
        · obtain ⟨(f_15 : a.eval (.tmp 15) = .bool (!r120)), c_17, -⟩ := hf
          refine sg_f rfl rfl rfl f_15 (fun hg => ?_)
          have f_17 : a.eval (.tmp 17) = .int .i64 x115.2 := c_17.1 hg
          exact or_call cf38 (args3 f_17 rfl rfl) (exact_within_w _ x115.2 (-16777216) 16777216  r121 (gd_t hr121 hg)) post_val
        refine steps_cons (fun own a wx hf hsl hE => ?_) ?_
        · obtain ⟨(f_15 : a.eval (.tmp 15) = .bool (!r120)), c_18, -⟩ := hf
          refine sg_f rfl rfl rfl f_15 (fun hg => ?_)
          have f_18 : a.eval (.tmp 18) = .bool r121 := c_18.1 hg
          exact or_not f_18 rfl
        refine steps_cons (fun own a wx hf hsl hE => ?_) ?_
        · obtain ⟨(f_15 : a.eval (.tmp 15) = .bool (!r120)), c_19, -⟩ := hf
          exact sg_plain rfl rfl (or_or f_15 rfl (fun hx => c_19.1 hx) rfl)
        exact steps_nil
      intro own122 a122 w122 hd122 hz122 hk122 hf122 hE122
      have e122_5 : a122.eval (.tmp 5) = .slice Al1 l1.length cl1 := (hk122 5 rfl).trans e119_5
      have e122_6 : a122.eval (.tmp 6) = .int .i64 (l1.length : Int) := (hk122 6 rfl).trans e119_6
      have e122_7 : a122.eval (.tmp 7) = .int .i64 x90 := (hk122 7 rfl).trans e119_7
      obtain ⟨(f_20 : a122.eval (.tmp 20) = .bool ((!r120) || (!r121))), -⟩ := hf122 [9] rfl
      have e122_20 := f_20
      have hX122 := Evo.step hX119 (fun _ => Nat.le_refl 0) hE122 rfl
      have b122_Al1 := RdO.evo rfl hE122 b119_Al1
      refine fl_cond e122_20 hs (fun c123 hs => ?_) (fun c123 hs => ?_)
      · refine rg_plain_seq (n := 22) (rs := []) (own0 := own122) (K := [])
            (bs := [0])
            (ds := [⟨[], [], [], Fct.val 2 (.bool false)⟩]) (by kernel_rfl) hz122 hd122 (fun _ h => nomatch h) ?_ ?_
        · refine steps_cons (fun own a wx hf hsl hE => ?_) ?_
          · exact sg_plain rfl rfl (or_assign rfl)
          exact steps_nil
        intro own124 a124 w124 hd124 hz124 hk124 hf124 hE124
        obtain ⟨(f_2 : a124.eval (.tmp 2) = .bool false), -⟩ := hf124 [0] rfl
        have e124_2 := f_2
        have hX124 := Evo.step hX122 (fun _ => Nat.le_refl 0) hE124 rfl
        refine fl_ret ?_
        refine hp114 _ _ _ rfl ?_
        refine hp113 _ _ _ rfl ?_
        replace hs := hz108 _ hs
        refine hp108 _ _ _ rfl ?_
        refine hp72 _ _ _ rfl ?_
        refine hp70 _ _ _ rfl ?_
        obtain rfl := osome hs
        exact hret _ _ _ _ (.inl rfl) hd124 (results1_ rfl (RVal.tmp_ e124_2)) ⟨own124, rfl, hX124⟩
      refine fl_skip ?_
      refine hn114 _ _ ?_
      refine hn113 _ _ ?_
      refine rg_plain (n := 22) (rs := []) (own0 := own122) (K := [])
          (bs := [0, 1])
          (ds := [⟨[], [7], [], Fct.val 21 (.int .i64 (ad x90 1))⟩,
          ⟨[0], [], [], Fct.val 7 (.int .i64 (ad x90 1))⟩]) (by kernel_rfl) hz122 hd122 (fun _ h => nomatch h) ?_ ?_
      · refine steps_cons (fun own a wx hf hsl hE => ?_) ?_
        · obtain ⟨s_7, -⟩ := hsl
          exact sg_plain rfl rfl (or_add (s_7.trans e122_7) rfl rfl)
        refine steps_cons (fun own a wx hf hsl hE => ?_) ?_
        · obtain ⟨(f_21 : a.eval (.tmp 21) = .int .i64 (ad x90 1)), -⟩ := hf
          exact sg_plain rfl rfl (or_move f_21)
        exact steps_nil
      intro own125 a125 w125 hd125 hz125 hk125 hf125 hE125
      have e125_5 : a125.eval (.tmp 5) = .slice Al1 l1.length cl1 := (hk125 5 rfl).trans e122_5
      have e125_6 : a125.eval (.tmp 6) = .int .i64 (l1.length : Int) := (hk125 6 rfl).trans e122_6
      obtain ⟨(f_7 : a125.eval (.tmp 7) = .int .i64 (ad x90 1)), -⟩ := hf125 [1] rfl
      have e125_7 := f_7
      have hX125 := Evo.step hX122 (fun _ => Nat.le_refl 0) hE125 rfl
      have b125_Al1 := RdO.evo rfl hE125 b122_Al1
      exact hn108 _ _ _ hs ⟨own125, hd125, hz125, e125_5, e125_6, e125_7, hX125, b125_Al1⟩
    refine fl_exit ?_
    refine hp111 _ _ _ rfl ?_
    replace hs := hz108 _ hs
    refine hp108 _ _ _ rfl ?_
    refine hx72 _ _ ?_
    refine hn70 _ _ ?_
    refine rg_plain_seq (n := 22) (rs := []) (own0 := own110) (K := [])
        (bs := [0])
        (ds := [⟨[], [], [], Fct.val 2 (.bool true)⟩]) (by kernel_rfl) hz110 hd110 (fun _ h => nomatch h) ?_ ?_
    · refine steps_cons (fun own a wx hf hsl hE => ?_) ?_
      · exact sg_plain rfl rfl (or_assign rfl)
      exact steps_nil
    intro own126 a126 w126 hd126 hz126 hk126 hf126 hE126
    obtain ⟨(f_2 : a126.eval (.tmp 2) = .bool true), -⟩ := hf126 [0] rfl
    have e126_2 := f_2
    have hX126 := Evo.step hX110 (fun _ => Nat.le_refl 0) hE126 rfl
    refine fl_ret ?_
    obtain rfl := osome hs
    exact hret _ _ _ _ (.inl rfl) hd126 (results1_ rfl (RVal.tmp_ e126_2)) ⟨own126, rfl, hX126⟩

theorem exact_Floor_w (w : World) (n1 : Int) (d2 : Int) (r : Int × Bool) (hs : exact_Floor n1 d2 = some r) :
    Calls Try.prog 45 #[.int .i64 n1, .int .i64 d2] w fun e w' => ∃ own' : Own, e = .returned (.tuple #[.int .i64 r.1, .bool r.2]) ∧ Evo [] (fun _ => 0) own' w w' := by
  refine fl_enter (n := 25) rfl rfl rfl (Nat.le_of_ble_eq_true rfl) ?_
  intro a0 Q hd0 hz0 harg hret
  have ha0 := harg 0 _ rfl
  have ha1 := harg 1 _ rfl
  clear harg
  have hE0 : Evo [] (fun _ => 0) (fun _ => 0) w w := Evo.refl _ _ _
  refine rg_plain_seq (n := 25) (rs := []) (own0 := (fun _ => 0)) (K := [])
      (bs := [0, 1])
      (ds := [⟨[], [], [], Fct.val 4 (.int .i64 0)⟩,
      ⟨[], [], [], Fct.val 5 (.bool false)⟩]) (by kernel_rfl) hz0 hd0 (fun _ h => nomatch h) ?_ ?_
  · refine steps_cons (fun own a wx hf hsl hE => ?_) ?_
    · exact sg_plain rfl rfl (or_assign rfl)
    refine steps_cons (fun own a wx hf hsl hE => ?_) ?_
    · exact sg_plain rfl rfl (or_assign rfl)
    exact steps_nil
  intro own49 a49 w49 hd49 hz49 hk49 hf49 hE49
  have e49_0 : a49.eval (.tmp 0) = .int .i64 n1 := (hk49 0 rfl).trans ha0
  have e49_1 : a49.eval (.tmp 1) = .int .i64 d2 := (hk49 1 rfl).trans ha1
  have hX49 := Evo.step hE0 (fun _ => Nat.le_refl 0) hE49 rfl
  refine fl_fwd (l := 0) rfl ?_
  intro Q50 hj50 hp50
  have K67 : ∀ (a67 : Act) (w67 : World) (own67 : Own) (q66 : Int), a67.defers = [] → a67.tmps.size = 25 → a67.eval (.tmp 6) = .int .i64 q66 → Evo [] (fun _ => 0) own67 w w67 → exact_Floor_k1 q66 = some r → Q50 (.goto 0) a67 w67 := by
    intro a67 w67 own67 q66 hd68 hz68 e68_6 hE68 hs
    refine hj50 _ _ (fun Q69 hp69 => ?_)
    refine fl_seq (fun Q70 hn70 hp70 => ?_)
    refine fl_skip ?_
    refine hn70 _ _ ?_
    refine rg_plain_seq (n := 25) (rs := []) (own0 := own67) (K := [])
        (bs := [0, 1, 3])
        (ds := [⟨[], [6], [], Fct.val 24 (.int .i64 q66)⟩,
        ⟨[0], [], [], Fct.val 4 (.int .i64 q66)⟩,
        ⟨[], [], [], Fct.val 5 (.bool true)⟩]) (by kernel_rfl) hz68 hd68 (fun _ h => nomatch h) ?_ ?_
    · refine steps_cons (fun own a wx hf hsl hE => ?_) ?_
      · obtain ⟨s_6, -⟩ := hsl
        exact sg_plain rfl rfl (or_move (s_6.trans e68_6))
      refine steps_cons (fun own a wx hf hsl hE => ?_) ?_
      · obtain ⟨(f_24 : a.eval (.tmp 24) = .int .i64 q66), -⟩ := hf
        exact sg_plain rfl rfl (or_assign f_24)
      refine steps_cons (fun own a wx hf hsl hE => ?_) ?_
      · exact sg_plain rfl rfl (or_assign rfl)
      exact steps_nil
    intro own71 a71 w71 hd71 hz71 hk71 hf71 hE71
    obtain ⟨(f_4 : a71.eval (.tmp 4) = .int .i64 q66), (f_5 : a71.eval (.tmp 5) = .bool true), -⟩ := hf71 [1, 2] rfl
    have e71_4 := f_4
    have e71_5 := f_5
    have hX71 := Evo.step hE68 (fun _ => Nat.le_refl 0) hE71 rfl
    refine fl_ret ?_
    refine hp69.leaves _ _ _ rfl ?_
    obtain rfl := osome hs
    exact hret _ _ _ _ (.inl rfl) hd71 (results2_ rfl (RVal.tmp_ e71_4) (RVal.tmp_ e71_5)) ⟨own71, rfl, hX71⟩
  refine fl_seq (fun Q72 hn72 hp72 => ?_)
  obtain ⟨r73, hr73, hs⟩ := obind hs
  obtain ⟨r74, hr74, hs⟩ := obind hs
  refine rg_plain_seq (n := 25) (rs := []) (own0 := own49) (K := [])
      (bs := [0, 1, 3, 7, 15, 31, 63, 127])
      (ds := [⟨[], [1], [], Fct.val 7 (.int .i64 d2)⟩,
      ⟨[0], [], [], Fct.val 8 (.bool r73)⟩,
      ⟨[1], [], [], Fct.val 9 (.bool (!r73))⟩,
      ⟨[2], [], [], Fct.val 10 (.bool (!r73))⟩,
      ⟨[3], [0], [], Fct.cond (!(!r73)) (some 11) (Fct.val 11 (.int .i64 n1))⟩,
      ⟨[3, 4], [], [], Fct.cond (!(!r73)) (some 12) (Fct.val 12 (.bool r74))⟩,
      ⟨[3, 5], [], [], Fct.cond (!(!r73)) (some 13) (Fct.val 13 (.bool (!r74)))⟩,
      ⟨[3, 6], [], [], Fct.val 14 (.bool ((!r73) || (!r74)))⟩]) (by kernel_rfl) hz49 hd49 (fun _ h => nomatch h) ?_ ?_
  · refine steps_cons (fun own a wx hf hsl hE => ?_) ?_
    · obtain ⟨s_1, -⟩ := hsl
      exact sg_plain rfl rfl (or_move (s_1.trans e49_1))
    refine steps_cons (fun own a wx hf hsl hE => ?_) ?_
    · obtain ⟨(f_7 : a.eval (.tmp 7) = .int .i64 d2), -⟩ := hf
      exact sg_plain rfl rfl (or_call cf38 (args3 f_7 rfl rfl) (exact_within_w _ d2 1 1152921504606846976  r73 hr73) post_val)
    refine steps_cons (fun own a wx hf hsl hE => ?_) ?_
    · obtain ⟨(f_8 : a.eval (.tmp 8) = .bool r73), -⟩ := hf
      exact sg_plain rfl rfl (or_not f_8 rfl)
    refine steps_cons (fun own a wx hf hsl hE => ?_) ?_
    · obtain ⟨(f_9 : a.eval (.tmp 9) = .bool (!r73)), -⟩ := hf
      exact sg_plain rfl rfl (or_move f_9)
    refine steps_cons (fun own a wx hf hsl hE => ?_) ?_
    · obtain ⟨(f_10 : a.eval (.tmp 10) = .bool (!r73)), -⟩ := hf
      obtain ⟨s_0, -⟩ := hsl
      refine sg_f rfl rfl rfl f_10 (fun hg => ?_)
      exact or_move (s_0.trans e49_0)
    refine steps_cons (fun own a wx hf hsl hE => ?_) ?_
    · obtain ⟨(f_10 : a.eval (.tmp 10) = .bool (!r73)), c_11, -⟩ := hf
      refine sg_f rfl rfl rfl f_10 (fun hg => ?_)
      have f_11 : a.eval (.tmp 11) = .int .i64 n1 := c_11.1 hg
      exact or_call cf38 (args3 f_11 rfl rfl) (exact_within_w _ n1 (-1152921504606846976) 1152921504606846976  r74 (gd_t hr74 hg)) post_val
    refine steps_cons (fun own a wx hf hsl hE => ?_) ?_
    · obtain ⟨(f_10 : a.eval (.tmp 10) = .bool (!r73)), c_12, -⟩ := hf
      refine sg_f rfl rfl rfl f_10 (fun hg => ?_)
      have f_12 : a.eval (.tmp 12) = .bool r74 := c_12.1 hg
      exact or_not f_12 rfl
    refine steps_cons (fun own a wx hf hsl hE => ?_) ?_
    · obtain ⟨(f_10 : a.eval (.tmp 10) = .bool (!r73)), c_13, -⟩ := hf
      exact sg_plain rfl rfl (or_or f_10 rfl (fun hx => c_13.1 hx) rfl)
    exact steps_nil
  intro own75 a75 w75 hd75 hz75 hk75 hf75 hE75
  have e75_0 : a75.eval (.tmp 0) = .int .i64 n1 := (hk75 0 rfl).trans e49_0
  have e75_1 : a75.eval (.tmp 1) = .int .i64 d2 := (hk75 1 rfl).trans e49_1
  obtain ⟨(f_14 : a75.eval (.tmp 14) = .bool ((!r73) || (!r74))), -⟩ := hf75 [7] rfl
  have e75_14 := f_14
  have hX75 := Evo.step hX49 (fun _ => Nat.le_refl 0) hE75 rfl
  refine fl_cond e75_14 hs (fun c76 hs => ?_) (fun c76 hs => ?_)
  · refine rg_plain_seq (n := 25) (rs := []) (own0 := own75) (K := [])
        (bs := [0, 1])
        (ds := [⟨[], [], [], Fct.val 4 (.int .i64 0)⟩,
        ⟨[], [], [], Fct.val 5 (.bool false)⟩]) (by kernel_rfl) hz75 hd75 (fun _ h => nomatch h) ?_ ?_
    · refine steps_cons (fun own a wx hf hsl hE => ?_) ?_
      · exact sg_plain rfl rfl (or_assign rfl)
      refine steps_cons (fun own a wx hf hsl hE => ?_) ?_
      · exact sg_plain rfl rfl (or_assign rfl)
      exact steps_nil
    intro own77 a77 w77 hd77 hz77 hk77 hf77 hE77
    obtain ⟨(f_4 : a77.eval (.tmp 4) = .int .i64 0), (f_5 : a77.eval (.tmp 5) = .bool false), -⟩ := hf77 [0, 1] rfl
    have e77_4 := f_4
    have e77_5 := f_5
    have hX77 := Evo.step hX75 (fun _ => Nat.le_refl 0) hE77 rfl
    refine fl_ret ?_
    refine hp72 _ _ _ rfl ?_
    refine hp50.leaves _ _ _ rfl ?_
    obtain rfl := osome hs
    exact hret _ _ _ _ (.inl rfl) hd77 (results2_ rfl (RVal.tmp_ e77_4) (RVal.tmp_ e77_5)) ⟨own77, rfl, hX77⟩
  refine fl_skip ?_
  refine hn72 _ _ ?_
  obtain ⟨x78, hx78, hs⟩ := obind hs
  refine rg_plain_seq (n := 25) (rs := []) (own0 := own75) (K := [])
      (bs := [0, 0, 3, 7])
      (ds := [⟨[], [0], [], Fct.val 15 (.int .i64 n1)⟩,
      ⟨[], [1], [], Fct.val 16 (.int .i64 d2)⟩,
      ⟨[0, 1], [], [], Fct.val 17 (.int .i64 x78)⟩,
      ⟨[2], [], [], Fct.val 6 (.int .i64 x78)⟩]) (by kernel_rfl) hz75 hd75 (fun _ h => nomatch h) ?_ ?_
  · refine steps_cons (fun own a wx hf hsl hE => ?_) ?_
    · obtain ⟨s_0, -⟩ := hsl
      exact sg_plain rfl rfl (or_move (s_0.trans e75_0))
    refine steps_cons (fun own a wx hf hsl hE => ?_) ?_
    · obtain ⟨s_1, -⟩ := hsl
      exact sg_plain rfl rfl (or_move (s_1.trans e75_1))
    refine steps_cons (fun own a wx hf hsl hE => ?_) ?_
    · obtain ⟨(f_15 : a.eval (.tmp 15) = .int .i64 n1), (f_16 : a.eval (.tmp 16) = .int .i64 d2), -⟩ := hf
      exact sg_plain rfl rfl (or_quo f_15 f_16 hx78)
    refine steps_cons (fun own a wx hf hsl hE => ?_) ?_
    · obtain ⟨(f_17 : a.eval (.tmp 17) = .int .i64 x78), -⟩ := hf
      exact sg_plain rfl rfl (or_assign f_17)
    exact steps_nil
  intro own79 a79 w79 hd79 hz79 hk79 hf79 hE79
  have e79_0 : a79.eval (.tmp 0) = .int .i64 n1 := (hk79 0 rfl).trans e75_0
  have e79_1 : a79.eval (.tmp 1) = .int .i64 d2 := (hk79 1 rfl).trans e75_1
  obtain ⟨(f_6 : a79.eval (.tmp 6) = .int .i64 x78), -⟩ := hf79 [3] rfl
  have e79_6 := f_6
  have hX79 := Evo.step hX75 (fun _ => Nat.le_refl 0) hE79 rfl
  refine fl_seq (fun Q80 hn80 hp80 => ?_)
  obtain ⟨x81, hx81, hs⟩ := obind hs
  refine rg_plain_seq (n := 25) (rs := []) (own0 := own79) (K := [])
      (bs := [0, 0, 3, 7])
      (ds := [⟨[], [0], [], Fct.val 18 (.int .i64 n1)⟩,
      ⟨[], [1], [], Fct.val 19 (.int .i64 d2)⟩,
      ⟨[0, 1], [], [], Fct.val 20 (.int .i64 x81)⟩,
      ⟨[2], [], [], Fct.val 21 (.bool (decide (0 ≤ x81)))⟩]) (by kernel_rfl) hz79 hd79 (fun _ h => nomatch h) ?_ ?_
  · refine steps_cons (fun own a wx hf hsl hE => ?_) ?_
    · obtain ⟨s_0, -⟩ := hsl
      exact sg_plain rfl rfl (or_move (s_0.trans e79_0))
    refine steps_cons (fun own a wx hf hsl hE => ?_) ?_
    · obtain ⟨s_1, -⟩ := hsl
      exact sg_plain rfl rfl (or_move (s_1.trans e79_1))
    refine steps_cons (fun own a wx hf hsl hE => ?_) ?_
    · obtain ⟨(f_18 : a.eval (.tmp 18) = .int .i64 n1), (f_19 : a.eval (.tmp 19) = .int .i64 d2), -⟩ := hf
      exact sg_plain rfl rfl (or_rem f_18 f_19 hx81)
    refine steps_cons (fun own a wx hf hsl hE => ?_) ?_
    · obtain ⟨(f_20 : a.eval (.tmp 20) = .int .i64 x81), -⟩ := hf
      exact sg_plain rfl rfl (or_geq f_20 rfl rfl)
    exact steps_nil
  intro own82 a82 w82 hd82 hz82 hk82 hf82 hE82
  have e82_6 : a82.eval (.tmp 6) = .int .i64 x78 := (hk82 6 rfl).trans e79_6
  obtain ⟨(f_21 : a82.eval (.tmp 21) = .bool (decide (0 ≤ x81))), -⟩ := hf82 [3] rfl
  have e82_21 := f_21
  have hX82 := Evo.step hX79 (fun _ => Nat.le_refl 0) hE82 rfl
  refine fl_cond e82_21 hs (fun c83 hs => ?_) (fun c83 hs => ?_)
  · refine fl_goto ?_
    refine hp80 _ _ _ rfl ?_
    exact (K67 _ _ own82 _ hd82 hz82 e82_6 hX82 hs)
  refine fl_skip ?_
  refine hn80 _ _ ?_
  refine rg_plain_seq (n := 25) (rs := []) (own0 := own82) (K := [])
      (bs := [0, 1, 3])
      (ds := [⟨[], [6], [], Fct.val 22 (.int .i64 x78)⟩,
      ⟨[0], [], [], Fct.val 23 (.int .i64 (sb x78 1))⟩,
      ⟨[1], [], [], Fct.val 6 (.int .i64 (sb x78 1))⟩]) (by kernel_rfl) hz82 hd82 (fun _ h => nomatch h) ?_ ?_
  · refine steps_cons (fun own a wx hf hsl hE => ?_) ?_
    · obtain ⟨s_6, -⟩ := hsl
      exact sg_plain rfl rfl (or_move (s_6.trans e82_6))
    refine steps_cons (fun own a wx hf hsl hE => ?_) ?_
    · obtain ⟨(f_22 : a.eval (.tmp 22) = .int .i64 x78), -⟩ := hf
      exact sg_plain rfl rfl (or_sub f_22 rfl rfl)
    refine steps_cons (fun own a wx hf hsl hE => ?_) ?_
    · obtain ⟨(f_23 : a.eval (.tmp 23) = .int .i64 (sb x78 1)), -⟩ := hf
      exact sg_plain rfl rfl (or_assign f_23)
    exact steps_nil
  intro own84 a84 w84 hd84 hz84 hk84 hf84 hE84
  obtain ⟨(f_6 : a84.eval (.tmp 6) = .int .i64 (sb x78 1)), -⟩ := hf84 [2] rfl
  have e84_6 := f_6
  have hX84 := Evo.step hX82 (fun _ => Nat.le_refl 0) hE84 rfl
  refine fl_seq (fun Q85 hn85 hp85 => ?_)
  refine fl_label ?_
  refine hn85 _ _ ?_
  refine rg_plain_seq (n := 25) (rs := []) (own0 := own84) (K := [])
      (bs := [0, 1, 3])
      (ds := [⟨[], [6], [], Fct.val 24 (.int .i64 (sb x78 1))⟩,
      ⟨[0], [], [], Fct.val 4 (.int .i64 (sb x78 1))⟩,
      ⟨[], [], [], Fct.val 5 (.bool true)⟩]) (by kernel_rfl) hz84 hd84 (fun _ h => nomatch h) ?_ ?_
  · refine steps_cons (fun own a wx hf hsl hE => ?_) ?_
    · obtain ⟨s_6, -⟩ := hsl
      exact sg_plain rfl rfl (or_move (s_6.trans e84_6))
    refine steps_cons (fun own a wx hf hsl hE => ?_) ?_
    · obtain ⟨(f_24 : a.eval (.tmp 24) = .int .i64 (sb x78 1)), -⟩ := hf
      exact sg_plain rfl rfl (or_assign f_24)
    refine steps_cons (fun own a wx hf hsl hE => ?_) ?_
    · exact sg_plain rfl rfl (or_assign rfl)
    exact steps_nil
  intro own86 a86 w86 hd86 hz86 hk86 hf86 hE86
  obtain ⟨(f_4 : a86.eval (.tmp 4) = .int .i64 (sb x78 1)), (f_5 : a86.eval (.tmp 5) = .bool true), -⟩ := hf86 [1, 2] rfl
  have e86_4 := f_4
  have e86_5 := f_5
  have hX86 := Evo.step hX84 (fun _ => Nat.le_refl 0) hE86 rfl
  refine fl_ret ?_
  refine hp50.leaves _ _ _ rfl ?_
  obtain rfl := osome hs
  exact hret _ _ _ _ (.inl rfl) hd86 (results2_ rfl (RVal.tmp_ e86_4) (RVal.tmp_ e86_5)) ⟨own86, rfl, hX86⟩

theorem exact_Round_w (w : World) (n1 : Int) (d2 : Int) (r : Int × Bool) (hs : exact_Round n1 d2 = some r) :
    Calls Try.prog 43 #[.int .i64 n1, .int .i64 d2] w fun e w' => ∃ own' : Own, e = .returned (.tuple #[.int .i64 r.1, .bool r.2]) ∧ Evo [] (fun _ => 0) own' w w' := by
  refine fl_enter (n := 30) rfl rfl rfl (Nat.le_of_ble_eq_true rfl) ?_
  intro a0 Q hd0 hz0 harg hret
  have ha0 := harg 0 _ rfl
  have ha1 := harg 1 _ rfl
  clear harg
  have hE0 : Evo [] (fun _ => 0) (fun _ => 0) w w := Evo.refl _ _ _
  refine rg_plain_seq (n := 30) (rs := []) (own0 := (fun _ => 0)) (K := [])
      (bs := [0, 1])
      (ds := [⟨[], [], [], Fct.val 4 (.int .i64 0)⟩,
      ⟨[], [], [], Fct.val 5 (.bool false)⟩]) (by kernel_rfl) hz0 hd0 (fun _ h => nomatch h) ?_ ?_
  · refine steps_cons (fun own a wx hf hsl hE => ?_) ?_
    · exact sg_plain rfl rfl (or_assign rfl)
    refine steps_cons (fun own a wx hf hsl hE => ?_) ?_
    · exact sg_plain rfl rfl (or_assign rfl)
    exact steps_nil
  intro own30 a30 w30 hd30 hz30 hk30 hf30 hE30
  have e30_0 : a30.eval (.tmp 0) = .int .i64 n1 := (hk30 0 rfl).trans ha0
  have e30_1 : a30.eval (.tmp 1) = .int .i64 d2 := (hk30 1 rfl).trans ha1
  have hX30 := Evo.step hE0 (fun _ => Nat.le_refl 0) hE30 rfl
  obtain ⟨r31, hr31, hs⟩ := obind hs
  refine rg_plain_seq (n := 30) (rs := []) (own0 := own30) (K := [])
      (bs := [0, 0, 3, 7, 15, 15, 31, 127])
      (ds := [⟨[], [0], [], Fct.val 10 (.int .i64 n1)⟩,
      ⟨[], [1], [], Fct.val 11 (.int .i64 d2)⟩,
      ⟨[0, 1], [], [], Fct.val 12 (.tuple #[.int .i64 r31.1, .bool r31.2])⟩,
      ⟨[2], [], [], Fct.val 9 (.tuple #[.int .i64 r31.1, .bool r31.2])⟩,
      ⟨[3], [], [], Fct.val 13 (.int .i64 r31.1)⟩,
      ⟨[3], [], [], Fct.val 14 (.bool r31.2)⟩,
      ⟨[4], [], [], Fct.val 6 (.int .i64 r31.1)⟩,
      ⟨[5], [], [], Fct.val 7 (.bool r31.2)⟩]) (by kernel_rfl) hz30 hd30 (fun _ h => nomatch h) ?_ ?_
  · refine steps_cons (fun own a wx hf hsl hE => ?_) ?_
    · obtain ⟨s_0, -⟩ := hsl
      exact sg_plain rfl rfl (or_move (s_0.trans e30_0))
    refine steps_cons (fun own a wx hf hsl hE => ?_) ?_
    · obtain ⟨s_1, -⟩ := hsl
      exact sg_plain rfl rfl (or_move (s_1.trans e30_1))
    refine steps_cons (fun own a wx hf hsl hE => ?_) ?_
    · obtain ⟨(f_10 : a.eval (.tmp 10) = .int .i64 n1), (f_11 : a.eval (.tmp 11) = .int .i64 d2), -⟩ := hf
      exact sg_plain rfl rfl (or_call cf45 (args2 f_10 f_11) (exact_Floor_w _ n1 d2  r31 hr31) post_val)
    refine steps_cons (fun own a wx hf hsl hE => ?_) ?_
    · obtain ⟨(f_12 : a.eval (.tmp 12) = .tuple #[.int .i64 r31.1, .bool r31.2]), -⟩ := hf
      exact sg_plain rfl rfl (or_move f_12)
    refine steps_cons (fun own a wx hf hsl hE => ?_) ?_
    · obtain ⟨(f_9 : a.eval (.tmp 9) = .tuple #[.int .i64 r31.1, .bool r31.2]), -⟩ := hf
      exact sg_plain rfl rfl (or_k [(9, .tuple #[.int .i64 r31.1, .bool r31.2])] rfl rfl ⟨f_9, trivial⟩ (by kernel_rfl))
    refine steps_cons (fun own a wx hf hsl hE => ?_) ?_
    · obtain ⟨(f_9 : a.eval (.tmp 9) = .tuple #[.int .i64 r31.1, .bool r31.2]), -⟩ := hf
      exact sg_plain rfl rfl (or_k [(9, .tuple #[.int .i64 r31.1, .bool r31.2])] rfl rfl ⟨f_9, trivial⟩ (by kernel_rfl))
    refine steps_cons (fun own a wx hf hsl hE => ?_) ?_
    · obtain ⟨(f_13 : a.eval (.tmp 13) = .int .i64 r31.1), -⟩ := hf
      exact sg_plain rfl rfl (or_assign f_13)
    refine steps_cons (fun own a wx hf hsl hE => ?_) ?_
    · obtain ⟨(f_14 : a.eval (.tmp 14) = .bool r31.2), -⟩ := hf
      exact sg_plain rfl rfl (or_assign f_14)
    exact steps_nil
  intro own32 a32 w32 hd32 hz32 hk32 hf32 hE32
  have e32_0 : a32.eval (.tmp 0) = .int .i64 n1 := (hk32 0 rfl).trans e30_0
  have e32_1 : a32.eval (.tmp 1) = .int .i64 d2 := (hk32 1 rfl).trans e30_1
  obtain ⟨(f_6 : a32.eval (.tmp 6) = .int .i64 r31.1), (f_7 : a32.eval (.tmp 7) = .bool r31.2), -⟩ := hf32 [6, 7] rfl
  have e32_6 := f_6
  have e32_7 := f_7
  have hX32 := Evo.step hX30 (fun _ => Nat.le_refl 0) hE32 rfl
  refine fl_seq (fun Q33 hn33 hp33 => ?_)
  refine rg_plain_seq (n := 30) (rs := []) (own0 := own32) (K := [])
      (bs := [0, 1])
      (ds := [⟨[], [7], [], Fct.val 15 (.bool r31.2)⟩,
      ⟨[0], [], [], Fct.val 16 (.bool (!r31.2))⟩]) (by kernel_rfl) hz32 hd32 (fun _ h => nomatch h) ?_ ?_
  · refine steps_cons (fun own a wx hf hsl hE => ?_) ?_
    · obtain ⟨s_7, -⟩ := hsl
      exact sg_plain rfl rfl (or_move (s_7.trans e32_7))
    refine steps_cons (fun own a wx hf hsl hE => ?_) ?_
    · obtain ⟨(f_15 : a.eval (.tmp 15) = .bool r31.2), -⟩ := hf
      exact sg_plain rfl rfl (or_not f_15 rfl)
    exact steps_nil
  intro own34 a34 w34 hd34 hz34 hk34 hf34 hE34
  have e34_0 : a34.eval (.tmp 0) = .int .i64 n1 := (hk34 0 rfl).trans e32_0
  have e34_1 : a34.eval (.tmp 1) = .int .i64 d2 := (hk34 1 rfl).trans e32_1
  have e34_6 : a34.eval (.tmp 6) = .int .i64 r31.1 := (hk34 6 rfl).trans e32_6
  obtain ⟨(f_16 : a34.eval (.tmp 16) = .bool (!r31.2)), -⟩ := hf34 [1] rfl
  have e34_16 := f_16
  have hX34 := Evo.step hX32 (fun _ => Nat.le_refl 0) hE34 rfl
  refine fl_cond e34_16 hs (fun c35 hs => ?_) (fun c35 hs => ?_)
  · refine rg_plain_seq (n := 30) (rs := []) (own0 := own34) (K := [])
        (bs := [0, 1])
        (ds := [⟨[], [], [], Fct.val 4 (.int .i64 0)⟩,
        ⟨[], [], [], Fct.val 5 (.bool false)⟩]) (by kernel_rfl) hz34 hd34 (fun _ h => nomatch h) ?_ ?_
    · refine steps_cons (fun own a wx hf hsl hE => ?_) ?_
      · exact sg_plain rfl rfl (or_assign rfl)
      refine steps_cons (fun own a wx hf hsl hE => ?_) ?_
      · exact sg_plain rfl rfl (or_assign rfl)
      exact steps_nil
    intro own36 a36 w36 hd36 hz36 hk36 hf36 hE36
    obtain ⟨(f_4 : a36.eval (.tmp 4) = .int .i64 0), (f_5 : a36.eval (.tmp 5) = .bool false), -⟩ := hf36 [0, 1] rfl
    have e36_4 := f_4
    have e36_5 := f_5
    have hX36 := Evo.step hX34 (fun _ => Nat.le_refl 0) hE36 rfl
    refine fl_ret ?_
    refine hp33 _ _ _ rfl ?_
    obtain rfl := osome hs
    exact hret _ _ _ _ (.inl rfl) hd36 (results2_ rfl (RVal.tmp_ e36_4) (RVal.tmp_ e36_5)) ⟨own36, rfl, hX36⟩
  refine fl_skip ?_
  refine hn33 _ _ ?_
  refine rg_plain_seq (n := 30) (rs := []) (own0 := own34) (K := [])
      (bs := [0, 0, 0, 6, 15, 31])
      (ds := [⟨[], [0], [], Fct.val 17 (.int .i64 n1)⟩,
      ⟨[], [6], [], Fct.val 18 (.int .i64 r31.1)⟩,
      ⟨[], [1], [], Fct.val 19 (.int .i64 d2)⟩,
      ⟨[1, 2], [], [], Fct.val 20 (.int .i64 (ml r31.1 d2))⟩,
      ⟨[0, 3], [], [], Fct.val 21 (.int .i64 (sb n1 (ml r31.1 d2)))⟩,
      ⟨[4], [], [], Fct.val 8 (.int .i64 (sb n1 (ml r31.1 d2)))⟩]) (by kernel_rfl) hz34 hd34 (fun _ h => nomatch h) ?_ ?_
  · refine steps_cons (fun own a wx hf hsl hE => ?_) ?_
    · obtain ⟨s_0, -⟩ := hsl
      exact sg_plain rfl rfl (or_move (s_0.trans e34_0))
    refine steps_cons (fun own a wx hf hsl hE => ?_) ?_
    · obtain ⟨s_6, -⟩ := hsl
      exact sg_plain rfl rfl (or_move (s_6.trans e34_6))
    refine steps_cons (fun own a wx hf hsl hE => ?_) ?_
    · obtain ⟨s_1, -⟩ := hsl
      exact sg_plain rfl rfl (or_move (s_1.trans e34_1))
    refine steps_cons (fun own a wx hf hsl hE => ?_) ?_
    · obtain ⟨(f_18 : a.eval (.tmp 18) = .int .i64 r31.1), (f_19 : a.eval (.tmp 19) = .int .i64 d2), -⟩ := hf
      exact sg_plain rfl rfl (or_mul f_18 f_19 rfl)
    refine steps_cons (fun own a wx hf hsl hE => ?_) ?_
    · obtain ⟨(f_17 : a.eval (.tmp 17) = .int .i64 n1), (f_20 : a.eval (.tmp 20) = .int .i64 (ml r31.1 d2)), -⟩ := hf
      exact sg_plain rfl rfl (or_sub f_17 f_20 rfl)
    refine steps_cons (fun own a wx hf hsl hE => ?_) ?_
    · obtain ⟨(f_21 : a.eval (.tmp 21) = .int .i64 (sb n1 (ml r31.1 d2))), -⟩ := hf
      exact sg_plain rfl rfl (or_assign f_21)
    exact steps_nil
  intro own37 a37 w37 hd37 hz37 hk37 hf37 hE37
  have e37_1 : a37.eval (.tmp 1) = .int .i64 d2 := (hk37 1 rfl).trans e34_1
  have e37_6 : a37.eval (.tmp 6) = .int .i64 r31.1 := (hk37 6 rfl).trans e34_6
  obtain ⟨(f_8 : a37.eval (.tmp 8) = .int .i64 (sb n1 (ml r31.1 d2))), -⟩ := hf37 [5] rfl
  have e37_8 := f_8
  have hX37 := Evo.step hX34 (fun _ => Nat.le_refl 0) hE37 rfl
  refine fl_seq (fun Q38 hn38 hp38 => ?_)
  have K43 : ∀ (a43 : Act) (w43 : World) (own43 : Own) (q42 : Int), a43.defers = [] → a43.tmps.size = 30 → a43.eval (.tmp 6) = .int .i64 q42 → Evo [] (fun _ => 0) own43 w w43 → exact_Round_k1 q42 = some r → Q38 .normal a43 w43 := by
    intro a43 w43 own43 q42 hd44 hz44 e44_6 hE44 hs
    refine hn38 _ _ ?_
    refine rg_plain_seq (n := 30) (rs := []) (own0 := own43) (K := [])
        (bs := [0, 1, 3])
        (ds := [⟨[], [6], [], Fct.val 29 (.int .i64 q42)⟩,
        ⟨[0], [], [], Fct.val 4 (.int .i64 q42)⟩,
        ⟨[], [], [], Fct.val 5 (.bool true)⟩]) (by kernel_rfl) hz44 hd44 (fun _ h => nomatch h) ?_ ?_
    · refine steps_cons (fun own a wx hf hsl hE => ?_) ?_
      · obtain ⟨s_6, -⟩ := hsl
        exact sg_plain rfl rfl (or_move (s_6.trans e44_6))
      refine steps_cons (fun own a wx hf hsl hE => ?_) ?_
      · obtain ⟨(f_29 : a.eval (.tmp 29) = .int .i64 q42), -⟩ := hf
        exact sg_plain rfl rfl (or_assign f_29)
      refine steps_cons (fun own a wx hf hsl hE => ?_) ?_
      · exact sg_plain rfl rfl (or_assign rfl)
      exact steps_nil
    intro own45 a45 w45 hd45 hz45 hk45 hf45 hE45
    obtain ⟨(f_4 : a45.eval (.tmp 4) = .int .i64 q42), (f_5 : a45.eval (.tmp 5) = .bool true), -⟩ := hf45 [1, 2] rfl
    have e45_4 := f_4
    have e45_5 := f_5
    have hX45 := Evo.step hE44 (fun _ => Nat.le_refl 0) hE45 rfl
    refine fl_ret ?_
    obtain rfl := osome hs
    exact hret _ _ _ _ (.inl rfl) hd45 (results2_ rfl (RVal.tmp_ e45_4) (RVal.tmp_ e45_5)) ⟨own45, rfl, hX45⟩
  refine rg_plain_seq (n := 30) (rs := []) (own0 := own37) (K := [])
      (bs := [0, 0, 0, 6, 15])
      (ds := [⟨[], [8], [], Fct.val 22 (.int .i64 (sb n1 (ml r31.1 d2)))⟩,
      ⟨[], [1], [], Fct.val 23 (.int .i64 d2)⟩,
      ⟨[], [8], [], Fct.val 24 (.int .i64 (sb n1 (ml r31.1 d2)))⟩,
      ⟨[1, 2], [], [], Fct.val 25 (.int .i64 (sb d2 (sb n1 (ml r31.1 d2))))⟩,
      ⟨[0, 3], [], [], Fct.val 26 (.bool (decide ((sb d2 (sb n1 (ml r31.1 d2))) ≤ (sb n1 (ml r31.1 d2)))))⟩]) (by kernel_rfl) hz37 hd37 (fun _ h => nomatch h) ?_ ?_
  · refine steps_cons (fun own a wx hf hsl hE => ?_) ?_
    · obtain ⟨s_8, -⟩ := hsl
      exact sg_plain rfl rfl (or_move (s_8.trans e37_8))
    refine steps_cons (fun own a wx hf hsl hE => ?_) ?_
    · obtain ⟨s_1, -⟩ := hsl
      exact sg_plain rfl rfl (or_move (s_1.trans e37_1))
    refine steps_cons (fun own a wx hf hsl hE => ?_) ?_
    · obtain ⟨s_8, -⟩ := hsl
      exact sg_plain rfl rfl (or_move (s_8.trans e37_8))
    refine steps_cons (fun own a wx hf hsl hE => ?_) ?_
    · obtain ⟨(f_23 : a.eval (.tmp 23) = .int .i64 d2), (f_24 : a.eval (.tmp 24) = .int .i64 (sb n1 (ml r31.1 d2))), -⟩ := hf
      exact sg_plain rfl rfl (or_sub f_23 f_24 rfl)
    refine steps_cons (fun own a wx hf hsl hE => ?_) ?_
    · obtain ⟨(f_22 : a.eval (.tmp 22) = .int .i64 (sb n1 (ml r31.1 d2))), (f_25 : a.eval (.tmp 25) = .int .i64 (sb d2 (sb n1 (ml r31.1 d2)))), -⟩ := hf
      exact sg_plain rfl rfl (or_geq f_22 f_25 rfl)
    exact steps_nil
  intro own46 a46 w46 hd46 hz46 hk46 hf46 hE46
  have e46_6 : a46.eval (.tmp 6) = .int .i64 r31.1 := (hk46 6 rfl).trans e37_6
  obtain ⟨(f_26 : a46.eval (.tmp 26) = .bool (decide ((sb d2 (sb n1 (ml r31.1 d2))) ≤ (sb n1 (ml r31.1 d2))))), -⟩ := hf46 [4] rfl
  have e46_26 := f_26
  have hX46 := Evo.step hX37 (fun _ => Nat.le_refl 0) hE46 rfl
  refine fl_cond e46_26 hs (fun c47 hs => ?_) (fun c47 hs => ?_)
  · refine rg_plain (n := 30) (rs := []) (own0 := own46) (K := [])
        (bs := [0, 1, 3])
        (ds := [⟨[], [6], [], Fct.val 27 (.int .i64 r31.1)⟩,
        ⟨[0], [], [], Fct.val 28 (.int .i64 (ad r31.1 1))⟩,
        ⟨[1], [], [], Fct.val 6 (.int .i64 (ad r31.1 1))⟩]) (by kernel_rfl) hz46 hd46 (fun _ h => nomatch h) ?_ ?_
    · refine steps_cons (fun own a wx hf hsl hE => ?_) ?_
      · obtain ⟨s_6, -⟩ := hsl
        exact sg_plain rfl rfl (or_move (s_6.trans e46_6))
      refine steps_cons (fun own a wx hf hsl hE => ?_) ?_
      · obtain ⟨(f_27 : a.eval (.tmp 27) = .int .i64 r31.1), -⟩ := hf
        exact sg_plain rfl rfl (or_add f_27 rfl rfl)
      refine steps_cons (fun own a wx hf hsl hE => ?_) ?_
      · obtain ⟨(f_28 : a.eval (.tmp 28) = .int .i64 (ad r31.1 1)), -⟩ := hf
        exact sg_plain rfl rfl (or_assign f_28)
      exact steps_nil
    intro own48 a48 w48 hd48 hz48 hk48 hf48 hE48
    obtain ⟨(f_6 : a48.eval (.tmp 6) = .int .i64 (ad r31.1 1)), -⟩ := hf48 [2] rfl
    have e48_6 := f_6
    have hX48 := Evo.step hX46 (fun _ => Nat.le_refl 0) hE48 rfl
    exact (K43 _ _ own48 _ hd48 hz48 e48_6 hX48 hs)
  refine fl_skip ?_
  exact (K43 _ _ own46 _ hd46 hz46 e46_6 hX46 hs)

theorem seg_AtX_w (w : World) (x1 : Int × Int) (b2 : Int × Int) (c3 : Int) (r : Int × Bool) (hs : seg_AtX x1 b2 c3 = some r) :
    Calls Try.prog 37 #[.agg #[.int .i64 x1.1, .int .i64 x1.2], .agg #[.int .i64 b2.1, .int .i64 b2.2], .int .i64 c3] w fun e w' => ∃ own' : Own, e = .returned (.tuple #[.int .i64 r.1, .bool r.2]) ∧ Evo [] (fun _ => 0) own' w w' := by
  refine fl_enter (n := 57) rfl rfl rfl (Nat.le_of_ble_eq_true rfl) ?_
  intro a0 Q hd0 hz0 harg hret
  have ha0 := harg 0 _ rfl
  have ha1 := harg 1 _ rfl
  have ha2 := harg 2 _ rfl
  clear harg
  have hE0 : Evo [] (fun _ => 0) (fun _ => 0) w w := Evo.refl _ _ _
  refine rg_plain_seq (n := 57) (rs := []) (own0 := (fun _ => 0)) (K := [])
      (bs := [0, 0, 0, 4])
      (ds := [⟨[], [0], [], Fct.blk 48 3 (fun g => .pointer (some ⟨g, 0, none⟩)) 25 #[.int .i64 x1.1, .int .i64 x1.2]⟩,
      ⟨[], [1], [], Fct.blk 50 4 (fun g => .pointer (some ⟨g, 0, none⟩)) 25 #[.int .i64 b2.1, .int .i64 b2.2]⟩,
      ⟨[], [], [], Fct.val 6 (.int .i64 0)⟩,
      ⟨[], [], [], Fct.val 7 (.bool false)⟩]) (by kernel_rfl) hz0 hd0 (fun _ h => nomatch h) ?_ ?_
  · refine steps_cons (fun own a wx hf hsl hE => ?_) ?_
    · obtain ⟨s_0, -⟩ := hsl
      exact sg_plain rfl rfl (or_new [(0, .agg #[.int .i64 x1.1, .int .i64 x1.2])] rfl rfl ⟨(s_0.trans ha0), trivial⟩ (by kernel_rfl))
    refine steps_cons (fun own a wx hf hsl hE => ?_) ?_
    · obtain ⟨s_1, -⟩ := hsl
      exact sg_plain rfl rfl (or_new [(1, .agg #[.int .i64 b2.1, .int .i64 b2.2])] rfl rfl ⟨(s_1.trans ha1), trivial⟩ (by kernel_rfl))
    refine steps_cons (fun own a wx hf hsl hE => ?_) ?_
    · exact sg_plain rfl rfl (or_assign rfl)
    refine steps_cons (fun own a wx hf hsl hE => ?_) ?_
    · exact sg_plain rfl rfl (or_assign rfl)
    exact steps_nil
  intro own51 a51 w51 hd51 hz51 hk51 hf51 hE51
  have e51_2 : a51.eval (.tmp 2) = .int .i64 c3 := (hk51 2 rfl).trans ha2
  obtain ⟨⟨g47, (f_3 : a51.eval (.tmp 3) = .pointer (some ⟨g47, 0, none⟩)), (b_g47 : BlkO own51 48 w51 g47 25 #[.int .i64 x1.1, .int .i64 x1.2])⟩, ⟨g49, (f_4 : a51.eval (.tmp 4) = .pointer (some ⟨g49, 0, none⟩)), (b_g49 : BlkO own51 50 w51 g49 25 #[.int .i64 b2.1, .int .i64 b2.2])⟩, -⟩ := hf51 [0, 1] rfl
  have e51_3 := f_3
  have e51_4 := f_4
  have hX51 := Evo.step hE0 (fun _ => Nat.le_refl 0) hE51 rfl
  have b51_g47 := b_g47
  have b51_g49 := b_g49
  refine fl_seq (fun Q52 hn52 hp52 => ?_)
  have K63 : ∀ (a63 : Act) (w63 : World) (own63 : Own) (x60 : Int × Int) (b62 : Int × Int), a63.defers = [] → a63.tmps.size = 57 → a63.eval (.tmp 2) = .int .i64 c3 → a63.eval (.tmp 3) = .pointer (some ⟨g47, 0, none⟩) → a63.eval (.tmp 4) = .pointer (some ⟨g49, 0, none⟩) → Evo [] (fun _ => 0) own63 w w63 → BlkO own63 59 w63 g47 25 #[.int .i64 x60.1, .int .i64 x60.2] → BlkO own63 61 w63 g49 25 #[.int .i64 b62.1, .int .i64 b62.2] → seg_AtX_k1 c3 x60 b62 = some r → Q52 .normal a63 w63 := by
    intro a63 w63 own63 x60 b62 hd64 hz64 e64_2 e64_3 e64_4 hE64 b64_g47 b64_g49 hs
    refine hn52 _ _ ?_
    refine fl_seq (fun Q65 hn65 hp65 => ?_)
    obtain ⟨r68, hr68, hs⟩ := obind hs
    obtain ⟨x69, hx69, hs⟩ := obind hs
    refine rg_plain_seq (n := 57) (rs := []) (own0 := own63) (K := [])
        (bs := [0, 0, 3, 7, 15, 31, 63, 63, 191, 511, 1023, 2047, 4095, 4095, 12287, 32767, 65535])
        (ds := [⟨[], [3], [], Fct.val 16 (.agg #[.int .i64 x60.1, .int .i64 x60.2])⟩,
        ⟨[], [4], [], Fct.val 17 (.agg #[.int .i64 b62.1, .int .i64 b62.2])⟩,
        ⟨[0, 1], [], [], Fct.row 67 [] 18 25 R25 [x60, b62]⟩,
        ⟨[2], [], [], Fct.val 19 (.bool r68)⟩,
        ⟨[3], [], [], Fct.val 20 (.bool (!r68))⟩,
        ⟨[4], [], [], Fct.val 21 (.bool (!r68))⟩,
        ⟨[5], [2], [], Fct.cond (!(!r68)) (some 22) (Fct.val 22 (.int .i64 c3))⟩,
        ⟨[5], [3], [], Fct.cond (!(!r68)) (some 23) (Fct.val 23 (.pointer (some ⟨g47, 0, none⟩)))⟩,
        ⟨[5, 7], [], [], Fct.cond (!(!r68)) (some 24) (Fct.val 24 (.int .i64 x60.1))⟩,
        ⟨[5, 6, 8], [], [], Fct.cond (!(!r68)) (some 25) (Fct.val 25 (.bool (decide (c3 ≤ x60.1))))⟩,
        ⟨[5, 9], [], [], Fct.val 26 (.bool ((!r68) || (decide (c3 ≤ x60.1))))⟩,
        ⟨[10], [], [], Fct.val 27 (.bool ((!r68) || (decide (c3 ≤ x60.1))))⟩,
        ⟨[11], [2], [], Fct.cond (!((!r68) || (decide (c3 ≤ x60.1)))) (some 28) (Fct.val 28 (.int .i64 c3))⟩,
        ⟨[11], [4], [], Fct.cond (!((!r68) || (decide (c3 ≤ x60.1)))) (some 29) (Fct.val 29 (.pointer (some ⟨g49, 0, none⟩)))⟩,
        ⟨[11, 13], [], [], Fct.cond (!((!r68) || (decide (c3 ≤ x60.1)))) (some 30) (Fct.val 30 (.int .i64 b62.1))⟩,
        ⟨[11, 12, 14], [], [], Fct.cond (!((!r68) || (decide (c3 ≤ x60.1)))) (some 31) (Fct.val 31 (.bool (decide (b62.1 ≤ c3))))⟩,
        ⟨[11, 15], [], [], Fct.val 32 (.bool x69)⟩]) (by kernel_rfl) hz64 hd64 (fun _ h => nomatch h) ?_ ?_
    · refine steps_cons (fun own a wx hf hsl hE => ?_) ?_
      · obtain ⟨s_3, -⟩ := hsl
        exact sg_plain rfl rfl (or_load (l := [.int .i64 x60.1, .int .i64 x60.2]) ta25 (s_3.trans e64_3) (Blk.cellsFrom (BlkO.evo (by decide) hE b64_g47).2 0 rfl) rfl)
      refine steps_cons (fun own a wx hf hsl hE => ?_) ?_
      · obtain ⟨s_4, -⟩ := hsl
        exact sg_plain rfl rfl (or_load (l := [.int .i64 b62.1, .int .i64 b62.2]) ta25 (s_4.trans e64_4) (Blk.cellsFrom (BlkO.evo (by decide) hE b64_g49).2 0 rfl) rfl)
      refine steps_cons (fun own a wx hf hsl hE => ?_) ?_
      · obtain ⟨(f_16 : a.eval (.tmp 16) = .agg #[.int .i64 x60.1, .int .i64 x60.2]), (f_17 : a.eval (.tmp 17) = .agg #[.int .i64 b62.1, .int .i64 b62.2]), -⟩ := hf
        exact sg_plain rfl rfl (or_lit (lab := 67) (e := 25) (cs := #[.int .i64 x60.1, .int .i64 x60.2, .int .i64 b62.1, .int .i64 b62.2]) (F := E25) (or_new [(16, .agg #[.int .i64 x60.1, .int .i64 x60.2]), (17, .agg #[.int .i64 b62.1, .int .i64 b62.2])] rfl rfl ⟨f_16, f_17, trivial⟩ (by kernel_rfl)) rfl rfl (show 2 ≤ maxLen by decide))
      refine steps_cons (fun own a wx hf hsl hE => ?_) ?_
      · obtain ⟨⟨⟨A66, cA66⟩, (f_18 : a.eval (.tmp 18) = .slice A66 [x60, b62].length cA66), (b_A66 : RwO own 67 [] wx 25 R25 A66 cA66 [x60, b62])⟩, -⟩ := hf
        exact sg_plain rfl rfl (or_call cf24 (args1 f_18) (exact_Right_w _ [x60, b62] A66 cA66 (RdO.zero (RwO.rd b_A66)) r68 hr68) post_val)
      refine steps_cons (fun own a wx hf hsl hE => ?_) ?_
      · obtain ⟨(f_19 : a.eval (.tmp 19) = .bool r68), -⟩ := hf
        exact sg_plain rfl rfl (or_not f_19 rfl)
      refine steps_cons (fun own a wx hf hsl hE => ?_) ?_
      · obtain ⟨(f_20 : a.eval (.tmp 20) = .bool (!r68)), -⟩ := hf
        exact sg_plain rfl rfl (or_move f_20)
      refine steps_cons (fun own a wx hf hsl hE => ?_) ?_
      · obtain ⟨(f_21 : a.eval (.tmp 21) = .bool (!r68)), -⟩ := hf
        obtain ⟨s_2, -⟩ := hsl
        refine sg_f rfl rfl rfl f_21 (fun hg => ?_)
        exact or_move (s_2.trans e64_2)
      refine steps_cons (fun own a wx hf hsl hE => ?_) ?_
      · obtain ⟨(f_21 : a.eval (.tmp 21) = .bool (!r68)), -⟩ := hf
        obtain ⟨s_3, -⟩ := hsl
        refine sg_f rfl rfl rfl f_21 (fun hg => ?_)
        exact or_field fo25_0 (s_3.trans e64_3) (by rfl)
      refine steps_cons (fun own a wx hf hsl hE => ?_) ?_
      · obtain ⟨(f_21 : a.eval (.tmp 21) = .bool (!r68)), c_23, -⟩ := hf
        refine sg_f rfl rfl rfl f_21 (fun hg => ?_)
        have f_23 : a.eval (.tmp 23) = .pointer (some ⟨g47, 0, none⟩) := c_23.1 hg
        exact or_load1 to3 f_23 (Blk.at_ (BlkO.evo (by decide) hE b64_g47).2 0 rfl)
      refine steps_cons (fun own a wx hf hsl hE => ?_) ?_
      · obtain ⟨(f_21 : a.eval (.tmp 21) = .bool (!r68)), c_22, c_24, -⟩ := hf
        refine sg_f rfl rfl rfl f_21 (fun hg => ?_)
        have f_22 : a.eval (.tmp 22) = .int .i64 c3 := c_22.1 hg
        have f_24 : a.eval (.tmp 24) = .int .i64 x60.1 := c_24.1 hg
        exact or_leq f_22 f_24 rfl
      refine steps_cons (fun own a wx hf hsl hE => ?_) ?_
      · obtain ⟨(f_21 : a.eval (.tmp 21) = .bool (!r68)), c_25, -⟩ := hf
        exact sg_plain rfl rfl (or_or f_21 rfl (fun hx => c_25.1 hx) rfl)
      refine steps_cons (fun own a wx hf hsl hE => ?_) ?_
      · obtain ⟨(f_26 : a.eval (.tmp 26) = .bool ((!r68) || (decide (c3 ≤ x60.1)))), -⟩ := hf
        exact sg_plain rfl rfl (or_move f_26)
      refine steps_cons (fun own a wx hf hsl hE => ?_) ?_
      · obtain ⟨(f_27 : a.eval (.tmp 27) = .bool ((!r68) || (decide (c3 ≤ x60.1)))), -⟩ := hf
        obtain ⟨s_2, -⟩ := hsl
        refine sg_f rfl rfl rfl f_27 (fun hg => ?_)
        exact or_move (s_2.trans e64_2)
      refine steps_cons (fun own a wx hf hsl hE => ?_) ?_
      · obtain ⟨(f_27 : a.eval (.tmp 27) = .bool ((!r68) || (decide (c3 ≤ x60.1)))), -⟩ := hf
        obtain ⟨s_4, -⟩ := hsl
        refine sg_f rfl rfl rfl f_27 (fun hg => ?_)
        exact or_field fo25_0 (s_4.trans e64_4) (by rfl)
      refine steps_cons (fun own a wx hf hsl hE => ?_) ?_
      · obtain ⟨(f_27 : a.eval (.tmp 27) = .bool ((!r68) || (decide (c3 ≤ x60.1)))), c_29, -⟩ := hf
        refine sg_f rfl rfl rfl f_27 (fun hg => ?_)
        have f_29 : a.eval (.tmp 29) = .pointer (some ⟨g49, 0, none⟩) := c_29.1 hg
        exact or_load1 to3 f_29 (Blk.at_ (BlkO.evo (by decide) hE b64_g49).2 0 rfl)
      refine steps_cons (fun own a wx hf hsl hE => ?_) ?_
      · obtain ⟨(f_27 : a.eval (.tmp 27) = .bool ((!r68) || (decide (c3 ≤ x60.1)))), c_28, c_30, -⟩ := hf
        refine sg_f rfl rfl rfl f_27 (fun hg => ?_)
        have f_28 : a.eval (.tmp 28) = .int .i64 c3 := c_28.1 hg
        have f_30 : a.eval (.tmp 30) = .int .i64 b62.1 := c_30.1 hg
        exact or_geq f_28 f_30 rfl
      refine steps_cons (fun own a wx hf hsl hE => ?_) ?_
      · obtain ⟨(f_27 : a.eval (.tmp 27) = .bool ((!r68) || (decide (c3 ≤ x60.1)))), c_31, -⟩ := hf
        exact sg_plain rfl rfl (or_or f_27 rfl (fun hx => c_31.1 hx) (osome hx69).symm)
      exact steps_nil
    intro own70 a70 w70 hd70 hz70 hk70 hf70 hE70
    have e70_2 : a70.eval (.tmp 2) = .int .i64 c3 := (hk70 2 rfl).trans e64_2
    have e70_3 : a70.eval (.tmp 3) = .pointer (some ⟨g47, 0, none⟩) := (hk70 3 rfl).trans e64_3
    have e70_4 : a70.eval (.tmp 4) = .pointer (some ⟨g49, 0, none⟩) := (hk70 4 rfl).trans e64_4
    obtain ⟨(f_32 : a70.eval (.tmp 32) = .bool x69), -⟩ := hf70 [16] rfl
    have e70_32 := f_32
    have hX70 := Evo.step hE64 (fun _ => Nat.le_refl 0) hE70 rfl
    have b70_g47 := BlkO.evo (by decide) hE70 b64_g47
    have b70_g49 := BlkO.evo (by decide) hE70 b64_g49
    refine fl_cond e70_32 hs (fun c71 hs => ?_) (fun c71 hs => ?_)
    · refine rg_plain_seq (n := 57) (rs := []) (own0 := own70) (K := [])
          (bs := [0, 1])
          (ds := [⟨[], [], [], Fct.val 6 (.int .i64 0)⟩,
          ⟨[], [], [], Fct.val 7 (.bool false)⟩]) (by kernel_rfl) hz70 hd70 (fun _ h => nomatch h) ?_ ?_
      · refine steps_cons (fun own a wx hf hsl hE => ?_) ?_
        · exact sg_plain rfl rfl (or_assign rfl)
        refine steps_cons (fun own a wx hf hsl hE => ?_) ?_
        · exact sg_plain rfl rfl (or_assign rfl)
        exact steps_nil
      intro own72 a72 w72 hd72 hz72 hk72 hf72 hE72
      obtain ⟨(f_6 : a72.eval (.tmp 6) = .int .i64 0), (f_7 : a72.eval (.tmp 7) = .bool false), -⟩ := hf72 [0, 1] rfl
      have e72_6 := f_6
      have e72_7 := f_7
      have hX72 := Evo.step hX70 (fun _ => Nat.le_refl 0) hE72 rfl
      refine fl_ret ?_
      refine hp65 _ _ _ rfl ?_
      obtain rfl := osome hs
      exact hret _ _ _ _ (.inl rfl) hd72 (results2_ rfl (RVal.tmp_ e72_6) (RVal.tmp_ e72_7)) ⟨own72, rfl, hX72⟩
    refine fl_skip ?_
    refine hn65 _ _ ?_
    refine rg_plain_seq (n := 57) (rs := []) (own0 := own70) (K := [])
        (bs := [0, 1, 0, 4, 15, 31])
        (ds := [⟨[], [4], [], Fct.val 33 (.pointer (some ⟨g49, 0, none⟩))⟩,
        ⟨[0], [], [], Fct.val 34 (.int .i64 b62.1)⟩,
        ⟨[], [3], [], Fct.val 35 (.pointer (some ⟨g47, 0, none⟩))⟩,
        ⟨[2], [], [], Fct.val 36 (.int .i64 x60.1)⟩,
        ⟨[1, 3], [], [], Fct.val 37 (.int .i64 (sb b62.1 x60.1))⟩,
        ⟨[4], [], [], Fct.val 8 (.int .i64 (sb b62.1 x60.1))⟩]) (by kernel_rfl) hz70 hd70 (fun _ h => nomatch h) ?_ ?_
    · refine steps_cons (fun own a wx hf hsl hE => ?_) ?_
      · obtain ⟨s_4, -⟩ := hsl
        exact sg_plain rfl rfl (or_field fo25_0 (s_4.trans e70_4) (by rfl))
      refine steps_cons (fun own a wx hf hsl hE => ?_) ?_
      · obtain ⟨(f_33 : a.eval (.tmp 33) = .pointer (some ⟨g49, 0, none⟩)), -⟩ := hf
        exact sg_plain rfl rfl (or_load1 to3 f_33 (Blk.at_ (BlkO.evo (by decide) hE b70_g49).2 0 rfl))
      refine steps_cons (fun own a wx hf hsl hE => ?_) ?_
      · obtain ⟨s_3, -⟩ := hsl
        exact sg_plain rfl rfl (or_field fo25_0 (s_3.trans e70_3) (by rfl))
      refine steps_cons (fun own a wx hf hsl hE => ?_) ?_
      · obtain ⟨(f_35 : a.eval (.tmp 35) = .pointer (some ⟨g47, 0, none⟩)), -⟩ := hf
        exact sg_plain rfl rfl (or_load1 to3 f_35 (Blk.at_ (BlkO.evo (by decide) hE b70_g47).2 0 rfl))
      refine steps_cons (fun own a wx hf hsl hE => ?_) ?_
      · obtain ⟨(f_34 : a.eval (.tmp 34) = .int .i64 b62.1), (f_36 : a.eval (.tmp 36) = .int .i64 x60.1), -⟩ := hf
        exact sg_plain rfl rfl (or_sub f_34 f_36 rfl)
      refine steps_cons (fun own a wx hf hsl hE => ?_) ?_
      · obtain ⟨(f_37 : a.eval (.tmp 37) = .int .i64 (sb b62.1 x60.1)), -⟩ := hf
        exact sg_plain rfl rfl (or_assign f_37)
      exact steps_nil
    intro own73 a73 w73 hd73 hz73 hk73 hf73 hE73
    have e73_2 : a73.eval (.tmp 2) = .int .i64 c3 := (hk73 2 rfl).trans e70_2
    have e73_3 : a73.eval (.tmp 3) = .pointer (some ⟨g47, 0, none⟩) := (hk73 3 rfl).trans e70_3
    have e73_4 : a73.eval (.tmp 4) = .pointer (some ⟨g49, 0, none⟩) := (hk73 4 rfl).trans e70_4
    obtain ⟨(f_8 : a73.eval (.tmp 8) = .int .i64 (sb b62.1 x60.1)), -⟩ := hf73 [5] rfl
    have e73_8 := f_8
    have hX73 := Evo.step hX70 (fun _ => Nat.le_refl 0) hE73 rfl
    have b73_g47 := BlkO.evo (by decide) hE73 b70_g47
    have b73_g49 := BlkO.evo (by decide) hE73 b70_g49
    obtain ⟨x74, hx74, hs⟩ := obind hs
    obtain ⟨r75, hr75, hs⟩ := obind hs
    refine rg_plain_seq (n := 57) (rs := []) (own0 := own73) (K := [])
        (bs := [0, 1, 0, 7, 0, 16, 0, 64, 240, 0, 0, 1024, 3584, 8176, 16383, 0, 65535, 131071, 131071, 524287, 1048575])
        (ds := [⟨[], [3], [], Fct.val 38 (.pointer (some ⟨g47, 1, none⟩))⟩,
        ⟨[0], [], [], Fct.val 39 (.int .i64 x60.2)⟩,
        ⟨[], [8], [], Fct.val 40 (.int .i64 (sb b62.1 x60.1))⟩,
        ⟨[1, 2], [], [], Fct.val 41 (.int .i64 (ml x60.2 (sb b62.1 x60.1)))⟩,
        ⟨[], [4], [], Fct.val 42 (.pointer (some ⟨g49, 1, none⟩))⟩,
        ⟨[4], [], [], Fct.val 43 (.int .i64 b62.2)⟩,
        ⟨[], [3], [], Fct.val 44 (.pointer (some ⟨g47, 1, none⟩))⟩,
        ⟨[6], [], [], Fct.val 45 (.int .i64 x60.2)⟩,
        ⟨[5, 7], [], [], Fct.val 46 (.int .i64 (sb b62.2 x60.2))⟩,
        ⟨[], [2], [], Fct.val 47 (.int .i64 c3)⟩,
        ⟨[], [3], [], Fct.val 48 (.pointer (some ⟨g47, 0, none⟩))⟩,
        ⟨[10], [], [], Fct.val 49 (.int .i64 x60.1)⟩,
        ⟨[9, 11], [], [], Fct.val 50 (.int .i64 (sb c3 x60.1))⟩,
        ⟨[8, 12], [], [], Fct.val 51 (.int .i64 (ml (sb b62.2 x60.2) (sb c3 x60.1)))⟩,
        ⟨[3, 13], [], [], Fct.val 52 (.int .i64 x74)⟩,
        ⟨[], [8], [], Fct.val 53 (.int .i64 (sb b62.1 x60.1))⟩,
        ⟨[14, 15], [], [], Fct.val 54 (.tuple #[.int .i64 r75.1, .bool r75.2])⟩,
        ⟨[16], [], [], Fct.val 55 (.int .i64 r75.1)⟩,
        ⟨[16], [], [], Fct.val 56 (.bool r75.2)⟩,
        ⟨[17], [], [], Fct.val 6 (.int .i64 r75.1)⟩,
        ⟨[18], [], [], Fct.val 7 (.bool r75.2)⟩]) (by kernel_rfl) hz73 hd73 (fun _ h => nomatch h) ?_ ?_
    · refine steps_cons (fun own a wx hf hsl hE => ?_) ?_
      · obtain ⟨s_3, -⟩ := hsl
        exact sg_plain rfl rfl (or_field fo25_1 (s_3.trans e73_3) (by rfl))
      refine steps_cons (fun own a wx hf hsl hE => ?_) ?_
      · obtain ⟨(f_38 : a.eval (.tmp 38) = .pointer (some ⟨g47, 1, none⟩)), -⟩ := hf
        exact sg_plain rfl rfl (or_load1 to3 f_38 (Blk.at_ (BlkO.evo (by decide) hE b73_g47).2 1 rfl))
      refine steps_cons (fun own a wx hf hsl hE => ?_) ?_
      · obtain ⟨s_8, -⟩ := hsl
        exact sg_plain rfl rfl (or_move (s_8.trans e73_8))
      refine steps_cons (fun own a wx hf hsl hE => ?_) ?_
      · obtain ⟨(f_39 : a.eval (.tmp 39) = .int .i64 x60.2), (f_40 : a.eval (.tmp 40) = .int .i64 (sb b62.1 x60.1)), -⟩ := hf
        exact sg_plain rfl rfl (or_mul f_39 f_40 rfl)
      refine steps_cons (fun own a wx hf hsl hE => ?_) ?_
      · obtain ⟨s_4, -⟩ := hsl
        exact sg_plain rfl rfl (or_field fo25_1 (s_4.trans e73_4) (by rfl))
      refine steps_cons (fun own a wx hf hsl hE => ?_) ?_
      · obtain ⟨(f_42 : a.eval (.tmp 42) = .pointer (some ⟨g49, 1, none⟩)), -⟩ := hf
        exact sg_plain rfl rfl (or_load1 to3 f_42 (Blk.at_ (BlkO.evo (by decide) hE b73_g49).2 1 rfl))
      refine steps_cons (fun own a wx hf hsl hE => ?_) ?_
      · obtain ⟨s_3, -⟩ := hsl
        exact sg_plain rfl rfl (or_field fo25_1 (s_3.trans e73_3) (by rfl))
      refine steps_cons (fun own a wx hf hsl hE => ?_) ?_
      · obtain ⟨(f_44 : a.eval (.tmp 44) = .pointer (some ⟨g47, 1, none⟩)), -⟩ := hf
        exact sg_plain rfl rfl (or_load1 to3 f_44 (Blk.at_ (BlkO.evo (by decide) hE b73_g47).2 1 rfl))
      refine steps_cons (fun own a wx hf hsl hE => ?_) ?_
      · obtain ⟨(f_43 : a.eval (.tmp 43) = .int .i64 b62.2), (f_45 : a.eval (.tmp 45) = .int .i64 x60.2), -⟩ := hf
        exact sg_plain rfl rfl (or_sub f_43 f_45 rfl)
      refine steps_cons (fun own a wx hf hsl hE => ?_) ?_
      · obtain ⟨s_2, -⟩ := hsl
        exact sg_plain rfl rfl (or_move (s_2.trans e73_2))
      refine steps_cons (fun own a wx hf hsl hE => ?_) ?_
      · obtain ⟨s_3, -⟩ := hsl
        exact sg_plain rfl rfl (or_field fo25_0 (s_3.trans e73_3) (by rfl))
      refine steps_cons (fun own a wx hf hsl hE => ?_) ?_
      · obtain ⟨(f_48 : a.eval (.tmp 48) = .pointer (some ⟨g47, 0, none⟩)), -⟩ := hf
        exact sg_plain rfl rfl (or_load1 to3 f_48 (Blk.at_ (BlkO.evo (by decide) hE b73_g47).2 0 rfl))
      refine steps_cons (fun own a wx hf hsl hE => ?_) ?_
      · obtain ⟨(f_47 : a.eval (.tmp 47) = .int .i64 c3), (f_49 : a.eval (.tmp 49) = .int .i64 x60.1), -⟩ := hf
        exact sg_plain rfl rfl (or_sub f_47 f_49 rfl)
      refine steps_cons (fun own a wx hf hsl hE => ?_) ?_
      · obtain ⟨(f_46 : a.eval (.tmp 46) = .int .i64 (sb b62.2 x60.2)), (f_50 : a.eval (.tmp 50) = .int .i64 (sb c3 x60.1)), -⟩ := hf
        exact sg_plain rfl rfl (or_mul f_46 f_50 rfl)
      refine steps_cons (fun own a wx hf hsl hE => ?_) ?_
      · obtain ⟨(f_41 : a.eval (.tmp 41) = .int .i64 (ml x60.2 (sb b62.1 x60.1))), (f_51 : a.eval (.tmp 51) = .int .i64 (ml (sb b62.2 x60.2) (sb c3 x60.1))), -⟩ := hf
        exact sg_plain rfl rfl (or_add f_41 f_51 (osome hx74).symm)
      refine steps_cons (fun own a wx hf hsl hE => ?_) ?_
      · obtain ⟨s_8, -⟩ := hsl
        exact sg_plain rfl rfl (or_move (s_8.trans e73_8))
      refine steps_cons (fun own a wx hf hsl hE => ?_) ?_
      · obtain ⟨(f_52 : a.eval (.tmp 52) = .int .i64 x74), (f_53 : a.eval (.tmp 53) = .int .i64 (sb b62.1 x60.1)), -⟩ := hf
        exact sg_plain rfl rfl (or_call cf43 (args2 f_52 f_53) (exact_Round_w _ x74 (sb b62.1 x60.1)  r75 hr75) post_val)
      refine steps_cons (fun own a wx hf hsl hE => ?_) ?_
      · obtain ⟨(f_54 : a.eval (.tmp 54) = .tuple #[.int .i64 r75.1, .bool r75.2]), -⟩ := hf
        exact sg_plain rfl rfl (or_k [(54, .tuple #[.int .i64 r75.1, .bool r75.2])] rfl rfl ⟨f_54, trivial⟩ (by kernel_rfl))
      refine steps_cons (fun own a wx hf hsl hE => ?_) ?_
      · obtain ⟨(f_54 : a.eval (.tmp 54) = .tuple #[.int .i64 r75.1, .bool r75.2]), -⟩ := hf
        exact sg_plain rfl rfl (or_k [(54, .tuple #[.int .i64 r75.1, .bool r75.2])] rfl rfl ⟨f_54, trivial⟩ (by kernel_rfl))
      refine steps_cons (fun own a wx hf hsl hE => ?_) ?_
      · obtain ⟨(f_55 : a.eval (.tmp 55) = .int .i64 r75.1), -⟩ := hf
        exact sg_plain rfl rfl (or_assign f_55)
      refine steps_cons (fun own a wx hf hsl hE => ?_) ?_
      · obtain ⟨(f_56 : a.eval (.tmp 56) = .bool r75.2), -⟩ := hf
        exact sg_plain rfl rfl (or_assign f_56)
      exact steps_nil
    intro own76 a76 w76 hd76 hz76 hk76 hf76 hE76
    obtain ⟨(f_6 : a76.eval (.tmp 6) = .int .i64 r75.1), (f_7 : a76.eval (.tmp 7) = .bool r75.2), -⟩ := hf76 [19, 20] rfl
    have e76_6 := f_6
    have e76_7 := f_7
    have hX76 := Evo.step hX73 (fun _ => Nat.le_refl 0) hE76 rfl
    refine fl_ret ?_
    obtain rfl := osome hs
    exact hret _ _ _ _ (.inl rfl) hd76 (results2_ rfl (RVal.tmp_ e76_6) (RVal.tmp_ e76_7)) ⟨own76, rfl, hX76⟩
  refine rg_plain_seq (n := 57) (rs := []) (own0 := own51) (K := [])
      (bs := [0, 1, 0, 4, 15])
      (ds := [⟨[], [3], [], Fct.val 9 (.pointer (some ⟨g47, 0, none⟩))⟩,
      ⟨[0], [], [], Fct.val 10 (.int .i64 x1.1)⟩,
      ⟨[], [4], [], Fct.val 11 (.pointer (some ⟨g49, 0, none⟩))⟩,
      ⟨[2], [], [], Fct.val 12 (.int .i64 b2.1)⟩,
      ⟨[1, 3], [], [], Fct.val 13 (.bool (decide (b2.1 < x1.1)))⟩]) (by kernel_rfl) hz51 hd51 (fun _ h => nomatch h) ?_ ?_
  · refine steps_cons (fun own a wx hf hsl hE => ?_) ?_
    · obtain ⟨s_3, -⟩ := hsl
      exact sg_plain rfl rfl (or_field fo25_0 (s_3.trans e51_3) (by rfl))
    refine steps_cons (fun own a wx hf hsl hE => ?_) ?_
    · obtain ⟨(f_9 : a.eval (.tmp 9) = .pointer (some ⟨g47, 0, none⟩)), -⟩ := hf
      exact sg_plain rfl rfl (or_load1 to3 f_9 (Blk.at_ (BlkO.evo (by decide) hE b51_g47).2 0 rfl))
    refine steps_cons (fun own a wx hf hsl hE => ?_) ?_
    · obtain ⟨s_4, -⟩ := hsl
      exact sg_plain rfl rfl (or_field fo25_0 (s_4.trans e51_4) (by rfl))
    refine steps_cons (fun own a wx hf hsl hE => ?_) ?_
    · obtain ⟨(f_11 : a.eval (.tmp 11) = .pointer (some ⟨g49, 0, none⟩)), -⟩ := hf
      exact sg_plain rfl rfl (or_load1 to3 f_11 (Blk.at_ (BlkO.evo (by decide) hE b51_g49).2 0 rfl))
    refine steps_cons (fun own a wx hf hsl hE => ?_) ?_
    · obtain ⟨(f_10 : a.eval (.tmp 10) = .int .i64 x1.1), (f_12 : a.eval (.tmp 12) = .int .i64 b2.1), -⟩ := hf
      exact sg_plain rfl rfl (or_gtr f_10 f_12 rfl)
    exact steps_nil
  intro own77 a77 w77 hd77 hz77 hk77 hf77 hE77
  have e77_2 : a77.eval (.tmp 2) = .int .i64 c3 := (hk77 2 rfl).trans e51_2
  have e77_3 : a77.eval (.tmp 3) = .pointer (some ⟨g47, 0, none⟩) := (hk77 3 rfl).trans e51_3
  have e77_4 : a77.eval (.tmp 4) = .pointer (some ⟨g49, 0, none⟩) := (hk77 4 rfl).trans e51_4
  obtain ⟨(f_13 : a77.eval (.tmp 13) = .bool (decide (b2.1 < x1.1))), -⟩ := hf77 [4] rfl
  have e77_13 := f_13
  have hX77 := Evo.step hX51 (fun _ => Nat.le_refl 0) hE77 rfl
  have b77_g47 := BlkO.evo (by decide) hE77 b51_g47
  have b77_g49 := BlkO.evo (by decide) hE77 b51_g49
  refine fl_cond e77_13 hs (fun c78 hs => ?_) (fun c78 hs => ?_)
  · refine rg_plain (n := 57) (rs := [Fct.at_ 48 g47 25 #[.int .i64 x1.1, .int .i64 x1.2], Fct.at_ 50 g49 25 #[.int .i64 b2.1, .int .i64 b2.2]]) (own0 := own77) (K := [48, 50])
        (bs := [0, 0, 3, 7])
        (ds := [⟨[5], [4], [], Fct.val 14 (.agg #[.int .i64 b2.1, .int .i64 b2.2])⟩,
        ⟨[4], [3], [], Fct.val 15 (.agg #[.int .i64 x1.1, .int .i64 x1.2])⟩,
        ⟨[0, 4], [3], [48], Fct.at_ 80 g47 25 #[.int .i64 b2.1, .int .i64 b2.2]⟩,
        ⟨[1, 5], [4], [50], Fct.at_ 81 g49 25 #[.int .i64 x1.1, .int .i64 x1.2]⟩]) (by kernel_rfl) hz77 hd77 (by simp only [List.forall_mem_cons]; exact ⟨b77_g47, b77_g49, fun _ h => nomatch h⟩) ?_ ?_
    · refine steps_cons (fun own a wx hf hsl hE => ?_) ?_
      · obtain ⟨(b_g49 : BlkO own 50 wx g49 25 #[.int .i64 b2.1, .int .i64 b2.2]), -⟩ := hf
        obtain ⟨s_4, -⟩ := hsl
        exact sg_plain rfl rfl (or_load (l := [.int .i64 b2.1, .int .i64 b2.2]) ta25 (s_4.trans e77_4) (Blk.cellsFrom b_g49.2 0 rfl) rfl)
      refine steps_cons (fun own a wx hf hsl hE => ?_) ?_
      · obtain ⟨(b_g47 : BlkO own 48 wx g47 25 #[.int .i64 x1.1, .int .i64 x1.2]), -⟩ := hf
        obtain ⟨s_3, -⟩ := hsl
        exact sg_plain rfl rfl (or_load (l := [.int .i64 x1.1, .int .i64 x1.2]) ta25 (s_3.trans e77_3) (Blk.cellsFrom b_g47.2 0 rfl) rfl)
      refine steps_cons (fun own a wx hf hsl hE => ?_) ?_
      · obtain ⟨(f_14 : a.eval (.tmp 14) = .agg #[.int .i64 b2.1, .int .i64 b2.2]), (b_g47 : BlkO own 48 wx g47 25 #[.int .i64 x1.1, .int .i64 x1.2]), -⟩ := hf
        obtain ⟨s_3, -⟩ := hsl
        exact sg_plain rfl rfl (or_store (l := #[.int .i64 b2.1, .int .i64 b2.2]) (lab := 48) (lab2 := 80) ts25 (s_3.trans e77_3) f_14 b_g47 (by simp) (by kernel_rfl) (mem_of rfl) (by decide) (by kernel_rfl) (fun own' a' w' ha hb => hb))
      refine steps_cons (fun own a wx hf hsl hE => ?_) ?_
      · obtain ⟨(f_15 : a.eval (.tmp 15) = .agg #[.int .i64 x1.1, .int .i64 x1.2]), (b_g49 : BlkO own 50 wx g49 25 #[.int .i64 b2.1, .int .i64 b2.2]), -⟩ := hf
        obtain ⟨s_4, -⟩ := hsl
        exact sg_plain rfl rfl (or_store (l := #[.int .i64 x1.1, .int .i64 x1.2]) (lab := 50) (lab2 := 81) ts25 (s_4.trans e77_4) f_15 b_g49 (by simp) (by kernel_rfl) (mem_of rfl) (by decide) (by kernel_rfl) (fun own' a' w' ha hb => hb))
      exact steps_nil
    intro own82 a82 w82 hd82 hz82 hk82 hf82 hE82
    have e82_2 : a82.eval (.tmp 2) = .int .i64 c3 := (hk82 2 rfl).trans e77_2
    have e82_3 : a82.eval (.tmp 3) = .pointer (some ⟨g47, 0, none⟩) := (hk82 3 rfl).trans e77_3
    have e82_4 : a82.eval (.tmp 4) = .pointer (some ⟨g49, 0, none⟩) := (hk82 4 rfl).trans e77_4
    obtain ⟨(b_g47 : BlkO own82 80 w82 g47 25 #[.int .i64 b2.1, .int .i64 b2.2]), (b_g49 : BlkO own82 81 w82 g49 25 #[.int .i64 x1.1, .int .i64 x1.2]), -⟩ := hf82 [2, 3] rfl
    have hX82 := Evo.step hX77 (fun _ => Nat.le_refl 0) hE82 rfl
    have b82_g47 := b_g47
    have b82_g49 := b_g49
    exact (K63 _ _ (rl [(80, 59), (81, 61)] own82) b2 x1 hd82 hz82 e82_2 e82_3 e82_4 (Evo.rl_ hX82 (fun _ => Nat.le_refl 0) rfl) (BlkO.rl_ (mm := [(80, 59), (81, 61)]) b82_g47) (BlkO.rl_ (mm := [(80, 59), (81, 61)]) b82_g49) hs)
  refine fl_skip ?_
  exact (K63 _ _ (rl [(48, 59), (50, 61)] own77) x1 b2 hd77 hz77 e77_2 e77_3 e77_4 (Evo.rl_ hX77 (fun _ => Nat.le_refl 0) rfl) (BlkO.rl_ (mm := [(48, 59), (50, 61)]) b77_g47) (BlkO.rl_ (mm := [(48, 59), (50, 61)]) b77_g49) hs)

theorem seg_flip_w (w : World) (p1 : Int × Int) (r : Int × Int) (hs : seg_flip p1 = some r) :
    Calls Try.prog 42 #[.agg #[.int .i64 p1.1, .int .i64 p1.2]] w fun e w' => ∃ own' : Own, e = .returned (.agg #[.int .i64 r.1, .int .i64 r.2]) ∧ Evo [] (fun _ => 0) own' w w' := by
  refine fl_enter (n := 8) rfl rfl rfl (Nat.le_of_ble_eq_true rfl) ?_
  intro a0 Q hd0 hz0 harg hret
  have ha0 := harg 0 _ rfl
  clear harg
  have hE0 : Evo [] (fun _ => 0) (fun _ => 0) w w := Evo.refl _ _ _
  refine rg_plain_seq (n := 8) (rs := []) (own0 := (fun _ => 0)) (K := [])
      (bs := [0, 0])
      (ds := [⟨[], [0], [], Fct.blk 19 1 (fun g => .pointer (some ⟨g, 0, none⟩)) 25 #[.int .i64 p1.1, .int .i64 p1.2]⟩,
      ⟨[], [], [], Fct.blk 21 2 (fun g => .pointer (some ⟨g, 0, none⟩)) 25 #[.int .i64 0, .int .i64 0]⟩]) (by kernel_rfl) hz0 hd0 (fun _ h => nomatch h) ?_ ?_
  · refine steps_cons (fun own a wx hf hsl hE => ?_) ?_
    · obtain ⟨s_0, -⟩ := hsl
      exact sg_plain rfl rfl (or_new [(0, .agg #[.int .i64 p1.1, .int .i64 p1.2])] rfl rfl ⟨(s_0.trans ha0), trivial⟩ (by kernel_rfl))
    refine steps_cons (fun own a wx hf hsl hE => ?_) ?_
    · exact sg_plain rfl rfl (or_new [] rfl rfl trivial (by kernel_rfl))
    exact steps_nil
  intro own22 a22 w22 hd22 hz22 hk22 hf22 hE22
  obtain ⟨⟨g18, (f_1 : a22.eval (.tmp 1) = .pointer (some ⟨g18, 0, none⟩)), (b_g18 : BlkO own22 19 w22 g18 25 #[.int .i64 p1.1, .int .i64 p1.2])⟩, ⟨g20, (f_2 : a22.eval (.tmp 2) = .pointer (some ⟨g20, 0, none⟩)), (b_g20 : BlkO own22 21 w22 g20 25 #[.int .i64 0, .int .i64 0])⟩, -⟩ := hf22 [0, 1] rfl
  have e22_1 := f_1
  have e22_2 := f_2
  have hX22 := Evo.step hE0 (fun _ => Nat.le_refl 0) hE22 rfl
  have b22_g18 := b_g18
  have b22_g20 := b_g20
  refine rg_plain_seq (n := 8) (rs := [Fct.at_ 21 g20 25 #[.int .i64 0, .int .i64 0]]) (own0 := own22) (K := [21])
      (bs := [0, 1, 0, 4, 15, 31])
      (ds := [⟨[], [1], [], Fct.val 3 (.pointer (some ⟨g18, 1, none⟩))⟩,
      ⟨[0], [], [], Fct.val 4 (.int .i64 p1.2)⟩,
      ⟨[], [1], [], Fct.val 5 (.pointer (some ⟨g18, 0, none⟩))⟩,
      ⟨[2], [], [], Fct.val 6 (.int .i64 p1.1)⟩,
      ⟨[1, 3], [], [], Fct.val 7 (.agg #[.int .i64 p1.2, .int .i64 p1.1])⟩,
      ⟨[4, 6], [2], [21], Fct.at_ 23 g20 25 #[.int .i64 p1.2, .int .i64 p1.1]⟩]) (by kernel_rfl) hz22 hd22 (by simp only [List.forall_mem_cons]; exact ⟨b22_g20, fun _ h => nomatch h⟩) ?_ ?_
  · refine steps_cons (fun own a wx hf hsl hE => ?_) ?_
    · obtain ⟨s_1, -⟩ := hsl
      exact sg_plain rfl rfl (or_field fo25_1 (s_1.trans e22_1) (by rfl))
    refine steps_cons (fun own a wx hf hsl hE => ?_) ?_
    · obtain ⟨(f_3 : a.eval (.tmp 3) = .pointer (some ⟨g18, 1, none⟩)), -⟩ := hf
      exact sg_plain rfl rfl (or_load1 to3 f_3 (Blk.at_ (BlkO.evo (by decide) hE b22_g18).2 1 rfl))
    refine steps_cons (fun own a wx hf hsl hE => ?_) ?_
    · obtain ⟨s_1, -⟩ := hsl
      exact sg_plain rfl rfl (or_field fo25_0 (s_1.trans e22_1) (by rfl))
    refine steps_cons (fun own a wx hf hsl hE => ?_) ?_
    · obtain ⟨(f_5 : a.eval (.tmp 5) = .pointer (some ⟨g18, 0, none⟩)), -⟩ := hf
      exact sg_plain rfl rfl (or_load1 to3 f_5 (Blk.at_ (BlkO.evo (by decide) hE b22_g18).2 0 rfl))
    refine steps_cons (fun own a wx hf hsl hE => ?_) ?_
    · obtain ⟨(f_4 : a.eval (.tmp 4) = .int .i64 p1.2), (f_6 : a.eval (.tmp 6) = .int .i64 p1.1), -⟩ := hf
      exact sg_plain rfl rfl (or_k [(4, .int .i64 p1.2), (6, .int .i64 p1.1)] rfl rfl ⟨f_4, f_6, trivial⟩ (by kernel_rfl))
    refine steps_cons (fun own a wx hf hsl hE => ?_) ?_
    · obtain ⟨(f_7 : a.eval (.tmp 7) = .agg #[.int .i64 p1.2, .int .i64 p1.1]), (b_g20 : BlkO own 21 wx g20 25 #[.int .i64 0, .int .i64 0]), -⟩ := hf
      obtain ⟨s_2, -⟩ := hsl
      exact sg_plain rfl rfl (or_store (l := #[.int .i64 p1.2, .int .i64 p1.1]) (lab := 21) (lab2 := 23) ts25 (s_2.trans e22_2) f_7 b_g20 (by simp) (by kernel_rfl) (mem_of rfl) (by decide) (by kernel_rfl) (fun own' a' w' ha hb => hb))
    exact steps_nil
  intro own24 a24 w24 hd24 hz24 hk24 hf24 hE24
  have e24_2 : a24.eval (.tmp 2) = .pointer (some ⟨g20, 0, none⟩) := (hk24 2 rfl).trans e22_2
  obtain ⟨(b_g20 : BlkO own24 23 w24 g20 25 #[.int .i64 p1.2, .int .i64 p1.1]), -⟩ := hf24 [5] rfl
  have hX24 := Evo.step hX22 (fun _ => Nat.le_refl 0) hE24 rfl
  have b24_g20 := b_g20
  refine fl_ret ?_
  obtain rfl := osome hs
  exact hret _ _ _ _ (.inl rfl) hd24 (results1_ rfl (RVal.cell_ e24_2 (run_loadVarAgg (l := [.int .i64 p1.2, .int .i64 p1.1]) ta25 (Blk.cellsFrom b24_g20.2 0 rfl) rfl))) ⟨own24, rfl, hX24⟩

theorem seg_AtY_w (w : World) (x1 : Int × Int) (b2 : Int × Int) (c3 : Int) (r : Int × Bool) (hs : seg_AtY x1 b2 c3 = some r) :
    Calls Try.prog 36 #[.agg #[.int .i64 x1.1, .int .i64 x1.2], .agg #[.int .i64 b2.1, .int .i64 b2.2], .int .i64 c3] w fun e w' => ∃ own' : Own, e = .returned (.tuple #[.int .i64 r.1, .bool r.2]) ∧ Evo [] (fun _ => 0) own' w w' := by
  refine fl_enter (n := 16) rfl rfl rfl (Nat.le_of_ble_eq_true rfl) ?_
  intro a0 Q hd0 hz0 harg hret
  have ha0 := harg 0 _ rfl
  have ha1 := harg 1 _ rfl
  have ha2 := harg 2 _ rfl
  clear harg
  have hE0 : Evo [] (fun _ => 0) (fun _ => 0) w w := Evo.refl _ _ _
  refine rg_plain_seq (n := 16) (rs := []) (own0 := (fun _ => 0)) (K := [])
      (bs := [0, 0, 0, 4])
      (ds := [⟨[], [0], [], Fct.blk 21 3 (fun g => .pointer (some ⟨g, 0, none⟩)) 25 #[.int .i64 x1.1, .int .i64 x1.2]⟩,
      ⟨[], [1], [], Fct.blk 23 4 (fun g => .pointer (some ⟨g, 0, none⟩)) 25 #[.int .i64 b2.1, .int .i64 b2.2]⟩,
      ⟨[], [], [], Fct.val 6 (.int .i64 0)⟩,
      ⟨[], [], [], Fct.val 7 (.bool false)⟩]) (by kernel_rfl) hz0 hd0 (fun _ h => nomatch h) ?_ ?_
  · refine steps_cons (fun own a wx hf hsl hE => ?_) ?_
    · obtain ⟨s_0, -⟩ := hsl
      exact sg_plain rfl rfl (or_new [(0, .agg #[.int .i64 x1.1, .int .i64 x1.2])] rfl rfl ⟨(s_0.trans ha0), trivial⟩ (by kernel_rfl))
    refine steps_cons (fun own a wx hf hsl hE => ?_) ?_
    · obtain ⟨s_1, -⟩ := hsl
      exact sg_plain rfl rfl (or_new [(1, .agg #[.int .i64 b2.1, .int .i64 b2.2])] rfl rfl ⟨(s_1.trans ha1), trivial⟩ (by kernel_rfl))
    refine steps_cons (fun own a wx hf hsl hE => ?_) ?_
    · exact sg_plain rfl rfl (or_assign rfl)
    refine steps_cons (fun own a wx hf hsl hE => ?_) ?_
    · exact sg_plain rfl rfl (or_assign rfl)
    exact steps_nil
  intro own24 a24 w24 hd24 hz24 hk24 hf24 hE24
  have e24_2 : a24.eval (.tmp 2) = .int .i64 c3 := (hk24 2 rfl).trans ha2
  obtain ⟨⟨g20, (f_3 : a24.eval (.tmp 3) = .pointer (some ⟨g20, 0, none⟩)), (b_g20 : BlkO own24 21 w24 g20 25 #[.int .i64 x1.1, .int .i64 x1.2])⟩, ⟨g22, (f_4 : a24.eval (.tmp 4) = .pointer (some ⟨g22, 0, none⟩)), (b_g22 : BlkO own24 23 w24 g22 25 #[.int .i64 b2.1, .int .i64 b2.2])⟩, -⟩ := hf24 [0, 1] rfl
  have e24_3 := f_3
  have e24_4 := f_4
  have hX24 := Evo.step hE0 (fun _ => Nat.le_refl 0) hE24 rfl
  have b24_g20 := b_g20
  have b24_g22 := b_g22
  obtain ⟨r25, hr25, hs⟩ := obind hs
  obtain ⟨r26, hr26, hs⟩ := obind hs
  obtain ⟨r27, hr27, hs⟩ := obind hs
  refine rg_draw_seq g_mixed (n := 16) (rs := []) (own0 := own24) (K := [])
      (bs := [0, 1, 0, 7, 0, 31, 63, 63, 255, 511])
      (ds := [⟨[], [3], [], Fct.val 8 (.agg #[.int .i64 x1.1, .int .i64 x1.2])⟩,
      ⟨[0], [], [], Fct.val 9 (.agg #[.int .i64 r25.1, .int .i64 r25.2])⟩,
      ⟨[], [4], [], Fct.val 10 (.agg #[.int .i64 b2.1, .int .i64 b2.2])⟩,
      ⟨[2], [], [], Fct.val 11 (.agg #[.int .i64 r26.1, .int .i64 r26.2])⟩,
      ⟨[], [2], [], Fct.val 12 (.int .i64 c3)⟩,
      ⟨[1, 3, 4], [], [], Fct.val 13 (.tuple #[.int .i64 r27.1, .bool r27.2])⟩,
      ⟨[5], [], [], Fct.val 14 (.int .i64 r27.1)⟩,
      ⟨[5], [], [], Fct.val 15 (.bool r27.2)⟩,
      ⟨[6], [], [], Fct.val 6 (.int .i64 r27.1)⟩,
      ⟨[7], [], [], Fct.val 7 (.bool r27.2)⟩]) (by kernel_rfl) hz24 hd24 (fun _ h => nomatch h) ?_ ?_
  · refine steps_cons (fun own a wx hf hsl hE => ?_) ?_
    · obtain ⟨s_3, -⟩ := hsl
      exact sg_plain rfl rfl (or_load (l := [.int .i64 x1.1, .int .i64 x1.2]) ta25 (s_3.trans e24_3) (Blk.cellsFrom (BlkO.evo (by decide) hE b24_g20).2 0 rfl) rfl)
    refine steps_cons (fun own a wx hf hsl hE => ?_) ?_
    · obtain ⟨(f_8 : a.eval (.tmp 8) = .agg #[.int .i64 x1.1, .int .i64 x1.2]), -⟩ := hf
      exact sg_plain rfl rfl (or_call cf42 (args1 f_8) (seg_flip_w _ x1  r25 hr25) post_val)
    refine steps_cons (fun own a wx hf hsl hE => ?_) ?_
    · obtain ⟨s_4, -⟩ := hsl
      exact sg_plain rfl rfl (or_load (l := [.int .i64 b2.1, .int .i64 b2.2]) ta25 (s_4.trans e24_4) (Blk.cellsFrom (BlkO.evo (by decide) hE b24_g22).2 0 rfl) rfl)
    refine steps_cons (fun own a wx hf hsl hE => ?_) ?_
    · obtain ⟨(f_10 : a.eval (.tmp 10) = .agg #[.int .i64 b2.1, .int .i64 b2.2]), -⟩ := hf
      exact sg_plain rfl rfl (or_call cf42 (args1 f_10) (seg_flip_w _ b2  r26 hr26) post_val)
    refine steps_cons (fun own a wx hf hsl hE => ?_) ?_
    · obtain ⟨s_2, -⟩ := hsl
      exact sg_plain rfl rfl (or_move (s_2.trans e24_2))
    refine steps_cons (fun own a wx hf hsl hE => ?_) ?_
    · obtain ⟨(f_9 : a.eval (.tmp 9) = .agg #[.int .i64 r25.1, .int .i64 r25.2]), (f_11 : a.eval (.tmp 11) = .agg #[.int .i64 r26.1, .int .i64 r26.2]), (f_12 : a.eval (.tmp 12) = .int .i64 c3), -⟩ := hf
      exact sg_plain rfl rfl (or_call cf37 (args3 f_9 f_11 f_12) (seg_AtX_w _ r25 r26 c3  r27 hr27) post_val)
    refine steps_cons (fun own a wx hf hsl hE => ?_) ?_
    · obtain ⟨(f_13 : a.eval (.tmp 13) = .tuple #[.int .i64 r27.1, .bool r27.2]), -⟩ := hf
      exact sg_plain rfl rfl (or_k [(13, .tuple #[.int .i64 r27.1, .bool r27.2])] rfl rfl ⟨f_13, trivial⟩ (by kernel_rfl))
    refine steps_cons (fun own a wx hf hsl hE => ?_) ?_
    · obtain ⟨(f_13 : a.eval (.tmp 13) = .tuple #[.int .i64 r27.1, .bool r27.2]), -⟩ := hf
      exact sg_plain rfl rfl (or_k [(13, .tuple #[.int .i64 r27.1, .bool r27.2])] rfl rfl ⟨f_13, trivial⟩ (by kernel_rfl))
    refine steps_cons (fun own a wx hf hsl hE => ?_) ?_
    · obtain ⟨(f_14 : a.eval (.tmp 14) = .int .i64 r27.1), -⟩ := hf
      exact sg_plain rfl rfl (or_assign f_14)
    refine steps_cons (fun own a wx hf hsl hE => ?_) ?_
    · obtain ⟨(f_15 : a.eval (.tmp 15) = .bool r27.2), -⟩ := hf
      exact sg_plain rfl rfl (or_assign f_15)
    exact steps_nil
  intro own28 a28 w28 hd28 hz28 hk28 hf28 hE28
  obtain ⟨(f_6 : a28.eval (.tmp 6) = .int .i64 r27.1), (f_7 : a28.eval (.tmp 7) = .bool r27.2), -⟩ := hf28 [8, 9] rfl
  have e28_6 := f_6
  have e28_7 := f_7
  have hX28 := Evo.step hX24 (fun _ => Nat.le_refl 0) hE28 rfl
  refine fl_ret ?_
  obtain rfl := osome hs
  exact hret _ _ _ _ (.inl rfl) hd28 (results2_ rfl (RVal.tmp_ e28_6) (RVal.tmp_ e28_7)) ⟨own28, rfl, hX28⟩

theorem polyclip_cut_w (w : World) (x1 : Int × Int) (b2 : Int × Int) (c3 : Int) (y4 : Bool) (r : (Int × Int) × Bool) (hs : polyclip_cut x1 b2 c3 y4 = some r) :
    Calls Try.prog 23 #[.agg #[.int .i64 x1.1, .int .i64 x1.2], .agg #[.int .i64 b2.1, .int .i64 b2.2], .int .i64 c3, .bool y4] w fun e w' => ∃ own' : Own, e = .returned (.tuple #[.agg #[.int .i64 r.1.1, .int .i64 r.1.2], .bool r.2]) ∧ Evo [] (fun _ => 0) own' w w' := by
  refine fl_enter (n := 37) rfl rfl rfl (Nat.le_of_ble_eq_true rfl) ?_
  intro a0 Q hd0 hz0 harg hret
  have ha0 := harg 0 _ rfl
  have ha1 := harg 1 _ rfl
  have ha2 := harg 2 _ rfl
  have ha3 := harg 3 _ rfl
  clear harg
  have hE0 : Evo [] (fun _ => 0) (fun _ => 0) w w := Evo.refl _ _ _
  refine rg_plain_seq (n := 37) (rs := []) (own0 := (fun _ => 0)) (K := [])
      (bs := [0, 0, 0, 0])
      (ds := [⟨[], [0], [], Fct.blk 30 4 (fun g => .pointer (some ⟨g, 0, none⟩)) 25 #[.int .i64 x1.1, .int .i64 x1.2]⟩,
      ⟨[], [1], [], Fct.blk 32 5 (fun g => .pointer (some ⟨g, 0, none⟩)) 25 #[.int .i64 b2.1, .int .i64 b2.2]⟩,
      ⟨[], [], [], Fct.blk 34 8 (fun g => .pointer (some ⟨g, 0, none⟩)) 25 #[.int .i64 0, .int .i64 0]⟩,
      ⟨[], [], [], Fct.val 9 (.bool false)⟩]) (by kernel_rfl) hz0 hd0 (fun _ h => nomatch h) ?_ ?_
  · refine steps_cons (fun own a wx hf hsl hE => ?_) ?_
    · obtain ⟨s_0, -⟩ := hsl
      exact sg_plain rfl rfl (or_new [(0, .agg #[.int .i64 x1.1, .int .i64 x1.2])] rfl rfl ⟨(s_0.trans ha0), trivial⟩ (by kernel_rfl))
    refine steps_cons (fun own a wx hf hsl hE => ?_) ?_
    · obtain ⟨s_1, -⟩ := hsl
      exact sg_plain rfl rfl (or_new [(1, .agg #[.int .i64 b2.1, .int .i64 b2.2])] rfl rfl ⟨(s_1.trans ha1), trivial⟩ (by kernel_rfl))
    refine steps_cons (fun own a wx hf hsl hE => ?_) ?_
    · exact sg_plain rfl rfl (or_new [] rfl rfl trivial (by kernel_rfl))
    refine steps_cons (fun own a wx hf hsl hE => ?_) ?_
    · exact sg_plain rfl rfl (or_assign rfl)
    exact steps_nil
  intro own35 a35 w35 hd35 hz35 hk35 hf35 hE35
  have e35_2 : a35.eval (.tmp 2) = .int .i64 c3 := (hk35 2 rfl).trans ha2
  have e35_3 : a35.eval (.tmp 3) = .bool y4 := (hk35 3 rfl).trans ha3
  obtain ⟨⟨g29, (f_4 : a35.eval (.tmp 4) = .pointer (some ⟨g29, 0, none⟩)), (b_g29 : BlkO own35 30 w35 g29 25 #[.int .i64 x1.1, .int .i64 x1.2])⟩, ⟨g31, (f_5 : a35.eval (.tmp 5) = .pointer (some ⟨g31, 0, none⟩)), (b_g31 : BlkO own35 32 w35 g31 25 #[.int .i64 b2.1, .int .i64 b2.2])⟩, ⟨g33, (f_8 : a35.eval (.tmp 8) = .pointer (some ⟨g33, 0, none⟩)), (b_g33 : BlkO own35 34 w35 g33 25 #[.int .i64 0, .int .i64 0])⟩, -⟩ := hf35 [0, 1, 2] rfl
  have e35_4 := f_4
  have e35_5 := f_5
  have e35_8 := f_8
  have hX35 := Evo.step hE0 (fun _ => Nat.le_refl 0) hE35 rfl
  have b35_g29 := b_g29
  have b35_g31 := b_g31
  have b35_g33 := b_g33
  refine fl_seq (fun Q36 hn36 hp36 => ?_)
  refine rg_plain_seq (n := 37) (rs := []) (own0 := own35) (K := [])
      (bs := [0])
      (ds := [⟨[], [3], [], Fct.val 14 (.bool y4)⟩]) (by kernel_rfl) hz35 hd35 (fun _ h => nomatch h) ?_ ?_
  · refine steps_cons (fun own a wx hf hsl hE => ?_) ?_
    · obtain ⟨s_3, -⟩ := hsl
      exact sg_plain rfl rfl (or_move (s_3.trans e35_3))
    exact steps_nil
  intro own37 a37 w37 hd37 hz37 hk37 hf37 hE37
  have e37_2 : a37.eval (.tmp 2) = .int .i64 c3 := (hk37 2 rfl).trans e35_2
  have e37_4 : a37.eval (.tmp 4) = .pointer (some ⟨g29, 0, none⟩) := (hk37 4 rfl).trans e35_4
  have e37_5 : a37.eval (.tmp 5) = .pointer (some ⟨g31, 0, none⟩) := (hk37 5 rfl).trans e35_5
  have e37_8 : a37.eval (.tmp 8) = .pointer (some ⟨g33, 0, none⟩) := (hk37 8 rfl).trans e35_8
  obtain ⟨(f_14 : a37.eval (.tmp 14) = .bool y4), -⟩ := hf37 [0] rfl
  have e37_14 := f_14
  have hX37 := Evo.step hX35 (fun _ => Nat.le_refl 0) hE37 rfl
  have b37_g29 := BlkO.evo (by decide) hE37 b35_g29
  have b37_g31 := BlkO.evo (by decide) hE37 b35_g31
  have b37_g33 := BlkO.evo (by decide) hE37 b35_g33
  refine fl_cond e37_14 hs (fun c38 hs => ?_) (fun c38 hs => ?_)
  · obtain ⟨r39, hr39, hs⟩ := obind hs
    refine rg_plain_seq (n := 37) (rs := []) (own0 := own37) (K := [])
        (bs := [0, 0, 0, 7, 15, 31, 31, 63, 255])
        (ds := [⟨[], [4], [], Fct.val 16 (.agg #[.int .i64 x1.1, .int .i64 x1.2])⟩,
        ⟨[], [5], [], Fct.val 17 (.agg #[.int .i64 b2.1, .int .i64 b2.2])⟩,
        ⟨[], [2], [], Fct.val 18 (.int .i64 c3)⟩,
        ⟨[0, 1, 2], [], [], Fct.val 19 (.tuple #[.int .i64 r39.1, .bool r39.2])⟩,
        ⟨[3], [], [], Fct.val 15 (.tuple #[.int .i64 r39.1, .bool r39.2])⟩,
        ⟨[4], [], [], Fct.val 20 (.int .i64 r39.1)⟩,
        ⟨[4], [], [], Fct.val 21 (.bool r39.2)⟩,
        ⟨[5], [], [], Fct.val 10 (.int .i64 r39.1)⟩,
        ⟨[6], [], [], Fct.val 11 (.bool r39.2)⟩]) (by kernel_rfl) hz37 hd37 (fun _ h => nomatch h) ?_ ?_
    · refine steps_cons (fun own a wx hf hsl hE => ?_) ?_
      · obtain ⟨s_4, -⟩ := hsl
        exact sg_plain rfl rfl (or_load (l := [.int .i64 x1.1, .int .i64 x1.2]) ta25 (s_4.trans e37_4) (Blk.cellsFrom (BlkO.evo (by decide) hE b37_g29).2 0 rfl) rfl)
      refine steps_cons (fun own a wx hf hsl hE => ?_) ?_
      · obtain ⟨s_5, -⟩ := hsl
        exact sg_plain rfl rfl (or_load (l := [.int .i64 b2.1, .int .i64 b2.2]) ta25 (s_5.trans e37_5) (Blk.cellsFrom (BlkO.evo (by decide) hE b37_g31).2 0 rfl) rfl)
      refine steps_cons (fun own a wx hf hsl hE => ?_) ?_
      · obtain ⟨s_2, -⟩ := hsl
        exact sg_plain rfl rfl (or_move (s_2.trans e37_2))
      refine steps_cons (fun own a wx hf hsl hE => ?_) ?_
      · obtain ⟨(f_16 : a.eval (.tmp 16) = .agg #[.int .i64 x1.1, .int .i64 x1.2]), (f_17 : a.eval (.tmp 17) = .agg #[.int .i64 b2.1, .int .i64 b2.2]), (f_18 : a.eval (.tmp 18) = .int .i64 c3), -⟩ := hf
        exact sg_plain rfl rfl (or_call cf36 (args3 f_16 f_17 f_18) (seg_AtY_w _ x1 b2 c3  r39 hr39) post_val)
      refine steps_cons (fun own a wx hf hsl hE => ?_) ?_
      · obtain ⟨(f_19 : a.eval (.tmp 19) = .tuple #[.int .i64 r39.1, .bool r39.2]), -⟩ := hf
        exact sg_plain rfl rfl (or_move f_19)
      refine steps_cons (fun own a wx hf hsl hE => ?_) ?_
      · obtain ⟨(f_15 : a.eval (.tmp 15) = .tuple #[.int .i64 r39.1, .bool r39.2]), -⟩ := hf
        exact sg_plain rfl rfl (or_k [(15, .tuple #[.int .i64 r39.1, .bool r39.2])] rfl rfl ⟨f_15, trivial⟩ (by kernel_rfl))
      refine steps_cons (fun own a wx hf hsl hE => ?_) ?_
      · obtain ⟨(f_15 : a.eval (.tmp 15) = .tuple #[.int .i64 r39.1, .bool r39.2]), -⟩ := hf
        exact sg_plain rfl rfl (or_k [(15, .tuple #[.int .i64 r39.1, .bool r39.2])] rfl rfl ⟨f_15, trivial⟩ (by kernel_rfl))
      refine steps_cons (fun own a wx hf hsl hE => ?_) ?_
      · obtain ⟨(f_20 : a.eval (.tmp 20) = .int .i64 r39.1), -⟩ := hf
        exact sg_plain rfl rfl (or_assign f_20)
      refine steps_cons (fun own a wx hf hsl hE => ?_) ?_
      · obtain ⟨(f_21 : a.eval (.tmp 21) = .bool r39.2), -⟩ := hf
        exact sg_plain rfl rfl (or_assign f_21)
      exact steps_nil
    intro own40 a40 w40 hd40 hz40 hk40 hf40 hE40
    have e40_2 : a40.eval (.tmp 2) = .int .i64 c3 := (hk40 2 rfl).trans e37_2
    have e40_8 : a40.eval (.tmp 8) = .pointer (some ⟨g33, 0, none⟩) := (hk40 8 rfl).trans e37_8
    obtain ⟨(f_10 : a40.eval (.tmp 10) = .int .i64 r39.1), (f_11 : a40.eval (.tmp 11) = .bool r39.2), -⟩ := hf40 [7, 8] rfl
    have e40_10 := f_10
    have e40_11 := f_11
    have hX40 := Evo.step hX37 (fun _ => Nat.le_refl 0) hE40 rfl
    have b40_g33 := BlkO.evo (by decide) hE40 b37_g33
    refine rg_plain_seq (n := 37) (rs := [Fct.at_ 34 g33 25 #[.int .i64 0, .int .i64 0]]) (own0 := own40) (K := [34])
        (bs := [0, 0, 3, 0, 7, 31])
        (ds := [⟨[], [10], [], Fct.val 22 (.int .i64 r39.1)⟩,
        ⟨[], [2], [], Fct.val 23 (.int .i64 c3)⟩,
        ⟨[0, 1], [], [], Fct.val 24 (.agg #[.int .i64 r39.1, .int .i64 c3])⟩,
        ⟨[], [11], [], Fct.val 25 (.bool r39.2)⟩,
        ⟨[2, 6], [8], [34], Fct.at_ 41 g33 25 #[.int .i64 r39.1, .int .i64 c3]⟩,
        ⟨[3], [], [], Fct.val 9 (.bool r39.2)⟩]) (by kernel_rfl) hz40 hd40 (by simp only [List.forall_mem_cons]; exact ⟨b40_g33, fun _ h => nomatch h⟩) ?_ ?_
    · refine steps_cons (fun own a wx hf hsl hE => ?_) ?_
      · obtain ⟨s_10, -⟩ := hsl
        exact sg_plain rfl rfl (or_move (s_10.trans e40_10))
      refine steps_cons (fun own a wx hf hsl hE => ?_) ?_
      · obtain ⟨s_2, -⟩ := hsl
        exact sg_plain rfl rfl (or_move (s_2.trans e40_2))
      refine steps_cons (fun own a wx hf hsl hE => ?_) ?_
      · obtain ⟨(f_22 : a.eval (.tmp 22) = .int .i64 r39.1), (f_23 : a.eval (.tmp 23) = .int .i64 c3), -⟩ := hf
        exact sg_plain rfl rfl (or_k [(22, .int .i64 r39.1), (23, .int .i64 c3)] rfl rfl ⟨f_22, f_23, trivial⟩ (by kernel_rfl))
      refine steps_cons (fun own a wx hf hsl hE => ?_) ?_
      · obtain ⟨s_11, -⟩ := hsl
        exact sg_plain rfl rfl (or_move (s_11.trans e40_11))
      refine steps_cons (fun own a wx hf hsl hE => ?_) ?_
      · obtain ⟨(f_24 : a.eval (.tmp 24) = .agg #[.int .i64 r39.1, .int .i64 c3]), (b_g33 : BlkO own 34 wx g33 25 #[.int .i64 0, .int .i64 0]), -⟩ := hf
        obtain ⟨s_8, -⟩ := hsl
        exact sg_plain rfl rfl (or_store (l := #[.int .i64 r39.1, .int .i64 c3]) (lab := 34) (lab2 := 41) ts25 (s_8.trans e40_8) f_24 b_g33 (by simp) (by kernel_rfl) (mem_of rfl) (by decide) (by kernel_rfl) (fun own' a' w' ha hb => hb))
      refine steps_cons (fun own a wx hf hsl hE => ?_) ?_
      · obtain ⟨(f_25 : a.eval (.tmp 25) = .bool r39.2), -⟩ := hf
        exact sg_plain rfl rfl (or_assign f_25)
      exact steps_nil
    intro own42 a42 w42 hd42 hz42 hk42 hf42 hE42
    have e42_8 : a42.eval (.tmp 8) = .pointer (some ⟨g33, 0, none⟩) := (hk42 8 rfl).trans e40_8
    obtain ⟨(f_9 : a42.eval (.tmp 9) = .bool r39.2), (b_g33 : BlkO own42 41 w42 g33 25 #[.int .i64 r39.1, .int .i64 c3]), -⟩ := hf42 [5, 4] rfl
    have e42_9 := f_9
    have hX42 := Evo.step hX40 (fun _ => Nat.le_refl 0) hE42 rfl
    have b42_g33 := b_g33
    refine fl_ret ?_
    refine hp36 _ _ _ rfl ?_
    obtain rfl := osome hs
    exact hret _ _ _ _ (.inl rfl) hd42 (results2_ rfl (RVal.cell_ e42_8 (run_loadVarAgg (l := [.int .i64 r39.1, .int .i64 c3]) ta25 (Blk.cellsFrom b42_g33.2 0 rfl) rfl)) (RVal.tmp_ e42_9)) ⟨own42, rfl, hX42⟩
  refine fl_skip ?_
  refine hn36 _ _ ?_
  obtain ⟨r43, hr43, hs⟩ := obind hs
  refine rg_plain_seq (n := 37) (rs := []) (own0 := own37) (K := [])
      (bs := [0, 0, 0, 7, 15, 31, 31, 63, 255])
      (ds := [⟨[], [4], [], Fct.val 27 (.agg #[.int .i64 x1.1, .int .i64 x1.2])⟩,
      ⟨[], [5], [], Fct.val 28 (.agg #[.int .i64 b2.1, .int .i64 b2.2])⟩,
      ⟨[], [2], [], Fct.val 29 (.int .i64 c3)⟩,
      ⟨[0, 1, 2], [], [], Fct.val 30 (.tuple #[.int .i64 r43.1, .bool r43.2])⟩,
      ⟨[3], [], [], Fct.val 26 (.tuple #[.int .i64 r43.1, .bool r43.2])⟩,
      ⟨[4], [], [], Fct.val 31 (.int .i64 r43.1)⟩,
      ⟨[4], [], [], Fct.val 32 (.bool r43.2)⟩,
      ⟨[5], [], [], Fct.val 12 (.int .i64 r43.1)⟩,
      ⟨[6], [], [], Fct.val 13 (.bool r43.2)⟩]) (by kernel_rfl) hz37 hd37 (fun _ h => nomatch h) ?_ ?_
  · refine steps_cons (fun own a wx hf hsl hE => ?_) ?_
    · obtain ⟨s_4, -⟩ := hsl
      exact sg_plain rfl rfl (or_load (l := [.int .i64 x1.1, .int .i64 x1.2]) ta25 (s_4.trans e37_4) (Blk.cellsFrom (BlkO.evo (by decide) hE b37_g29).2 0 rfl) rfl)
    refine steps_cons (fun own a wx hf hsl hE => ?_) ?_
    · obtain ⟨s_5, -⟩ := hsl
      exact sg_plain rfl rfl (or_load (l := [.int .i64 b2.1, .int .i64 b2.2]) ta25 (s_5.trans e37_5) (Blk.cellsFrom (BlkO.evo (by decide) hE b37_g31).2 0 rfl) rfl)
    refine steps_cons (fun own a wx hf hsl hE => ?_) ?_
    · obtain ⟨s_2, -⟩ := hsl
      exact sg_plain rfl rfl (or_move (s_2.trans e37_2))
    refine steps_cons (fun own a wx hf hsl hE => ?_) ?_
    · obtain ⟨(f_27 : a.eval (.tmp 27) = .agg #[.int .i64 x1.1, .int .i64 x1.2]), (f_28 : a.eval (.tmp 28) = .agg #[.int .i64 b2.1, .int .i64 b2.2]), (f_29 : a.eval (.tmp 29) = .int .i64 c3), -⟩ := hf
      exact sg_plain rfl rfl (or_call cf37 (args3 f_27 f_28 f_29) (seg_AtX_w _ x1 b2 c3  r43 hr43) post_val)
    refine steps_cons (fun own a wx hf hsl hE => ?_) ?_
    · obtain ⟨(f_30 : a.eval (.tmp 30) = .tuple #[.int .i64 r43.1, .bool r43.2]), -⟩ := hf
      exact sg_plain rfl rfl (or_move f_30)
    refine steps_cons (fun own a wx hf hsl hE => ?_) ?_
    · obtain ⟨(f_26 : a.eval (.tmp 26) = .tuple #[.int .i64 r43.1, .bool r43.2]), -⟩ := hf
      exact sg_plain rfl rfl (or_k [(26, .tuple #[.int .i64 r43.1, .bool r43.2])] rfl rfl ⟨f_26, trivial⟩ (by kernel_rfl))
    refine steps_cons (fun own a wx hf hsl hE => ?_) ?_
    · obtain ⟨(f_26 : a.eval (.tmp 26) = .tuple #[.int .i64 r43.1, .bool r43.2]), -⟩ := hf
      exact sg_plain rfl rfl (or_k [(26, .tuple #[.int .i64 r43.1, .bool r43.2])] rfl rfl ⟨f_26, trivial⟩ (by kernel_rfl))
    refine steps_cons (fun own a wx hf hsl hE => ?_) ?_
    · obtain ⟨(f_31 : a.eval (.tmp 31) = .int .i64 r43.1), -⟩ := hf
      exact sg_plain rfl rfl (or_assign f_31)
    refine steps_cons (fun own a wx hf hsl hE => ?_) ?_
    · obtain ⟨(f_32 : a.eval (.tmp 32) = .bool r43.2), -⟩ := hf
      exact sg_plain rfl rfl (or_assign f_32)
    exact steps_nil
  intro own44 a44 w44 hd44 hz44 hk44 hf44 hE44
  have e44_2 : a44.eval (.tmp 2) = .int .i64 c3 := (hk44 2 rfl).trans e37_2
  have e44_8 : a44.eval (.tmp 8) = .pointer (some ⟨g33, 0, none⟩) := (hk44 8 rfl).trans e37_8
  obtain ⟨(f_12 : a44.eval (.tmp 12) = .int .i64 r43.1), (f_13 : a44.eval (.tmp 13) = .bool r43.2), -⟩ := hf44 [7, 8] rfl
  have e44_12 := f_12
  have e44_13 := f_13
  have hX44 := Evo.step hX37 (fun _ => Nat.le_refl 0) hE44 rfl
  have b44_g33 := BlkO.evo (by decide) hE44 b37_g33
  refine rg_plain_seq (n := 37) (rs := [Fct.at_ 34 g33 25 #[.int .i64 0, .int .i64 0]]) (own0 := own44) (K := [34])
      (bs := [0, 0, 3, 0, 7, 31])
      (ds := [⟨[], [2], [], Fct.val 33 (.int .i64 c3)⟩,
      ⟨[], [12], [], Fct.val 34 (.int .i64 r43.1)⟩,
      ⟨[0, 1], [], [], Fct.val 35 (.agg #[.int .i64 c3, .int .i64 r43.1])⟩,
      ⟨[], [13], [], Fct.val 36 (.bool r43.2)⟩,
      ⟨[2, 6], [8], [34], Fct.at_ 45 g33 25 #[.int .i64 c3, .int .i64 r43.1]⟩,
      ⟨[3], [], [], Fct.val 9 (.bool r43.2)⟩]) (by kernel_rfl) hz44 hd44 (by simp only [List.forall_mem_cons]; exact ⟨b44_g33, fun _ h => nomatch h⟩) ?_ ?_
  · refine steps_cons (fun own a wx hf hsl hE => ?_) ?_
    · obtain ⟨s_2, -⟩ := hsl
      exact sg_plain rfl rfl (or_move (s_2.trans e44_2))
    refine steps_cons (fun own a wx hf hsl hE => ?_) ?_
    · obtain ⟨s_12, -⟩ := hsl
      exact sg_plain rfl rfl (or_move (s_12.trans e44_12))
    refine steps_cons (fun own a wx hf hsl hE => ?_) ?_
    · obtain ⟨(f_33 : a.eval (.tmp 33) = .int .i64 c3), (f_34 : a.eval (.tmp 34) = .int .i64 r43.1), -⟩ := hf
      exact sg_plain rfl rfl (or_k [(33, .int .i64 c3), (34, .int .i64 r43.1)] rfl rfl ⟨f_33, f_34, trivial⟩ (by kernel_rfl))
    refine steps_cons (fun own a wx hf hsl hE => ?_) ?_
    · obtain ⟨s_13, -⟩ := hsl
      exact sg_plain rfl rfl (or_move (s_13.trans e44_13))
    refine steps_cons (fun own a wx hf hsl hE => ?_) ?_
    · obtain ⟨(f_35 : a.eval (.tmp 35) = .agg #[.int .i64 c3, .int .i64 r43.1]), (b_g33 : BlkO own 34 wx g33 25 #[.int .i64 0, .int .i64 0]), -⟩ := hf
      obtain ⟨s_8, -⟩ := hsl
      exact sg_plain rfl rfl (or_store (l := #[.int .i64 c3, .int .i64 r43.1]) (lab := 34) (lab2 := 45) ts25 (s_8.trans e44_8) f_35 b_g33 (by simp) (by kernel_rfl) (mem_of rfl) (by decide) (by kernel_rfl) (fun own' a' w' ha hb => hb))
    refine steps_cons (fun own a wx hf hsl hE => ?_) ?_
    · obtain ⟨(f_36 : a.eval (.tmp 36) = .bool r43.2), -⟩ := hf
      exact sg_plain rfl rfl (or_assign f_36)
    exact steps_nil
  intro own46 a46 w46 hd46 hz46 hk46 hf46 hE46
  have e46_8 : a46.eval (.tmp 8) = .pointer (some ⟨g33, 0, none⟩) := (hk46 8 rfl).trans e44_8
  obtain ⟨(f_9 : a46.eval (.tmp 9) = .bool r43.2), (b_g33 : BlkO own46 45 w46 g33 25 #[.int .i64 c3, .int .i64 r43.1]), -⟩ := hf46 [5, 4] rfl
  have e46_9 := f_9
  have hX46 := Evo.step hX44 (fun _ => Nat.le_refl 0) hE46 rfl
  have b46_g33 := b_g33
  refine fl_ret ?_
  obtain rfl := osome hs
  exact hret _ _ _ _ (.inl rfl) hd46 (results2_ rfl (RVal.cell_ e46_8 (run_loadVarAgg (l := [.int .i64 c3, .int .i64 r43.1]) ta25 (Blk.cellsFrom b46_g33.2 0 rfl) rfl)) (RVal.tmp_ e46_9)) ⟨own46, rfl, hX46⟩

end Go.Proofs.Ytopnbammdeimcaa
