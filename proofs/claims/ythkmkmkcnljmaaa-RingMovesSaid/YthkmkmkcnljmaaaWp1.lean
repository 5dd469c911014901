/-
  Chapter 03. The walks.
-/
import Derived.Test.YthkmkmkcnljmaaaBase
import Derived.Test.YthkmkmkcnljmaaaTy
import Derived.Test.YthkmkmkcnljmaaaSp1
namespace Go.Proofs.Ythkmkmkcnljmaaa
open Go.RowKit
set_option linter.unusedVariables false
theorem law03_Cut_w (w : World) (own : Own) (l1 : List (Int × Int)) (Al1 : Option Addr) (cl1 : Nat) (hown : ∀ b, own b ≤ 1) (hl1 : RdO own [1] w R32 Al1 cl1 l1) (r : List (Int × Int)) (hs : law03_Cut l1 = some r) :
    Calls Try.prog 8 #[.slice Al1 l1.length cl1] w fun e w' => ∃ (own' : Own) (x : Option Addr × Nat), e = .returned (.slice x.1 r.length x.2) ∧ Evo [] own own' w w' ∧ RdO own' [1, 2] w' R32 x.1 x.2 r := by
  refine fl_enter (n := 8) rfl rfl rfl (Nat.le_of_ble_eq_true rfl) ?_
  intro a0 Q hd0 hz0 harg hret
  have ha0 := harg 0 _ rfl
  clear harg
  have hE0 : Evo [] own own w w := Evo.refl _ _ _
  refine rg_plain_seq (n := 8) (rs := []) (own0 := own) (K := [])
      (bs := [0])
      (ds := [⟨[], [], [], Fct.val 2 (.slice none 0 0)⟩]) (by kernel_rfl) hz0 hd0 (fun _ h => nomatch h) ?_ ?_
  · refine steps_cons (fun own a wx hf hsl hE => ?_) ?_
    · exact sg_plain rfl rfl (or_assign rfl)
    exact steps_nil
  intro own16 a16 w16 hd16 hz16 hk16 hf16 hE16
  have e16_0 : a16.eval (.tmp 0) = .slice Al1 l1.length cl1 := (hk16 0 rfl).trans ha0
  have hX16 := Evo.step hE0 hown hE16 rfl
  have b16_Al1 := RdO.evo rfl hE16 hl1
  obtain ⟨x17, hx17, hs⟩ := obind hs
  refine rg_plain_seq (n := 8) (rs := []) (own0 := own16) (K := [])
      (bs := [0, 0, 2, 6, 15, 31])
      (ds := [⟨[], [0], [], Fct.val 3 (.slice Al1 l1.length cl1)⟩,
      ⟨[], [0], [], Fct.val 4 (.slice Al1 l1.length cl1)⟩,
      ⟨[1], [], [], Fct.val 5 (.int .i64 (l1.length : Int))⟩,
      ⟨[2], [], [], Fct.val 6 (.int .i64 (mn (l1.length : Int) 40))⟩,
      ⟨[0, 3], [], [], Fct.view [1] 7 R32 x17⟩,
      ⟨[4], [], [], Fct.rel [2, 7] (fun l => ∀ (A18 : Option Addr) (cA18 : Nat), l.getD 1 undef = .slice A18 x17.length cA18 → l.getD 0 undef = .slice A18 x17.length cA18)⟩]) (by kernel_rfl) hz16 hd16 (fun _ h => nomatch h) ?_ ?_
  · refine steps_cons (fun own a wx hf hsl hE => ?_) ?_
    · obtain ⟨s_0, -⟩ := hsl
      exact sg_plain rfl rfl (or_move (s_0.trans e16_0))
    refine steps_cons (fun own a wx hf hsl hE => ?_) ?_
    · obtain ⟨s_0, -⟩ := hsl
      exact sg_plain rfl rfl (or_move (s_0.trans e16_0))
    refine steps_cons (fun own a wx hf hsl hE => ?_) ?_
    · obtain ⟨(f_4 : a.eval (.tmp 4) = .slice Al1 l1.length cl1), -⟩ := hf
      exact sg_plain rfl rfl (or_len tu22 f_4 rfl)
    refine steps_cons (fun own a wx hf hsl hE => ?_) ?_
    · obtain ⟨(f_5 : a.eval (.tmp 5) = .int .i64 (l1.length : Int)), -⟩ := hf
      exact sg_plain rfl rfl (or_min f_5 rfl)
    refine steps_cons (fun own a wx hf hsl hE => ?_) ?_
    · obtain ⟨(f_3 : a.eval (.tmp 3) = .slice Al1 l1.length cl1), (f_6 : a.eval (.tmp 6) = .int .i64 (mn (l1.length : Int) 40)), -⟩ := hf
      exact sg_plain rfl rfl (or_view (R := R32) (l := l1) (L := [1]) tu22 ts32 f_3 Bnd.none_ (Bnd.some_ f_6) Bnd.none_ (RdO.evo rfl hE b16_Al1) hx17 (.inl rfl) (by simp))
    refine steps_cons (fun own a wx hf hsl hE => ?_) ?_
    · obtain ⟨⟨⟨A18, cA18⟩, (f_7 : a.eval (.tmp 7) = .slice A18 x17.length cA18), (b_A18 : RdO own [1] wx R32 A18 cA18 x17)⟩, -⟩ := hf
      exact sg_plain rfl rfl (or_mono (f := Fct.val 2 (.slice A18 x17.length cA18)) (or_assign f_7) (fun own' a' w' v' hp h => fun _ _ h0' => by cases (f_7.symm.trans ((hp.2 7 (by decide)).symm.trans h0')); exact h))
    exact steps_nil
  intro own19 a19 w19 hd19 hz19 hk19 hf19 hE19
  obtain ⟨⟨⟨A18, cA18⟩, (f_7 : a19.eval (.tmp 7) = .slice A18 x17.length cA18), (b_A18 : RdO own19 [1] w19 R32 A18 cA18 x17)⟩, (q_2 : ∀ (A18 : Option Addr) (cA18 : Nat), a19.eval (.tmp 7) = .slice A18 x17.length cA18 → a19.eval (.tmp 2) = .slice A18 x17.length cA18), -⟩ := hf19 [4, 5] rfl
  have f_2 := q_2 _ _ f_7
  have e19_2 := f_2
  have hX19 := Evo.step hX16 hown hE19 rfl
  have b19_A18 := b_A18
  refine fl_ret ?_
  obtain rfl := (osome hs).symm
  exact hret _ _ _ _ (.inl rfl) hd19 (results1_ rfl (RVal.tmp_ e19_2)) ⟨own19, (A18, cA18), rfl, hX19, (RdO.more b19_A18 (by decide))⟩

theorem exact_within_w (w : World) (n1 : Int) (least2 : Int) (greatest3 : Int) (r : Bool) (hs : exact_within n1 least2 greatest3 = some r) :
    Calls Try.prog 54 #[.int .i64 n1, .int .i64 least2, .int .i64 greatest3] w fun e w' => ∃ own' : Own, e = .returned (.bool r) ∧ Evo [] (fun _ => 0) own' w w' := by
  refine fl_enter (n := 15) rfl rfl rfl (Nat.le_of_ble_eq_true rfl) ?_
  intro a0 Q hd0 hz0 harg hret
  have ha0 := harg 0 _ rfl
  have ha1 := harg 1 _ rfl
  have ha2 := harg 2 _ rfl
  clear harg
  have hE0 : Evo [] (fun _ => 0) (fun _ => 0) w w := Evo.refl _ _ _
  refine rg_plain_seq (n := 15) (rs := []) (own0 := (fun _ => 0)) (K := [])
      (bs := [0])
      (ds := [⟨[], [], [], Fct.val 6 (.bool false)⟩]) (by kernel_rfl) hz0 hd0 (fun _ h => nomatch h) ?_ ?_
  · refine steps_cons (fun own a wx hf hsl hE => ?_) ?_
    · exact sg_plain rfl rfl (or_assign rfl)
    exact steps_nil
  intro own14 a14 w14 hd14 hz14 hk14 hf14 hE14
  have e14_0 : a14.eval (.tmp 0) = .int .i64 n1 := (hk14 0 rfl).trans ha0
  have e14_1 : a14.eval (.tmp 1) = .int .i64 least2 := (hk14 1 rfl).trans ha1
  have e14_2 : a14.eval (.tmp 2) = .int .i64 greatest3 := (hk14 2 rfl).trans ha2
  have hX14 := Evo.step hE0 (fun _ => Nat.le_refl 0) hE14 rfl
  obtain ⟨x15, hx15, hs⟩ := obind hs
  refine rg_plain_seq (n := 15) (rs := []) (own0 := own14) (K := [])
      (bs := [0, 0, 3, 7, 15, 15, 63, 127, 255])
      (ds := [⟨[], [1], [], Fct.val 7 (.int .i64 least2)⟩,
      ⟨[], [0], [], Fct.val 8 (.int .i64 n1)⟩,
      ⟨[0, 1], [], [], Fct.val 9 (.bool (decide (least2 ≤ n1)))⟩,
      ⟨[2], [], [], Fct.val 10 (.bool (decide (least2 ≤ n1)))⟩,
      ⟨[3], [0], [], Fct.cond (decide (least2 ≤ n1)) (some 11) (Fct.val 11 (.int .i64 n1))⟩,
      ⟨[3], [2], [], Fct.cond (decide (least2 ≤ n1)) (some 12) (Fct.val 12 (.int .i64 greatest3))⟩,
      ⟨[3, 4, 5], [], [], Fct.cond (decide (least2 ≤ n1)) (some 13) (Fct.val 13 (.bool (decide (n1 ≤ greatest3))))⟩,
      ⟨[3, 6], [], [], Fct.val 14 (.bool x15)⟩,
      ⟨[7], [], [], Fct.val 6 (.bool x15)⟩]) (by kernel_rfl) hz14 hd14 (fun _ h => nomatch h) ?_ ?_
  · refine steps_cons (fun own a wx hf hsl hE => ?_) ?_
    · obtain ⟨s_1, -⟩ := hsl
      exact sg_plain rfl rfl (or_move (s_1.trans e14_1))
    refine steps_cons (fun own a wx hf hsl hE => ?_) ?_
    · obtain ⟨s_0, -⟩ := hsl
      exact sg_plain rfl rfl (or_move (s_0.trans e14_0))
    refine steps_cons (fun own a wx hf hsl hE => ?_) ?_
    · obtain ⟨(f_7 : a.eval (.tmp 7) = .int .i64 least2), (f_8 : a.eval (.tmp 8) = .int .i64 n1), -⟩ := hf
      exact sg_plain rfl rfl (or_leq f_7 f_8 rfl)
    refine steps_cons (fun own a wx hf hsl hE => ?_) ?_
    · obtain ⟨(f_9 : a.eval (.tmp 9) = .bool (decide (least2 ≤ n1))), -⟩ := hf
      exact sg_plain rfl rfl (or_move f_9)
    refine steps_cons (fun own a wx hf hsl hE => ?_) ?_
    · obtain ⟨(f_10 : a.eval (.tmp 10) = .bool (decide (least2 ≤ n1))), -⟩ := hf
      obtain ⟨s_0, -⟩ := hsl
      refine sg_t rfl rfl rfl f_10 (fun hg => ?_)
      exact or_move (s_0.trans e14_0)
    refine steps_cons (fun own a wx hf hsl hE => ?_) ?_
    · obtain ⟨(f_10 : a.eval (.tmp 10) = .bool (decide (least2 ≤ n1))), -⟩ := hf
      obtain ⟨s_2, -⟩ := hsl
      refine sg_t rfl rfl rfl f_10 (fun hg => ?_)
      exact or_move (s_2.trans e14_2)
    refine steps_cons (fun own a wx hf hsl hE => ?_) ?_
    · obtain ⟨(f_10 : a.eval (.tmp 10) = .bool (decide (least2 ≤ n1))), c_11, c_12, -⟩ := hf
      refine sg_t rfl rfl rfl f_10 (fun hg => ?_)
      have f_11 : a.eval (.tmp 11) = .int .i64 n1 := c_11.1 hg
      have f_12 : a.eval (.tmp 12) = .int .i64 greatest3 := c_12.1 hg
      exact or_leq f_11 f_12 rfl
    refine steps_cons (fun own a wx hf hsl hE => ?_) ?_
    · obtain ⟨(f_10 : a.eval (.tmp 10) = .bool (decide (least2 ≤ n1))), c_13, -⟩ := hf
      exact sg_plain rfl rfl (or_and f_10 (fun hx => c_13.1 hx) rfl (osome hx15).symm)
    refine steps_cons (fun own a wx hf hsl hE => ?_) ?_
    · obtain ⟨(f_14 : a.eval (.tmp 14) = .bool x15), -⟩ := hf
      exact sg_plain rfl rfl (or_assign f_14)
    exact steps_nil
  intro own16 a16 w16 hd16 hz16 hk16 hf16 hE16
  obtain ⟨(f_6 : a16.eval (.tmp 6) = .bool x15), -⟩ := hf16 [8] rfl
  have e16_6 := f_6
  have hX16 := Evo.step hX14 (fun _ => Nat.le_refl 0) hE16 rfl
  refine fl_ret ?_
  obtain rfl := (osome hs).symm
  exact hret _ _ _ _ (.inl rfl) hd16 (results1_ rfl (RVal.tmp_ e16_6)) ⟨own16, rfl, hX16⟩

theorem exact_Right_w (w : World) (l1 : List (Int × Int)) (Al1 : Option Addr) (cl1 : Nat) (hl1 : RdO (fun _ => 0) [0] w R32 Al1 cl1 l1) (r : Bool) (hs : exact_Right l1 = some r) :
    Calls Try.prog 33 #[.slice Al1 l1.length cl1] w fun e w' => ∃ own' : Own, e = .returned (.bool r) ∧ Evo [] (fun _ => 0) own' w w' := by
  refine fl_enter (n := 22) rfl rfl rfl (Nat.le_of_ble_eq_true rfl) ?_
  intro a0 Q hd0 hz0 harg hret
  have ha0 := harg 0 _ rfl
  clear harg
  have hE0 : Evo [] (fun _ => 0) (fun _ => 0) w w := Evo.refl _ _ _
  refine rg_plain_seq (n := 22) (rs := []) (own0 := (fun _ => 0)) (K := [])
      (bs := [0])
      (ds := [⟨[], [], [], Fct.val 2 (.bool false)⟩]) (by kernel_rfl) hz0 hd0 (fun _ h => nomatch h) ?_ ?_
  · refine steps_cons (fun own a wx hf hsl hE => ?_) ?_
    · exact sg_plain rfl rfl (or_assign rfl)
    exact steps_nil
  intro own69 a69 w69 hd69 hz69 hk69 hf69 hE69
  have e69_0 : a69.eval (.tmp 0) = .slice Al1 l1.length cl1 := (hk69 0 rfl).trans ha0
  have hX69 := Evo.step hE0 (fun _ => Nat.le_refl 0) hE69 rfl
  have b69_Al1 := RdO.evo rfl hE69 hl1
  refine fl_seq (fun Q70 hn70 hp70 => ?_)
  refine rg_plain_seq (n := 22) (rs := []) (own0 := own69) (K := [])
      (bs := [0, 1, 0])
      (ds := [⟨[], [0], [], Fct.val 5 (.slice Al1 l1.length cl1)⟩,
      ⟨[0], [], [], Fct.val 6 (.int .i64 (l1.length : Int))⟩,
      ⟨[], [], [], Fct.val 7 (.int .i64 0)⟩]) (by kernel_rfl) hz69 hd69 (fun _ h => nomatch h) ?_ ?_
  · refine steps_cons (fun own a wx hf hsl hE => ?_) ?_
    · obtain ⟨s_0, -⟩ := hsl
      exact sg_plain rfl rfl (or_move (s_0.trans e69_0))
    refine steps_cons (fun own a wx hf hsl hE => ?_) ?_
    · obtain ⟨(f_5 : a.eval (.tmp 5) = .slice Al1 l1.length cl1), -⟩ := hf
      exact sg_plain rfl rfl (or_len tu22 f_5 rfl)
    refine steps_cons (fun own a wx hf hsl hE => ?_) ?_
    · exact sg_plain rfl rfl (or_move rfl)
    exact steps_nil
  intro own71 a71 w71 hd71 hz71 hk71 hf71 hE71
  obtain ⟨(f_5 : a71.eval (.tmp 5) = .slice Al1 l1.length cl1), (f_6 : a71.eval (.tmp 6) = .int .i64 (l1.length : Int)), (f_7 : a71.eval (.tmp 7) = .int .i64 0), -⟩ := hf71 [0, 1, 2] rfl
  have e71_5 := f_5
  have e71_6 := f_6
  have e71_7 := f_7
  have hX71 := Evo.step hX69 (fun _ => Nat.le_refl 0) hE71 rfl
  have b71_Al1 := RdO.evo rfl hE71 b69_Al1
  refine fl_block (fun Q72 hn72 hx72 hp72 => ?_)
  refine fl_loop (body := (fun s => exact_Right_b1 l1 s)) (z := r) (show loopO _ _ = _ from hs) (fun (x90 : Int) a wx => ∃ (ox : Own), a.defers = [] ∧ a.tmps.size = 22 ∧ a.eval (.tmp 5) = .slice Al1 l1.length cl1 ∧ a.eval (.tmp 6) = .int .i64 (l1.length : Int) ∧ a.eval (.tmp 7) = .int .i64 x90 ∧ Evo [] (fun _ => 0) ox w wx ∧ RdO ox [0] wx R32 Al1 cl1 l1) ?_ ?_
  · exact ⟨own71, hd71, hz71, e71_5, e71_6, e71_7, hX71, b71_Al1⟩
  · rintro x90 zz108 a108 w108 ⟨own108, hd109, hz109, e109_5, e109_6, e109_7, hE109, b109_Al1⟩ hs Q108 hn108 hp108 hz108
    have hs : exact_Right_b1 l1 x90 = some zz108 := hs
    refine rg_plain_seq (n := 22) (rs := []) (own0 := own108) (K := [])
        (bs := [0])
        (ds := [⟨[], [7, 6], [], Fct.val 8 (.bool (decide (x90 < (l1.length : Int))))⟩]) (by kernel_rfl) hz109 hd109 (fun _ h => nomatch h) ?_ ?_
    · refine steps_cons (fun own a wx hf hsl hE => ?_) ?_
      · obtain ⟨s_7, s_6, -⟩ := hsl
        exact sg_plain rfl rfl (or_lss (s_7.trans e109_7) (s_6.trans e109_6) rfl)
      exact steps_nil
    intro own110 a110 w110 hd110 hz110 hk110 hf110 hE110
    have e110_5 : a110.eval (.tmp 5) = .slice Al1 l1.length cl1 := (hk110 5 rfl).trans e109_5
    have e110_6 : a110.eval (.tmp 6) = .int .i64 (l1.length : Int) := (hk110 6 rfl).trans e109_6
    have e110_7 : a110.eval (.tmp 7) = .int .i64 x90 := (hk110 7 rfl).trans e109_7
    obtain ⟨(f_8 : a110.eval (.tmp 8) = .bool (decide (x90 < (l1.length : Int)))), -⟩ := hf110 [0] rfl
    have e110_8 := f_8
    have hX110 := Evo.step hE109 (fun _ => Nat.le_refl 0) hE110 rfl
    have b110_Al1 := RdO.evo rfl hE110 b109_Al1
    refine fl_seq (fun Q111 hn111 hp111 => ?_)
    refine fl_cond e110_8 hs (fun c112 hs => ?_) (fun c112 hs => ?_)
    · refine fl_skip ?_
      refine hn111 _ _ ?_
      refine fl_seq (fun Q113 hn113 hp113 => ?_)
      refine fl_block (fun Q114 hn114 hx114 hp114 => ?_)
      obtain ⟨x115, hx115, hs⟩ := obind hs
      refine rg_plain_seq (n := 22) (rs := []) (own0 := own110) (K := [117])
          (bs := [0, 1, 0, 7])
          (ds := [⟨[], [5, 7], [], Fct.val 9 (.pointer (some ((adr Al1).add ((x90 : Int).toNat * R32.s))))⟩,
          ⟨[0], [], [], Fct.val 10 (.agg #[.int .i64 x115.1, .int .i64 x115.2])⟩,
          ⟨[], [], [], Fct.blk 117 4 (fun g => .pointer (some ⟨g, 0, none⟩)) 32 #[.int .i64 0, .int .i64 0]⟩,
          ⟨[2, 1], [], [117], Fct.blk 118 4 (fun g => .pointer (some ⟨g, 0, none⟩)) 32 #[.int .i64 x115.1, .int .i64 x115.2]⟩]) (by kernel_rfl) hz110 hd110 (fun _ h => nomatch h) ?_ ?_
      · refine steps_cons (fun own a wx hf hsl hE => ?_) ?_
        · obtain ⟨s_5, s_7, -⟩ := hsl
          exact sg_plain rfl rfl (or_index (R := R32) (l := l1) tl22 (s_5.trans e110_5) (s_7.trans e110_7) (RdO.some_ b110_Al1 hx115) hx115)
        refine steps_cons (fun own a wx hf hsl hE => ?_) ?_
        · obtain ⟨(f_9 : a.eval (.tmp 9) = .pointer (some ((adr Al1).add ((x90 : Int).toNat * R32.s)))), -⟩ := hf
          exact sg_plain rfl rfl (or_load (l := E32.f x115) ta32 f_9 (RdO.cells (F := E32) (RdO.evo rfl hE b110_Al1) hx115) rfl)
        refine steps_cons (fun own a wx hf hsl hE => ?_) ?_
        · exact sg_plain rfl rfl (or_new [] rfl rfl trivial (by kernel_rfl))
        refine steps_cons (fun own a wx hf hsl hE => ?_) ?_
        · obtain ⟨⟨g116, (f_4 : a.eval (.tmp 4) = .pointer (some ⟨g116, 0, none⟩)), (b_g116 : BlkO own 117 wx g116 32 #[.int .i64 0, .int .i64 0])⟩, (f_10 : a.eval (.tmp 10) = .agg #[.int .i64 x115.1, .int .i64 x115.2]), -⟩ := hf
          exact sg_plain rfl rfl (or_store (l := #[.int .i64 x115.1, .int .i64 x115.2]) (lab := 117) (lab2 := 118) ts32 f_4 f_10 b_g116 (by simp) (by kernel_rfl) (mem_of rfl) (by decide) (by kernel_rfl) (fun own' a' w' ha hb => ⟨_, (ha 4).trans f_4, hb⟩))
        exact steps_nil
      intro own119 a119 w119 hd119 hz119 hk119 hf119 hE119
      have e119_5 : a119.eval (.tmp 5) = .slice Al1 l1.length cl1 := (hk119 5 rfl).trans e110_5
      have e119_6 : a119.eval (.tmp 6) = .int .i64 (l1.length : Int) := (hk119 6 rfl).trans e110_6
      have e119_7 : a119.eval (.tmp 7) = .int .i64 x90 := (hk119 7 rfl).trans e110_7
      obtain ⟨⟨g116, (f_4 : a119.eval (.tmp 4) = .pointer (some ⟨g116, 0, none⟩)), (b_g116 : BlkO own119 118 w119 g116 32 #[.int .i64 x115.1, .int .i64 x115.2])⟩, -⟩ := hf119 [3] rfl
      have e119_4 := f_4
      have hX119 := Evo.step hX110 (fun _ => Nat.le_refl 0) hE119 rfl
      have b119_Al1 := RdO.evo rfl hE119 b110_Al1
      have b119_g116 := b_g116
      obtain ⟨r120, hr120, hs⟩ := obind hs
      obtain ⟨r121, hr121, hs⟩ := obind hs
      refine rg_plain_seq (n := 22) (rs := []) (own0 := own119) (K := [])
          (bs := [0, 1, 3, 7, 15, 31, 63, 127, 255, 511])
          (ds := [⟨[], [4], [], Fct.val 11 (.pointer (some ⟨g116, 0, none⟩))⟩,
          ⟨[0], [], [], Fct.val 12 (.int .i64 x115.1)⟩,
          ⟨[1], [], [], Fct.val 13 (.bool r120)⟩,
          ⟨[2], [], [], Fct.val 14 (.bool (!r120))⟩,
          ⟨[3], [], [], Fct.val 15 (.bool (!r120))⟩,
          ⟨[4], [4], [], Fct.cond (!(!r120)) (some 16) (Fct.val 16 (.pointer (some ⟨g116, 1, none⟩)))⟩,
          ⟨[4, 5], [], [], Fct.cond (!(!r120)) (some 17) (Fct.val 17 (.int .i64 x115.2))⟩,
          ⟨[4, 6], [], [], Fct.cond (!(!r120)) (some 18) (Fct.val 18 (.bool r121))⟩,
          ⟨[4, 7], [], [], Fct.cond (!(!r120)) (some 19) (Fct.val 19 (.bool (!r121)))⟩,
          ⟨[4, 8], [], [], Fct.val 20 (.bool ((!r120) || (!r121)))⟩]) (by kernel_rfl) hz119 hd119 (fun _ h => nomatch h) ?_ ?_
      · refine steps_cons (fun own a wx hf hsl hE => ?_) ?_
        · obtain ⟨s_4, -⟩ := hsl
          exact sg_plain rfl rfl (or_field fo32_0 (s_4.trans e119_4) (by rfl))
        refine steps_cons (fun own a wx hf hsl hE => ?_) ?_
        · obtain ⟨(f_11 : a.eval (.tmp 11) = .pointer (some ⟨g116, 0, none⟩)), -⟩ := hf
          exact sg_plain rfl rfl (or_load1 to3 f_11 (Blk.at_ (BlkO.evo (by decide) hE b119_g116).2 0 rfl))
        refine steps_cons (fun own a wx hf hsl hE => ?_) ?_
        · obtain ⟨(f_12 : a.eval (.tmp 12) = .int .i64 x115.1), -⟩ := hf
          exact sg_plain rfl rfl (or_call cf54 (args3 f_12 rfl rfl) (exact_within_w _ x115.1 (-16777216) 16777216  r120 hr120) post_val)
        refine steps_cons (fun own a wx hf hsl hE => ?_) ?_
        · obtain ⟨(f_13 : a.eval (.tmp 13) = .bool r120), -⟩ := hf
          exact sg_plain rfl rfl (or_not f_13 rfl)
        refine steps_cons (fun own a wx hf hsl hE => ?_) ?_
        · obtain ⟨(f_14 : a.eval (.tmp 14) = .bool (!r120)), -⟩ := hf
          exact sg_plain rfl rfl (or_move f_14)
        refine steps_cons (fun own a wx hf hsl hE => ?_) ?_
        · obtain ⟨(f_15 : a.eval (.tmp 15) = .bool (!r120)), -⟩ := hf
          obtain ⟨s_4, -⟩ := hsl
          refine sg_f rfl rfl rfl f_15 (fun hg => ?_)
          exact or_field fo32_1 (s_4.trans e119_4) (by rfl)
        refine steps_cons (fun own a wx hf hsl hE => ?_) ?_
        · obtain ⟨(f_15 : a.eval (.tmp 15) = .bool (!r120)), c_16, -⟩ := hf
          refine sg_f rfl rfl rfl f_15 (fun hg => ?_)
          have f_16 : a.eval (.tmp 16) = .pointer (some ⟨g116, 1, none⟩) := c_16.1 hg
          exact or_load1 to3 f_16 (Blk.at_ (BlkO.evo (by decide) hE b119_g116).2 1 rfl)
        refine steps_cons (fun own a wx hf hsl hE => ?_) ?_
        · obtain ⟨(f_15 : a.eval (.tmp 15) = .bool (!r120)), c_17, -⟩ := hf
          refine sg_f rfl rfl rfl f_15 (fun hg => ?_)
          have f_17 : a.eval (.tmp 17) = .int .i64 x115.2 := c_17.1 hg
          exact or_call cf54 (args3 f_17 rfl rfl) (exact_within_w _ x115.2 (-16777216) 16777216  r121 (gd_t hr121 hg)) post_val
        refine steps_cons (fun own a wx hf hsl hE => ?_) ?_
        · obtain ⟨(f_15 : a.eval (.tmp 15) = .bool (!r120)), c_18, -⟩ := hf
          refine sg_f rfl rfl rfl f_15 (fun hg => ?_)
          have f_18 : a.eval (.tmp 18) = .bool r121 := c_18.1 hg
          exact or_not f_18 rfl
        refine steps_cons (fun own a wx hf hsl hE => ?_) ?_
        · obtain ⟨(f_15 : a.eval (.tmp 15) = .bool (!r120)), c_19, -⟩ := hf
          exact sg_plain rfl rfl (or_or f_15 rfl (fun hx => c_19.1 hx) rfl)
        exact steps_nil
      intro own122 a122 w122 hd122 hz122 hk122 hf122 hE122
      have e122_5 : a122.eval (.tmp 5) = .slice Al1 l1.length cl1 := (hk122 5 rfl).trans e119_5
      have e122_6 : a122.eval (.tmp 6) = .int .i64 (l1.length : Int) := (hk122 6 rfl).trans e119_6
      have e122_7 : a122.eval (.tmp 7) = .int .i64 x90 := (hk122 7 rfl).trans e119_7
      obtain ⟨(f_20 : a122.eval (.tmp 20) = .bool ((!r120) || (!r121))), -⟩ := hf122 [9] rfl
      have e122_20 := f_20
      have hX122 := Evo.step hX119 (fun _ => Nat.le_refl 0) hE122 rfl
      have b122_Al1 := RdO.evo rfl hE122 b119_Al1
      refine fl_cond e122_20 hs (fun c123 hs => ?_) (fun c123 hs => ?_)
      · refine rg_plain_seq (n := 22) (rs := []) (own0 := own122) (K := [])
            (bs := [0])
            (ds := [⟨[], [], [], Fct.val 2 (.bool false)⟩]) (by kernel_rfl) hz122 hd122 (fun _ h => nomatch h) ?_ ?_
        · refine steps_cons (fun own a wx hf hsl hE => ?_) ?_
          · exact sg_plain rfl rfl (or_assign rfl)
          exact steps_nil
        intro own124 a124 w124 hd124 hz124 hk124 hf124 hE124
        obtain ⟨(f_2 : a124.eval (.tmp 2) = .bool false), -⟩ := hf124 [0] rfl
        have e124_2 := f_2
        have hX124 := Evo.step hX122 (fun _ => Nat.le_refl 0) hE124 rfl
        refine fl_ret ?_
        refine hp114 _ _ _ rfl ?_
        refine hp113 _ _ _ rfl ?_
        replace hs := hz108 _ hs
        refine hp108 _ _ _ rfl ?_
        refine hp72 _ _ _ rfl ?_
        refine hp70 _ _ _ rfl ?_
        obtain rfl := osome hs
        exact hret _ _ _ _ (.inl rfl) hd124 (results1_ rfl (RVal.tmp_ e124_2)) ⟨own124, rfl, hX124⟩
      refine fl_skip ?_
      refine hn114 _ _ ?_
      refine hn113 _ _ ?_
      refine rg_plain (n := 22) (rs := []) (own0 := own122) (K := [])
          (bs := [0, 1])
          (ds := [⟨[], [7], [], Fct.val 21 (.int .i64 (ad x90 1))⟩,
          ⟨[0], [], [], Fct.val 7 (.int .i64 (ad x90 1))⟩]) (by kernel_rfl) hz122 hd122 (fun _ h => nomatch h) ?_ ?_
      · refine steps_cons (fun own a wx hf hsl hE => ?_) ?_
        · obtain ⟨s_7, -⟩ := hsl
          exact sg_plain rfl rfl (or_add (s_7.trans e122_7) rfl rfl)
        refine steps_cons (fun own a wx hf hsl hE => ?_) ?_
        · obtain ⟨(f_21 : a.eval (.tmp 21) = .int .i64 (ad x90 1)), -⟩ := hf
          exact sg_plain rfl rfl (or_move f_21)
        exact steps_nil
      intro own125 a125 w125 hd125 hz125 hk125 hf125 hE125
      have e125_5 : a125.eval (.tmp 5) = .slice Al1 l1.length cl1 := (hk125 5 rfl).trans e122_5
      have e125_6 : a125.eval (.tmp 6) = .int .i64 (l1.length : Int) := (hk125 6 rfl).trans e122_6
      obtain ⟨(f_7 : a125.eval (.tmp 7) = .int .i64 (ad x90 1)), -⟩ := hf125 [1] rfl
      have e125_7 := f_7
      have hX125 := Evo.step hX122 (fun _ => Nat.le_refl 0) hE125 rfl
      have b125_Al1 := RdO.evo rfl hE125 b122_Al1
      exact hn108 _ _ _ hs ⟨own125, hd125, hz125, e125_5, e125_6, e125_7, hX125, b125_Al1⟩
    refine fl_exit ?_
    refine hp111 _ _ _ rfl ?_
    replace hs := hz108 _ hs
    refine hp108 _ _ _ rfl ?_
    refine hx72 _ _ ?_
    refine hn70 _ _ ?_
    refine rg_plain_seq (n := 22) (rs := []) (own0 := own110) (K := [])
        (bs := [0])
        (ds := [⟨[], [], [], Fct.val 2 (.bool true)⟩]) (by kernel_rfl) hz110 hd110 (fun _ h => nomatch h) ?_ ?_
    · refine steps_cons (fun own a wx hf hsl hE => ?_) ?_
      · exact sg_plain rfl rfl (or_assign rfl)
      exact steps_nil
    intro own126 a126 w126 hd126 hz126 hk126 hf126 hE126
    obtain ⟨(f_2 : a126.eval (.tmp 2) = .bool true), -⟩ := hf126 [0] rfl
    have e126_2 := f_2
    have hX126 := Evo.step hX110 (fun _ => Nat.le_refl 0) hE126 rfl
    refine fl_ret ?_
    obtain rfl := osome hs
    exact hret _ _ _ _ (.inl rfl) hd126 (results1_ rfl (RVal.tmp_ e126_2)) ⟨own126, rfl, hX126⟩

theorem ring_edges_w (w : World) (l1 : List (Int × Int)) (Al1 : Option Addr) (cl1 : Nat) (hl1 : RdO (fun _ => 0) [0] w R32 Al1 cl1 l1) (r : Unit) (hs : ring_edges l1 = some r) :
    Calls Try.prog 34 #[.slice Al1 l1.length cl1] w fun e w' => ∃ (own' : Own) (x : Option Addr × Nat), e = .returned (.func (.func 55) #[] #[.pointer (some ⟨x.2, 0, none⟩)]) ∧ Evo [] (fun _ => 0) own' w w' ∧ BlkO own' 1 w' x.2 22 #[.slice Al1 l1.length cl1] := by
  refine fl_enter (n := 4) rfl rfl rfl (Nat.le_of_ble_eq_true rfl) ?_
  intro a0 Q hd0 hz0 harg hret
  have ha0 := harg 0 _ rfl
  clear harg
  have hE0 : Evo [] (fun _ => 0) (fun _ => 0) w w := Evo.refl _ _ _
  refine rg_plain_seq (n := 4) (rs := []) (own0 := (fun _ => 0)) (K := [])
      (bs := [0, 0])
      (ds := [⟨[], [0], [], Fct.blk 16 1 (fun g => .pointer (some ⟨g, 0, none⟩)) 22 #[.slice Al1 l1.length cl1]⟩,
      ⟨[], [], [], Fct.val 2 (.nilFunc)⟩]) (by kernel_rfl) hz0 hd0 (fun _ h => nomatch h) ?_ ?_
  · refine steps_cons (fun own a wx hf hsl hE => ?_) ?_
    · obtain ⟨s_0, -⟩ := hsl
      exact sg_plain rfl rfl (or_new [(0, .slice Al1 l1.length cl1)] rfl rfl ⟨(s_0.trans ha0), trivial⟩ (by kernel_rfl))
    refine steps_cons (fun own a wx hf hsl hE => ?_) ?_
    · exact sg_plain rfl rfl (or_assign rfl)
    exact steps_nil
  intro own17 a17 w17 hd17 hz17 hk17 hf17 hE17
  obtain ⟨⟨g15, (f_1 : a17.eval (.tmp 1) = .pointer (some ⟨g15, 0, none⟩)), (b_g15 : BlkO own17 16 w17 g15 22 #[.slice Al1 l1.length cl1])⟩, -⟩ := hf17 [0] rfl
  have e17_1 := f_1
  have hX17 := Evo.step hE0 (fun _ => Nat.le_refl 0) hE17 rfl
  have b17_Al1 := RdO.evo rfl hE17 hl1
  have b17_g15 := b_g15
  refine rg_plain_seq (n := 4) (rs := []) (own0 := own17) (K := [])
      (bs := [0, 1])
      (ds := [⟨[], [1], [], Fct.val 3 (.func (.func 55) #[] #[.pointer (some ⟨g15, 0, none⟩)])⟩,
      ⟨[0], [], [], Fct.val 2 (.func (.func 55) #[] #[.pointer (some ⟨g15, 0, none⟩)])⟩]) (by kernel_rfl) hz17 hd17 (fun _ h => nomatch h) ?_ ?_
  · refine steps_cons (fun own a wx hf hsl hE => ?_) ?_
    · obtain ⟨s_1, -⟩ := hsl
      exact sg_plain rfl rfl (or_k [(1, .pointer (some ⟨g15, 0, none⟩))] rfl rfl ⟨(s_1.trans e17_1), trivial⟩ (by kernel_rfl))
    refine steps_cons (fun own a wx hf hsl hE => ?_) ?_
    · obtain ⟨(f_3 : a.eval (.tmp 3) = .func (.func 55) #[] #[.pointer (some ⟨g15, 0, none⟩)]), -⟩ := hf
      exact sg_plain rfl rfl (or_assign f_3)
    exact steps_nil
  intro own18 a18 w18 hd18 hz18 hk18 hf18 hE18
  obtain ⟨(f_2 : a18.eval (.tmp 2) = .func (.func 55) #[] #[.pointer (some ⟨g15, 0, none⟩)]), -⟩ := hf18 [1] rfl
  have e18_2 := f_2
  have hX18 := Evo.step hX17 (fun _ => Nat.le_refl 0) hE18 rfl
  have b18_Al1 := RdO.evo rfl hE18 b17_Al1
  have b18_g15 := BlkO.evo (by decide) hE18 b17_g15
  refine fl_ret ?_
  obtain rfl := osome hs
  exact hret _ _ _ _ (.inl rfl) hd18 (results1_ rfl (RVal.tmp_ e18_2)) ⟨(rl [(16, 1)] own18), (none, g15), rfl, (Evo.rl_ hX18 (fun _ => Nat.le_refl 0) rfl), (BlkO.rl_ (mm := [(16, 1)]) b18_g15)⟩

theorem exact_Cross_w (w : World) (x1 : Int × Int) (b2 : Int × Int) (c3 : Int × Int) (r : Int) (hs : exact_Cross x1 b2 c3 = some r) :
    Calls Try.prog 35 #[.agg #[.int .i64 x1.1, .int .i64 x1.2], .agg #[.int .i64 b2.1, .int .i64 b2.2], .agg #[.int .i64 c3.1, .int .i64 c3.2]] w fun e w' => ∃ own' : Own, e = .returned (.int .i64 r) ∧ Evo [] (fun _ => 0) own' w w' := by
  refine fl_enter (n := 36) rfl rfl rfl (Nat.le_of_ble_eq_true rfl) ?_
  intro a0 Q hd0 hz0 harg hret
  have ha0 := harg 0 _ rfl
  have ha1 := harg 1 _ rfl
  have ha2 := harg 2 _ rfl
  clear harg
  have hE0 : Evo [] (fun _ => 0) (fun _ => 0) w w := Evo.refl _ _ _
  refine rg_plain_seq (n := 36) (rs := []) (own0 := (fun _ => 0)) (K := [])
      (bs := [0, 0, 0, 0])
      (ds := [⟨[], [0], [], Fct.blk 28 3 (fun g => .pointer (some ⟨g, 0, none⟩)) 32 #[.int .i64 x1.1, .int .i64 x1.2]⟩,
      ⟨[], [1], [], Fct.blk 30 4 (fun g => .pointer (some ⟨g, 0, none⟩)) 32 #[.int .i64 b2.1, .int .i64 b2.2]⟩,
      ⟨[], [2], [], Fct.blk 32 5 (fun g => .pointer (some ⟨g, 0, none⟩)) 32 #[.int .i64 c3.1, .int .i64 c3.2]⟩,
      ⟨[], [], [], Fct.val 6 (.int .i64 0)⟩]) (by kernel_rfl) hz0 hd0 (fun _ h => nomatch h) ?_ ?_
  · refine steps_cons (fun own a wx hf hsl hE => ?_) ?_
    · obtain ⟨s_0, -⟩ := hsl
      exact sg_plain rfl rfl (or_new [(0, .agg #[.int .i64 x1.1, .int .i64 x1.2])] rfl rfl ⟨(s_0.trans ha0), trivial⟩ (by kernel_rfl))
    refine steps_cons (fun own a wx hf hsl hE => ?_) ?_
    · obtain ⟨s_1, -⟩ := hsl
      exact sg_plain rfl rfl (or_new [(1, .agg #[.int .i64 b2.1, .int .i64 b2.2])] rfl rfl ⟨(s_1.trans ha1), trivial⟩ (by kernel_rfl))
    refine steps_cons (fun own a wx hf hsl hE => ?_) ?_
    · obtain ⟨s_2, -⟩ := hsl
      exact sg_plain rfl rfl (or_new [(2, .agg #[.int .i64 c3.1, .int .i64 c3.2])] rfl rfl ⟨(s_2.trans ha2), trivial⟩ (by kernel_rfl))
    refine steps_cons (fun own a wx hf hsl hE => ?_) ?_
    · exact sg_plain rfl rfl (or_assign rfl)
    exact steps_nil
  intro own33 a33 w33 hd33 hz33 hk33 hf33 hE33
  obtain ⟨⟨g27, (f_3 : a33.eval (.tmp 3) = .pointer (some ⟨g27, 0, none⟩)), (b_g27 : BlkO own33 28 w33 g27 32 #[.int .i64 x1.1, .int .i64 x1.2])⟩, ⟨g29, (f_4 : a33.eval (.tmp 4) = .pointer (some ⟨g29, 0, none⟩)), (b_g29 : BlkO own33 30 w33 g29 32 #[.int .i64 b2.1, .int .i64 b2.2])⟩, ⟨g31, (f_5 : a33.eval (.tmp 5) = .pointer (some ⟨g31, 0, none⟩)), (b_g31 : BlkO own33 32 w33 g31 32 #[.int .i64 c3.1, .int .i64 c3.2])⟩, -⟩ := hf33 [0, 1, 2] rfl
  have e33_3 := f_3
  have e33_4 := f_4
  have e33_5 := f_5
  have hX33 := Evo.step hE0 (fun _ => Nat.le_refl 0) hE33 rfl
  have b33_g27 := b_g27
  have b33_g29 := b_g29
  have b33_g31 := b_g31
  refine fl_seq (fun Q34 hn34 hp34 => ?_)
  obtain ⟨r37, hr37, hs⟩ := obind hs
  refine rg_plain_seq (n := 36) (rs := []) (own0 := own33) (K := [])
      (bs := [0, 0, 0, 7, 15, 31])
      (ds := [⟨[], [3], [], Fct.val 7 (.agg #[.int .i64 x1.1, .int .i64 x1.2])⟩,
      ⟨[], [4], [], Fct.val 8 (.agg #[.int .i64 b2.1, .int .i64 b2.2])⟩,
      ⟨[], [5], [], Fct.val 9 (.agg #[.int .i64 c3.1, .int .i64 c3.2])⟩,
      ⟨[0, 1, 2], [], [], Fct.row 36 [] 10 32 R32 [x1, b2, c3]⟩,
      ⟨[3], [], [], Fct.val 11 (.bool r37)⟩,
      ⟨[4], [], [], Fct.val 12 (.bool (!r37))⟩]) (by kernel_rfl) hz33 hd33 (fun _ h => nomatch h) ?_ ?_
  · refine steps_cons (fun own a wx hf hsl hE => ?_) ?_
    · obtain ⟨s_3, -⟩ := hsl
      exact sg_plain rfl rfl (or_load (l := [.int .i64 x1.1, .int .i64 x1.2]) ta32 (s_3.trans e33_3) (Blk.cellsFrom (BlkO.evo (by decide) hE b33_g27).2 0 rfl) rfl)
    refine steps_cons (fun own a wx hf hsl hE => ?_) ?_
    · obtain ⟨s_4, -⟩ := hsl
      exact sg_plain rfl rfl (or_load (l := [.int .i64 b2.1, .int .i64 b2.2]) ta32 (s_4.trans e33_4) (Blk.cellsFrom (BlkO.evo (by decide) hE b33_g29).2 0 rfl) rfl)
    refine steps_cons (fun own a wx hf hsl hE => ?_) ?_
    · obtain ⟨s_5, -⟩ := hsl
      exact sg_plain rfl rfl (or_load (l := [.int .i64 c3.1, .int .i64 c3.2]) ta32 (s_5.trans e33_5) (Blk.cellsFrom (BlkO.evo (by decide) hE b33_g31).2 0 rfl) rfl)
    refine steps_cons (fun own a wx hf hsl hE => ?_) ?_
    · obtain ⟨(f_7 : a.eval (.tmp 7) = .agg #[.int .i64 x1.1, .int .i64 x1.2]), (f_8 : a.eval (.tmp 8) = .agg #[.int .i64 b2.1, .int .i64 b2.2]), (f_9 : a.eval (.tmp 9) = .agg #[.int .i64 c3.1, .int .i64 c3.2]), -⟩ := hf
      exact sg_plain rfl rfl (or_lit (lab := 36) (e := 32) (cs := #[.int .i64 x1.1, .int .i64 x1.2, .int .i64 b2.1, .int .i64 b2.2, .int .i64 c3.1, .int .i64 c3.2]) (F := E32) (or_new [(7, .agg #[.int .i64 x1.1, .int .i64 x1.2]), (8, .agg #[.int .i64 b2.1, .int .i64 b2.2]), (9, .agg #[.int .i64 c3.1, .int .i64 c3.2])] rfl rfl ⟨f_7, f_8, f_9, trivial⟩ (by kernel_rfl)) rfl rfl (show 3 ≤ maxLen by decide))
    refine steps_cons (fun own a wx hf hsl hE => ?_) ?_
    · obtain ⟨⟨⟨A35, cA35⟩, (f_10 : a.eval (.tmp 10) = .slice A35 [x1, b2, c3].length cA35), (b_A35 : RwO own 36 [] wx 32 R32 A35 cA35 [x1, b2, c3])⟩, -⟩ := hf
      exact sg_plain rfl rfl (or_call cf33 (args1 f_10) (exact_Right_w _ [x1, b2, c3] A35 cA35 (RdO.zero (RwO.rd b_A35)) r37 hr37) post_val)
    refine steps_cons (fun own a wx hf hsl hE => ?_) ?_
    · obtain ⟨(f_11 : a.eval (.tmp 11) = .bool r37), -⟩ := hf
      exact sg_plain rfl rfl (or_not f_11 rfl)
    exact steps_nil
  intro own38 a38 w38 hd38 hz38 hk38 hf38 hE38
  have e38_3 : a38.eval (.tmp 3) = .pointer (some ⟨g27, 0, none⟩) := (hk38 3 rfl).trans e33_3
  have e38_4 : a38.eval (.tmp 4) = .pointer (some ⟨g29, 0, none⟩) := (hk38 4 rfl).trans e33_4
  have e38_5 : a38.eval (.tmp 5) = .pointer (some ⟨g31, 0, none⟩) := (hk38 5 rfl).trans e33_5
  obtain ⟨(f_12 : a38.eval (.tmp 12) = .bool (!r37)), -⟩ := hf38 [5] rfl
  have e38_12 := f_12
  have hX38 := Evo.step hX33 (fun _ => Nat.le_refl 0) hE38 rfl
  have b38_g27 := BlkO.evo (by decide) hE38 b33_g27
  have b38_g29 := BlkO.evo (by decide) hE38 b33_g29
  have b38_g31 := BlkO.evo (by decide) hE38 b33_g31
  refine fl_cond e38_12 hs (fun c39 hs => ?_) (fun c39 hs => ?_)
  · refine rg_plain_seq (n := 36) (rs := []) (own0 := own38) (K := [])
        (bs := [0])
        (ds := [⟨[], [], [], Fct.val 6 (.int .i64 0)⟩]) (by kernel_rfl) hz38 hd38 (fun _ h => nomatch h) ?_ ?_
    · refine steps_cons (fun own a wx hf hsl hE => ?_) ?_
      · exact sg_plain rfl rfl (or_assign rfl)
      exact steps_nil
    intro own40 a40 w40 hd40 hz40 hk40 hf40 hE40
    obtain ⟨(f_6 : a40.eval (.tmp 6) = .int .i64 0), -⟩ := hf40 [0] rfl
    have e40_6 := f_6
    have hX40 := Evo.step hX38 (fun _ => Nat.le_refl 0) hE40 rfl
    refine fl_ret ?_
    refine hp34 _ _ _ rfl ?_
    obtain rfl := osome hs
    exact hret _ _ _ _ (.inl rfl) hd40 (results1_ rfl (RVal.tmp_ e40_6)) ⟨own40, rfl, hX40⟩
  refine fl_skip ?_
  refine hn34 _ _ ?_
  obtain ⟨x41, hx41, hs⟩ := obind hs
  refine rg_plain_seq (n := 36) (rs := []) (own0 := own38) (K := [])
      (bs := [0, 1, 0, 4, 15, 0, 32, 0, 128, 480, 1023, 0, 2048, 0, 8192, 30720, 0, 65536, 0, 262144, 983040, 2095104, 4194303, 8388607])
      (ds := [⟨[], [4], [], Fct.val 13 (.pointer (some ⟨g29, 0, none⟩))⟩,
      ⟨[0], [], [], Fct.val 14 (.int .i64 b2.1)⟩,
      ⟨[], [3], [], Fct.val 15 (.pointer (some ⟨g27, 0, none⟩))⟩,
      ⟨[2], [], [], Fct.val 16 (.int .i64 x1.1)⟩,
      ⟨[1, 3], [], [], Fct.val 17 (.int .i64 (sb b2.1 x1.1))⟩,
      ⟨[], [5], [], Fct.val 18 (.pointer (some ⟨g31, 1, none⟩))⟩,
      ⟨[5], [], [], Fct.val 19 (.int .i64 c3.2)⟩,
      ⟨[], [3], [], Fct.val 20 (.pointer (some ⟨g27, 1, none⟩))⟩,
      ⟨[7], [], [], Fct.val 21 (.int .i64 x1.2)⟩,
      ⟨[6, 8], [], [], Fct.val 22 (.int .i64 (sb c3.2 x1.2))⟩,
      ⟨[4, 9], [], [], Fct.val 23 (.int .i64 (ml (sb b2.1 x1.1) (sb c3.2 x1.2)))⟩,
      ⟨[], [4], [], Fct.val 24 (.pointer (some ⟨g29, 1, none⟩))⟩,
      ⟨[11], [], [], Fct.val 25 (.int .i64 b2.2)⟩,
      ⟨[], [3], [], Fct.val 26 (.pointer (some ⟨g27, 1, none⟩))⟩,
      ⟨[13], [], [], Fct.val 27 (.int .i64 x1.2)⟩,
      ⟨[12, 14], [], [], Fct.val 28 (.int .i64 (sb b2.2 x1.2))⟩,
      ⟨[], [5], [], Fct.val 29 (.pointer (some ⟨g31, 0, none⟩))⟩,
      ⟨[16], [], [], Fct.val 30 (.int .i64 c3.1)⟩,
      ⟨[], [3], [], Fct.val 31 (.pointer (some ⟨g27, 0, none⟩))⟩,
      ⟨[18], [], [], Fct.val 32 (.int .i64 x1.1)⟩,
      ⟨[17, 19], [], [], Fct.val 33 (.int .i64 (sb c3.1 x1.1))⟩,
      ⟨[15, 20], [], [], Fct.val 34 (.int .i64 (ml (sb b2.2 x1.2) (sb c3.1 x1.1)))⟩,
      ⟨[10, 21], [], [], Fct.val 35 (.int .i64 x41)⟩,
      ⟨[22], [], [], Fct.val 6 (.int .i64 x41)⟩]) (by kernel_rfl) hz38 hd38 (fun _ h => nomatch h) ?_ ?_
  · refine steps_cons (fun own a wx hf hsl hE => ?_) ?_
    · obtain ⟨s_4, -⟩ := hsl
      exact sg_plain rfl rfl (or_field fo32_0 (s_4.trans e38_4) (by rfl))
    refine steps_cons (fun own a wx hf hsl hE => ?_) ?_
    · obtain ⟨(f_13 : a.eval (.tmp 13) = .pointer (some ⟨g29, 0, none⟩)), -⟩ := hf
      exact sg_plain rfl rfl (or_load1 to3 f_13 (Blk.at_ (BlkO.evo (by decide) hE b38_g29).2 0 rfl))
    refine steps_cons (fun own a wx hf hsl hE => ?_) ?_
    · obtain ⟨s_3, -⟩ := hsl
      exact sg_plain rfl rfl (or_field fo32_0 (s_3.trans e38_3) (by rfl))
    refine steps_cons (fun own a wx hf hsl hE => ?_) ?_
    · obtain ⟨(f_15 : a.eval (.tmp 15) = .pointer (some ⟨g27, 0, none⟩)), -⟩ := hf
      exact sg_plain rfl rfl (or_load1 to3 f_15 (Blk.at_ (BlkO.evo (by decide) hE b38_g27).2 0 rfl))
    refine steps_cons (fun own a wx hf hsl hE => ?_) ?_
    · obtain ⟨(f_14 : a.eval (.tmp 14) = .int .i64 b2.1), (f_16 : a.eval (.tmp 16) = .int .i64 x1.1), -⟩ := hf
      exact sg_plain rfl rfl (or_sub f_14 f_16 rfl)
    refine steps_cons (fun own a wx hf hsl hE => ?_) ?_
    · obtain ⟨s_5, -⟩ := hsl
      exact sg_plain rfl rfl (or_field fo32_1 (s_5.trans e38_5) (by rfl))
    refine steps_cons (fun own a wx hf hsl hE => ?_) ?_
    · obtain ⟨(f_18 : a.eval (.tmp 18) = .pointer (some ⟨g31, 1, none⟩)), -⟩ := hf
      exact sg_plain rfl rfl (or_load1 to3 f_18 (Blk.at_ (BlkO.evo (by decide) hE b38_g31).2 1 rfl))
    refine steps_cons (fun own a wx hf hsl hE => ?_) ?_
    · obtain ⟨s_3, -⟩ := hsl
      exact sg_plain rfl rfl (or_field fo32_1 (s_3.trans e38_3) (by rfl))
    refine steps_cons (fun own a wx hf hsl hE => ?_) ?_
    · obtain ⟨(f_20 : a.eval (.tmp 20) = .pointer (some ⟨g27, 1, none⟩)), -⟩ := hf
      exact sg_plain rfl rfl (or_load1 to3 f_20 (Blk.at_ (BlkO.evo (by decide) hE b38_g27).2 1 rfl))
    refine steps_cons (fun own a wx hf hsl hE => ?_) ?_
    · obtain ⟨(f_19 : a.eval (.tmp 19) = .int .i64 c3.2), (f_21 : a.eval (.tmp 21) = .int .i64 x1.2), -⟩ := hf
      exact sg_plain rfl rfl (or_sub f_19 f_21 rfl)
    refine steps_cons (fun own a wx hf hsl hE => ?_) ?_
    · obtain ⟨(f_17 : a.eval (.tmp 17) = .int .i64 (sb b2.1 x1.1)), (f_22 : a.eval (.tmp 22) = .int .i64 (sb c3.2 x1.2)), -⟩ := hf
      exact sg_plain rfl rfl (or_mul f_17 f_22 rfl)
    refine steps_cons (fun own a wx hf hsl hE => ?_) ?_
    · obtain ⟨s_4, -⟩ := hsl
      exact sg_plain rfl rfl (or_field fo32_1 (s_4.trans e38_4) (by rfl))
    refine steps_cons (fun own a wx hf hsl hE => ?_) ?_
    · obtain ⟨(f_24 : a.eval (.tmp 24) = .pointer (some ⟨g29, 1, none⟩)), -⟩ := hf
      exact sg_plain rfl rfl (or_load1 to3 f_24 (Blk.at_ (BlkO.evo (by decide) hE b38_g29).2 1 rfl))
    refine steps_cons (fun own a wx hf hsl hE => ?_) ?_
    · obtain ⟨s_3, -⟩ := hsl
      exact sg_plain rfl rfl (or_field fo32_1 (s_3.trans e38_3) (by rfl))
    refine steps_cons (fun own a wx hf hsl hE => ?_) ?_
    · obtain ⟨(f_26 : a.eval (.tmp 26) = .pointer (some ⟨g27, 1, none⟩)), -⟩ := hf
      exact sg_plain rfl rfl (or_load1 to3 f_26 (Blk.at_ (BlkO.evo (by decide) hE b38_g27).2 1 rfl))
    refine steps_cons (fun own a wx hf hsl hE => ?_) ?_
    · obtain ⟨(f_25 : a.eval (.tmp 25) = .int .i64 b2.2), (f_27 : a.eval (.tmp 27) = .int .i64 x1.2), -⟩ := hf
      exact sg_plain rfl rfl (or_sub f_25 f_27 rfl)
    refine steps_cons (fun own a wx hf hsl hE => ?_) ?_
    · obtain ⟨s_5, -⟩ := hsl
      exact sg_plain rfl rfl (or_field fo32_0 (s_5.trans e38_5) (by rfl))
    refine steps_cons (fun own a wx hf hsl hE => ?_) ?_
    · obtain ⟨(f_29 : a.eval (.tmp 29) = .pointer (some ⟨g31, 0, none⟩)), -⟩ := hf
      exact sg_plain rfl rfl (or_load1 to3 f_29 (Blk.at_ (BlkO.evo (by decide) hE b38_g31).2 0 rfl))
    refine steps_cons (fun own a wx hf hsl hE => ?_) ?_
    · obtain ⟨s_3, -⟩ := hsl
      exact sg_plain rfl rfl (or_field fo32_0 (s_3.trans e38_3) (by rfl))
    refine steps_cons (fun own a wx hf hsl hE => ?_) ?_
    · obtain ⟨(f_31 : a.eval (.tmp 31) = .pointer (some ⟨g27, 0, none⟩)), -⟩ := hf
      exact sg_plain rfl rfl (or_load1 to3 f_31 (Blk.at_ (BlkO.evo (by decide) hE b38_g27).2 0 rfl))
    refine steps_cons (fun own a wx hf hsl hE => ?_) ?_
    · obtain ⟨(f_30 : a.eval (.tmp 30) = .int .i64 c3.1), (f_32 : a.eval (.tmp 32) = .int .i64 x1.1), -⟩ := hf
      exact sg_plain rfl rfl (or_sub f_30 f_32 rfl)
    refine steps_cons (fun own a wx hf hsl hE => ?_) ?_
    · obtain ⟨(f_28 : a.eval (.tmp 28) = .int .i64 (sb b2.2 x1.2)), (f_33 : a.eval (.tmp 33) = .int .i64 (sb c3.1 x1.1)), -⟩ := hf
      exact sg_plain rfl rfl (or_mul f_28 f_33 rfl)
    refine steps_cons (fun own a wx hf hsl hE => ?_) ?_
    · obtain ⟨(f_23 : a.eval (.tmp 23) = .int .i64 (ml (sb b2.1 x1.1) (sb c3.2 x1.2))), (f_34 : a.eval (.tmp 34) = .int .i64 (ml (sb b2.2 x1.2) (sb c3.1 x1.1))), -⟩ := hf
      exact sg_plain rfl rfl (or_sub f_23 f_34 (osome hx41).symm)
    refine steps_cons (fun own a wx hf hsl hE => ?_) ?_
    · obtain ⟨(f_35 : a.eval (.tmp 35) = .int .i64 x41), -⟩ := hf
      exact sg_plain rfl rfl (or_assign f_35)
    exact steps_nil
  intro own42 a42 w42 hd42 hz42 hk42 hf42 hE42
  obtain ⟨(f_6 : a42.eval (.tmp 6) = .int .i64 x41), -⟩ := hf42 [23] rfl
  have e42_6 := f_6
  have hX42 := Evo.step hX38 (fun _ => Nat.le_refl 0) hE42 rfl
  refine fl_ret ?_
  obtain rfl := (osome hs).symm
  exact hret _ _ _ _ (.inl rfl) hd42 (results1_ rfl (RVal.tmp_ e42_6)) ⟨own42, rfl, hX42⟩

theorem ring_edges_1_w (w : World) (own : Own) (Sx : Type) (yy : Sx → ((Int × Int) × (Int × Int)) → Option (Bool × Sx)) (Jx : Sq Sx) (lx : Nat) (sx0 : Sx) (f1 : List (Int × Int)) (gf1 : Nat) (tf1 : TypeId) (Af1_0 : Option Addr) (cf1_0 : Nat) (hown : ∀ b, own b ≤ 1) (hYx : Rounds Try.prog lx (fun (x : (Int × Int) × (Int × Int)) => #[.agg #[.int .i64 x.1.1, .int .i64 x.1.2], .agg #[.int .i64 x.2.1, .int .i64 x.2.2]]) yy Jx) (hJx : SqO Jx own 1 w sx0) (hgf1 : BlkO own 0 w gf1 tf1 #[.slice Af1_0 f1.length cf1_0]) (hAf1_0 : RdO own [0] w R32 Af1_0 cf1_0 f1) (r : Sx) (hs : ring_edges_1 Sx yy sx0 f1 = some r) :
    Calls Try.prog 55 #[.func (.yield lx) #[] #[], .pointer (some ⟨gf1, 0, none⟩)] w fun e w' => ∃ (own' : Own), e = .returned (.tuple #[]) ∧ Evo [1] own own' w w' ∧ SqO Jx own' 1 w' r := by
  refine fl_enter (n := 25) rfl rfl rfl (Nat.le_of_ble_eq_true rfl) ?_
  intro a0 Q hd0 hz0 harg hret
  have ha0 := harg 0 _ rfl
  have ha1 := harg 1 _ rfl
  clear harg
  have hE0 : Evo [1] own own w w := Evo.refl _ _ _
  refine rg_plain_seq (n := 25) (rs := []) (own0 := own) (K := [])
      (bs := [0, 1, 0])
      (ds := [⟨[], [1], [], Fct.val 5 (.slice Af1_0 f1.length cf1_0)⟩,
      ⟨[0], [], [], Fct.val 6 (.int .i64 (f1.length : Int))⟩,
      ⟨[], [], [], Fct.val 7 (.int .i64 0)⟩]) (by kernel_rfl) hz0 hd0 (fun _ h => nomatch h) ?_ ?_
  · refine steps_cons (fun own a wx hf hsl hE => ?_) ?_
    · obtain ⟨s_1, -⟩ := hsl
      exact sg_plain rfl rfl (or_load1 to22 (s_1.trans ha1) (Blk.at_ (BlkO.evo (by decide) hE hgf1).2 0 rfl))
    refine steps_cons (fun own a wx hf hsl hE => ?_) ?_
    · obtain ⟨(f_5 : a.eval (.tmp 5) = .slice Af1_0 f1.length cf1_0), -⟩ := hf
      exact sg_plain rfl rfl (or_len tu22 f_5 rfl)
    refine steps_cons (fun own a wx hf hsl hE => ?_) ?_
    · exact sg_plain rfl rfl (or_move rfl)
    exact steps_nil
  intro own78 a78 w78 hd78 hz78 hk78 hf78 hE78
  have e78_0 : a78.eval (.tmp 0) = .func (.yield lx) #[] #[] := (hk78 0 rfl).trans ha0
  have e78_1 : a78.eval (.tmp 1) = .pointer (some ⟨gf1, 0, none⟩) := (hk78 1 rfl).trans ha1
  obtain ⟨(f_5 : a78.eval (.tmp 5) = .slice Af1_0 f1.length cf1_0), (f_6 : a78.eval (.tmp 6) = .int .i64 (f1.length : Int)), (f_7 : a78.eval (.tmp 7) = .int .i64 0), -⟩ := hf78 [0, 1, 2] rfl
  have e78_5 := f_5
  have e78_6 := f_6
  have e78_7 := f_7
  have hX78 := Evo.step hE0 hown hE78 rfl
  have b78_Jx := SqO.evo (by decide) hE78 hJx
  have b78_Af1_0 := RdO.evo rfl hE78 hAf1_0
  have b78_gf1 := BlkO.evo (by decide) hE78 hgf1
  refine fl_block (fun Q79 hn79 hx79 hp79 => ?_)
  refine fl_loop (body := (fun s => ring_edges_1_b1 Sx yy f1 s.1 s.2)) (z := r) (show loopO _ _ = _ from hs) (fun (s : Int × Sx) a wx => match s with | (x100, sx101) => ∃ (ox : Own), a.defers = [] ∧ a.tmps.size = 25 ∧ a.eval (.tmp 0) = .func (.yield lx) #[] #[] ∧ a.eval (.tmp 1) = .pointer (some ⟨gf1, 0, none⟩) ∧ a.eval (.tmp 5) = .slice Af1_0 f1.length cf1_0 ∧ a.eval (.tmp 6) = .int .i64 (f1.length : Int) ∧ a.eval (.tmp 7) = .int .i64 x100 ∧ Evo [1] own ox w wx ∧ BlkO ox 0 wx gf1 tf1 #[.slice Af1_0 f1.length cf1_0] ∧ RdO ox [0] wx R32 Af1_0 cf1_0 f1 ∧ SqO Jx ox 102 wx sx101) ?_ ?_
  · exact ⟨(rl [(1, 102)] own78), hd78, hz78, e78_0, e78_1, e78_5, e78_6, e78_7, (Evo.rl_ hX78 hown rfl), (BlkO.rl_ (mm := [(1, 102)]) b78_gf1), (RdO.rl_ (mm := [(1, 102)]) b78_Af1_0), (SqO.rl_ (mm := [(1, 102)]) b78_Jx rfl (by decide))⟩
  · rintro ⟨x100, sx101⟩ zz123 a123 w123 ⟨own123, hd124, hz124, e124_0, e124_1, e124_5, e124_6, e124_7, hE124, b124_gf1, b124_Af1_0, b124_Jx⟩ hs Q123 hn123 hp123 hz123
    have hs : ring_edges_1_b1 Sx yy f1 x100 sx101 = some zz123 := hs
    refine rg_plain_seq (n := 25) (rs := []) (own0 := own123) (K := [])
        (bs := [0])
        (ds := [⟨[], [7, 6], [], Fct.val 8 (.bool (decide (x100 < (f1.length : Int))))⟩]) (by kernel_rfl) hz124 hd124 (fun _ h => nomatch h) ?_ ?_
    · refine steps_cons (fun own a wx hf hsl hE => ?_) ?_
      · obtain ⟨s_7, s_6, -⟩ := hsl
        exact sg_plain rfl rfl (or_lss (s_7.trans e124_7) (s_6.trans e124_6) rfl)
      exact steps_nil
    intro own125 a125 w125 hd125 hz125 hk125 hf125 hE125
    have e125_0 : a125.eval (.tmp 0) = .func (.yield lx) #[] #[] := (hk125 0 rfl).trans e124_0
    have e125_1 : a125.eval (.tmp 1) = .pointer (some ⟨gf1, 0, none⟩) := (hk125 1 rfl).trans e124_1
    have e125_5 : a125.eval (.tmp 5) = .slice Af1_0 f1.length cf1_0 := (hk125 5 rfl).trans e124_5
    have e125_6 : a125.eval (.tmp 6) = .int .i64 (f1.length : Int) := (hk125 6 rfl).trans e124_6
    have e125_7 : a125.eval (.tmp 7) = .int .i64 x100 := (hk125 7 rfl).trans e124_7
    obtain ⟨(f_8 : a125.eval (.tmp 8) = .bool (decide (x100 < (f1.length : Int)))), -⟩ := hf125 [0] rfl
    have e125_8 := f_8
    have hX125 := Evo.step hE124 hown hE125 rfl
    have b125_gf1 := BlkO.evo (by decide) hE125 b124_gf1
    have b125_Af1_0 := RdO.evo rfl hE125 b124_Af1_0
    have b125_Jx := SqO.evo (by decide) hE125 b124_Jx
    refine fl_seq (fun Q126 hn126 hp126 => ?_)
    refine fl_cond e125_8 hs (fun c127 hs => ?_) (fun c127 hs => ?_)
    · refine fl_skip ?_
      refine hn126 _ _ ?_
      refine fl_seq (fun Q128 hn128 hp128 => ?_)
      refine fl_block (fun Q129 hn129 hx129 hp129 => ?_)
      obtain ⟨x130, hx130, hs⟩ := obind hs
      refine rg_plain_seq (n := 25) (rs := []) (own0 := own125) (K := [132])
          (bs := [0, 0, 2, 0, 15, 31])
          (ds := [⟨[], [7], [], Fct.val 9 (.int .i64 x100)⟩,
          ⟨[], [5, 7], [], Fct.val 10 (.pointer (some ((adr Af1_0).add ((x100 : Int).toNat * R32.s))))⟩,
          ⟨[1], [], [], Fct.val 11 (.agg #[.int .i64 x130.1, .int .i64 x130.2])⟩,
          ⟨[], [], [], Fct.blk 132 4 (fun g => .pointer (some ⟨g, 0, none⟩)) 32 #[.int .i64 0, .int .i64 0]⟩,
          ⟨[0], [], [], Fct.val 3 (.int .i64 x100)⟩,
          ⟨[3, 2], [], [132], Fct.blk 133 4 (fun g => .pointer (some ⟨g, 0, none⟩)) 32 #[.int .i64 x130.1, .int .i64 x130.2]⟩]) (by kernel_rfl) hz125 hd125 (fun _ h => nomatch h) ?_ ?_
      · refine steps_cons (fun own a wx hf hsl hE => ?_) ?_
        · obtain ⟨s_7, -⟩ := hsl
          exact sg_plain rfl rfl (or_move (s_7.trans e125_7))
        refine steps_cons (fun own a wx hf hsl hE => ?_) ?_
        · obtain ⟨s_5, s_7, -⟩ := hsl
          exact sg_plain rfl rfl (or_index (R := R32) (l := f1) tl22 (s_5.trans e125_5) (s_7.trans e125_7) (RdO.some_ b125_Af1_0 hx130) hx130)
        refine steps_cons (fun own a wx hf hsl hE => ?_) ?_
        · obtain ⟨(f_10 : a.eval (.tmp 10) = .pointer (some ((adr Af1_0).add ((x100 : Int).toNat * R32.s)))), -⟩ := hf
          exact sg_plain rfl rfl (or_load (l := E32.f x130) ta32 f_10 (RdO.cells (F := E32) (RdO.evo rfl hE b125_Af1_0) hx130) rfl)
        refine steps_cons (fun own a wx hf hsl hE => ?_) ?_
        · exact sg_plain rfl rfl (or_new [] rfl rfl trivial (by kernel_rfl))
        refine steps_cons (fun own a wx hf hsl hE => ?_) ?_
        · obtain ⟨(f_9 : a.eval (.tmp 9) = .int .i64 x100), -⟩ := hf
          exact sg_plain rfl rfl (or_assign f_9)
        refine steps_cons (fun own a wx hf hsl hE => ?_) ?_
        · obtain ⟨⟨g131, (f_4 : a.eval (.tmp 4) = .pointer (some ⟨g131, 0, none⟩)), (b_g131 : BlkO own 132 wx g131 32 #[.int .i64 0, .int .i64 0])⟩, (f_11 : a.eval (.tmp 11) = .agg #[.int .i64 x130.1, .int .i64 x130.2]), -⟩ := hf
          exact sg_plain rfl rfl (or_store (l := #[.int .i64 x130.1, .int .i64 x130.2]) (lab := 132) (lab2 := 133) ts32 f_4 f_11 b_g131 (by simp) (by kernel_rfl) (mem_of rfl) (by decide) (by kernel_rfl) (fun own' a' w' ha hb => ⟨_, (ha 4).trans f_4, hb⟩))
        exact steps_nil
      intro own134 a134 w134 hd134 hz134 hk134 hf134 hE134
      have e134_0 : a134.eval (.tmp 0) = .func (.yield lx) #[] #[] := (hk134 0 rfl).trans e125_0
      have e134_1 : a134.eval (.tmp 1) = .pointer (some ⟨gf1, 0, none⟩) := (hk134 1 rfl).trans e125_1
      have e134_5 : a134.eval (.tmp 5) = .slice Af1_0 f1.length cf1_0 := (hk134 5 rfl).trans e125_5
      have e134_6 : a134.eval (.tmp 6) = .int .i64 (f1.length : Int) := (hk134 6 rfl).trans e125_6
      have e134_7 : a134.eval (.tmp 7) = .int .i64 x100 := (hk134 7 rfl).trans e125_7
      obtain ⟨⟨g131, (f_4 : a134.eval (.tmp 4) = .pointer (some ⟨g131, 0, none⟩)), (b_g131 : BlkO own134 133 w134 g131 32 #[.int .i64 x130.1, .int .i64 x130.2])⟩, (f_3 : a134.eval (.tmp 3) = .int .i64 x100), -⟩ := hf134 [5, 4] rfl
      have e134_4 := f_4
      have e134_3 := f_3
      have hX134 := Evo.step hX125 hown hE134 rfl
      have b134_gf1 := BlkO.evo (by decide) hE134 b125_gf1
      have b134_Af1_0 := RdO.evo rfl hE134 b125_Af1_0
      have b134_Jx := SqO.evo (by decide) hE134 b125_Jx
      have b134_g131 := b_g131
      obtain ⟨x137, hx137, hs⟩ := obind hs
      obtain ⟨x138, hx138, hs⟩ := obind hs
      obtain ⟨z139, hz139, hs⟩ := obind hs
      refine rg_draw_seq g_mixed (n := 25) (rs := [Fct.seqAt Jx 102 sx101]) (own0 := own134) (K := [102])
          (bs := [0, 0, 0, 0, 8, 0, 32, 120, 252, 508, 1023, 2047])
          (ds := [⟨[], [0], [], Fct.val 12 (.func (.yield lx) #[] #[])⟩,
          ⟨[], [4], [], Fct.val 13 (.agg #[.int .i64 x130.1, .int .i64 x130.2])⟩,
          ⟨[], [1], [], Fct.val 14 (.slice Af1_0 f1.length cf1_0)⟩,
          ⟨[], [3], [], Fct.val 15 (.int .i64 x100)⟩,
          ⟨[3], [], [], Fct.val 16 (.int .i64 (ad x100 1))⟩,
          ⟨[], [1], [], Fct.val 17 (.slice Af1_0 f1.length cf1_0)⟩,
          ⟨[5], [], [], Fct.val 18 (.int .i64 (f1.length : Int))⟩,
          ⟨[4, 6], [], [], Fct.val 19 (.int .i64 x137)⟩,
          ⟨[2, 7], [], [], Fct.val 20 (.pointer (some ((adr Af1_0).add ((x137 : Int).toNat * R32.s))))⟩,
          ⟨[8], [], [], Fct.val 21 (.agg #[.int .i64 x138.1, .int .i64 x138.2])⟩,
          ⟨[0, 1, 9, 12], [], [102], Fct.seq Jx 140 22 z139.1 z139.2⟩,
          ⟨[10], [], [], Fct.val 23 (.bool (!z139.1))⟩]) (by kernel_rfl) hz134 hd134 (by simp only [List.forall_mem_cons]; exact ⟨b134_Jx, fun _ h => nomatch h⟩) ?_ ?_
      · refine steps_cons (fun own a wx hf hsl hE => ?_) ?_
        · obtain ⟨s_0, -⟩ := hsl
          exact sg_plain rfl rfl (or_move (s_0.trans e134_0))
        refine steps_cons (fun own a wx hf hsl hE => ?_) ?_
        · obtain ⟨s_4, -⟩ := hsl
          exact sg_plain rfl rfl (or_load (l := [.int .i64 x130.1, .int .i64 x130.2]) ta32 (s_4.trans e134_4) (Blk.cellsFrom (BlkO.evo (by decide) hE b134_g131).2 0 rfl) rfl)
        refine steps_cons (fun own a wx hf hsl hE => ?_) ?_
        · obtain ⟨s_1, -⟩ := hsl
          exact sg_plain rfl rfl (or_load1 to22 (s_1.trans e134_1) (Blk.at_ (BlkO.evo (by decide) hE b134_gf1).2 0 rfl))
        refine steps_cons (fun own a wx hf hsl hE => ?_) ?_
        · obtain ⟨s_3, -⟩ := hsl
          exact sg_plain rfl rfl (or_move (s_3.trans e134_3))
        refine steps_cons (fun own a wx hf hsl hE => ?_) ?_
        · obtain ⟨(f_15 : a.eval (.tmp 15) = .int .i64 x100), -⟩ := hf
          exact sg_plain rfl rfl (or_add f_15 rfl rfl)
        refine steps_cons (fun own a wx hf hsl hE => ?_) ?_
        · obtain ⟨s_1, -⟩ := hsl
          exact sg_plain rfl rfl (or_load1 to22 (s_1.trans e134_1) (Blk.at_ (BlkO.evo (by decide) hE b134_gf1).2 0 rfl))
        refine steps_cons (fun own a wx hf hsl hE => ?_) ?_
        · obtain ⟨(f_17 : a.eval (.tmp 17) = .slice Af1_0 f1.length cf1_0), -⟩ := hf
          exact sg_plain rfl rfl (or_len tu22 f_17 rfl)
        refine steps_cons (fun own a wx hf hsl hE => ?_) ?_
        · obtain ⟨(f_16 : a.eval (.tmp 16) = .int .i64 (ad x100 1)), (f_18 : a.eval (.tmp 18) = .int .i64 (f1.length : Int)), -⟩ := hf
          exact sg_plain rfl rfl (or_rem f_16 f_18 hx137)
        refine steps_cons (fun own a wx hf hsl hE => ?_) ?_
        · obtain ⟨(f_14 : a.eval (.tmp 14) = .slice Af1_0 f1.length cf1_0), (f_19 : a.eval (.tmp 19) = .int .i64 x137), -⟩ := hf
          exact sg_plain rfl rfl (or_index (R := R32) (l := f1) tl22 f_14 f_19 (RdO.some_ b134_Af1_0 hx138) hx138)
        refine steps_cons (fun own a wx hf hsl hE => ?_) ?_
        · obtain ⟨(f_20 : a.eval (.tmp 20) = .pointer (some ((adr Af1_0).add ((x137 : Int).toNat * R32.s)))), -⟩ := hf
          exact sg_plain rfl rfl (or_load (l := E32.f x138) ta32 f_20 (RdO.cells (F := E32) (RdO.evo rfl hE b134_Af1_0) hx138) rfl)
        refine steps_cons (fun own a wx hf hsl hE => ?_) ?_
        · obtain ⟨(f_12 : a.eval (.tmp 12) = .func (.yield lx) #[] #[]), (f_13 : a.eval (.tmp 13) = .agg #[.int .i64 x130.1, .int .i64 x130.2]), (f_21 : a.eval (.tmp 21) = .agg #[.int .i64 x138.1, .int .i64 x138.2]), (b_Jx : SqO Jx own 102 wx sx101), -⟩ := hf
          exact sg_plainF rfl (or_yield (x := (x130, x138)) (lab := 102) (lab2 := 140) f_12 (args2 f_13 f_21) hYx b_Jx hz139 (mem_of rfl) (by decide))
        refine steps_cons (fun own a wx hf hsl hE => ?_) ?_
        · obtain ⟨⟨(f_22 : a.eval (.tmp 22) = .bool z139.1), (b_Jx : SqO Jx own 140 wx z139.2)⟩, -⟩ := hf
          exact sg_plain rfl rfl (or_not f_22 rfl)
        exact steps_nil
      intro own141 a141 w141 hd141 hz141 hk141 hf141 hE141
      have e141_0 : a141.eval (.tmp 0) = .func (.yield lx) #[] #[] := (hk141 0 rfl).trans e134_0
      have e141_1 : a141.eval (.tmp 1) = .pointer (some ⟨gf1, 0, none⟩) := (hk141 1 rfl).trans e134_1
      have e141_5 : a141.eval (.tmp 5) = .slice Af1_0 f1.length cf1_0 := (hk141 5 rfl).trans e134_5
      have e141_6 : a141.eval (.tmp 6) = .int .i64 (f1.length : Int) := (hk141 6 rfl).trans e134_6
      have e141_7 : a141.eval (.tmp 7) = .int .i64 x100 := (hk141 7 rfl).trans e134_7
      obtain ⟨(f_23 : a141.eval (.tmp 23) = .bool (!z139.1)), ⟨(f_22 : a141.eval (.tmp 22) = .bool z139.1), (b_Jx : SqO Jx own141 140 w141 z139.2)⟩, -⟩ := hf141 [11, 10] rfl
      have e141_23 := f_23
      have hX141 := Evo.step hX134 hown hE141 rfl
      have b141_gf1 := BlkO.evo (by decide) hE141 b134_gf1
      have b141_Af1_0 := RdO.evo rfl hE141 b134_Af1_0
      have b141_Jx := b_Jx
      refine fl_cond e141_23 hs (fun c142 hs => ?_) (fun c142 hs => ?_)
      · refine fl_ret ?_
        refine hp129 _ _ _ rfl ?_
        refine hp128 _ _ _ rfl ?_
        replace hs := hz123 _ hs
        refine hp123 _ _ _ rfl ?_
        refine hp79 _ _ _ rfl ?_
        obtain rfl := osome hs
        exact hret _ _ _ _ (.inl rfl) hd141 (results0_ rfl ) ⟨(rl [(140, 1)] own141), rfl, (Evo.rl_ hX141 hown rfl), (SqO.rl_ (mm := [(140, 1)]) b141_Jx rfl (by decide))⟩
      refine fl_skip ?_
      refine hn129 _ _ ?_
      refine hn128 _ _ ?_
      refine rg_plain (n := 25) (rs := []) (own0 := own141) (K := [])
          (bs := [0, 1])
          (ds := [⟨[], [7], [], Fct.val 24 (.int .i64 (ad x100 1))⟩,
          ⟨[0], [], [], Fct.val 7 (.int .i64 (ad x100 1))⟩]) (by kernel_rfl) hz141 hd141 (fun _ h => nomatch h) ?_ ?_
      · refine steps_cons (fun own a wx hf hsl hE => ?_) ?_
        · obtain ⟨s_7, -⟩ := hsl
          exact sg_plain rfl rfl (or_add (s_7.trans e141_7) rfl rfl)
        refine steps_cons (fun own a wx hf hsl hE => ?_) ?_
        · obtain ⟨(f_24 : a.eval (.tmp 24) = .int .i64 (ad x100 1)), -⟩ := hf
          exact sg_plain rfl rfl (or_move f_24)
        exact steps_nil
      intro own143 a143 w143 hd143 hz143 hk143 hf143 hE143
      have e143_0 : a143.eval (.tmp 0) = .func (.yield lx) #[] #[] := (hk143 0 rfl).trans e141_0
      have e143_1 : a143.eval (.tmp 1) = .pointer (some ⟨gf1, 0, none⟩) := (hk143 1 rfl).trans e141_1
      have e143_5 : a143.eval (.tmp 5) = .slice Af1_0 f1.length cf1_0 := (hk143 5 rfl).trans e141_5
      have e143_6 : a143.eval (.tmp 6) = .int .i64 (f1.length : Int) := (hk143 6 rfl).trans e141_6
      obtain ⟨(f_7 : a143.eval (.tmp 7) = .int .i64 (ad x100 1)), -⟩ := hf143 [1] rfl
      have e143_7 := f_7
      have hX143 := Evo.step hX141 hown hE143 rfl
      have b143_gf1 := BlkO.evo (by decide) hE143 b141_gf1
      have b143_Af1_0 := RdO.evo rfl hE143 b141_Af1_0
      have b143_Jx := SqO.evo (by decide) hE143 b141_Jx
      exact hn123 _ _ _ hs ⟨(rl [(140, 102)] own143), hd143, hz143, e143_0, e143_1, e143_5, e143_6, e143_7, (Evo.rl_ hX143 hown rfl), (BlkO.rl_ (mm := [(140, 102)]) b143_gf1), (RdO.rl_ (mm := [(140, 102)]) b143_Af1_0), (SqO.rl_ (mm := [(140, 102)]) b143_Jx rfl (by decide))⟩
    refine fl_exit ?_
    refine hp126 _ _ _ rfl ?_
    replace hs := hz123 _ hs
    refine hp123 _ _ _ rfl ?_
    refine hx79 _ _ ?_
    obtain rfl := (osome hs).symm
    exact hret _ _ _ _ (.inr rfl) hd125 (results0_ rfl ) ⟨(rl [(102, 1)] own125), rfl, (Evo.rl_ hX125 hown rfl), (SqO.rl_ (mm := [(102, 1)]) b125_Jx rfl (by decide))⟩

theorem ring_Area_w (w : World) (l1 : List (Int × Int)) (Al1 : Option Addr) (cl1 : Nat) (hl1 : RdO (fun _ => 0) [0] w R32 Al1 cl1 l1) (r : Int) (hs : ring_Area l1 = some r) :
    Calls Try.prog 13 #[.slice Al1 l1.length cl1] w fun e w' => ∃ own' : Own, e = .returned (.int .i64 r) ∧ Evo [] (fun _ => 0) own' w w' := by
  refine fl_enterM (n := 27) (kD := 11) (by decide) rfl rfl rfl (Nat.le_of_ble_eq_true rfl) ?_
  intro a0 Q hd0 hz0 harg hret
  have ha0 := harg 0 _ rfl
  clear harg
  have hE0 : Evo [] (fun _ => 0) (fun _ => 0) w w := Evo.refl _ _ _
  have hmk0 : MkO (fun _ => 0) 11 w [] := MkO.nil_
  refine rg_plain_seq (n := 27) (rs := []) (own0 := (fun _ => 0)) (K := [])
      (bs := [0, 0])
      (ds := [⟨[], [0], [], Fct.blk 93 1 (fun g => .pointer (some ⟨g, 0, none⟩)) 22 #[.slice Al1 l1.length cl1]⟩,
      ⟨[], [], [], Fct.val 2 (.int .i64 0)⟩]) (by kernel_rfl) hz0 hd0 (fun _ h => nomatch h) ?_ ?_
  · refine steps_cons (fun own a wx hf hsl hE => ?_) ?_
    · obtain ⟨s_0, -⟩ := hsl
      exact sg_plain rfl rfl (or_new [(0, .slice Al1 l1.length cl1)] rfl rfl ⟨(s_0.trans ha0), trivial⟩ (by kernel_rfl))
    refine steps_cons (fun own a wx hf hsl hE => ?_) ?_
    · exact sg_plain rfl rfl (or_assign rfl)
    exact steps_nil
  intro own94 a94 w94 hd94 hz94 hk94 hf94 hE94
  obtain ⟨⟨g92, (f_1 : a94.eval (.tmp 1) = .pointer (some ⟨g92, 0, none⟩)), (b_g92 : BlkO own94 93 w94 g92 22 #[.slice Al1 l1.length cl1])⟩, -⟩ := hf94 [0] rfl
  have e94_1 := f_1
  have hX94 := Evo.step hE0 (fun _ => Nat.le_refl 0) hE94 rfl
  have b94_Al1 := RdO.evo rfl hE94 hl1
  have b94_mk := MkO.evo (by decide) hE94 hmk0
  have b94_g92 := b_g92
  refine fl_seq (fun Q95 hn95 hp95 => ?_)
  obtain ⟨r96, hr96, hs⟩ := obind hs
  obtain ⟨x97, hx97, hs⟩ := obind hs
  refine rg_plain_seq (n := 27) (rs := []) (own0 := own94) (K := [])
      (bs := [0, 1, 3, 7, 15, 31, 63, 127])
      (ds := [⟨[], [1], [], Fct.val 6 (.slice Al1 l1.length cl1)⟩,
      ⟨[0], [], [], Fct.val 7 (.int .i64 (l1.length : Int))⟩,
      ⟨[1], [], [], Fct.val 8 (.bool (decide ((l1.length : Int) < 3)))⟩,
      ⟨[2], [], [], Fct.val 9 (.bool (decide ((l1.length : Int) < 3)))⟩,
      ⟨[3], [1], [], Fct.cond (!(decide ((l1.length : Int) < 3))) (some 10) (Fct.val 10 (.slice Al1 l1.length cl1))⟩,
      ⟨[3, 4], [], [], Fct.cond (!(decide ((l1.length : Int) < 3))) (some 11) (Fct.val 11 (.bool r96))⟩,
      ⟨[3, 5], [], [], Fct.cond (!(decide ((l1.length : Int) < 3))) (some 12) (Fct.val 12 (.bool (!r96)))⟩,
      ⟨[3, 6], [], [], Fct.val 13 (.bool x97)⟩]) (by kernel_rfl) hz94 hd94 (fun _ h => nomatch h) ?_ ?_
  · refine steps_cons (fun own a wx hf hsl hE => ?_) ?_
    · obtain ⟨s_1, -⟩ := hsl
      exact sg_plain rfl rfl (or_load1 to22 (s_1.trans e94_1) (Blk.at_ (BlkO.evo (by decide) hE b94_g92).2 0 rfl))
    refine steps_cons (fun own a wx hf hsl hE => ?_) ?_
    · obtain ⟨(f_6 : a.eval (.tmp 6) = .slice Al1 l1.length cl1), -⟩ := hf
      exact sg_plain rfl rfl (or_len tu22 f_6 rfl)
    refine steps_cons (fun own a wx hf hsl hE => ?_) ?_
    · obtain ⟨(f_7 : a.eval (.tmp 7) = .int .i64 (l1.length : Int)), -⟩ := hf
      exact sg_plain rfl rfl (or_lss f_7 rfl rfl)
    refine steps_cons (fun own a wx hf hsl hE => ?_) ?_
    · obtain ⟨(f_8 : a.eval (.tmp 8) = .bool (decide ((l1.length : Int) < 3))), -⟩ := hf
      exact sg_plain rfl rfl (or_move f_8)
    refine steps_cons (fun own a wx hf hsl hE => ?_) ?_
    · obtain ⟨(f_9 : a.eval (.tmp 9) = .bool (decide ((l1.length : Int) < 3))), -⟩ := hf
      obtain ⟨s_1, -⟩ := hsl
      refine sg_f rfl rfl rfl f_9 (fun hg => ?_)
      exact or_load1 to22 (s_1.trans e94_1) (Blk.at_ (BlkO.evo (by decide) hE b94_g92).2 0 rfl)
    refine steps_cons (fun own a wx hf hsl hE => ?_) ?_
    · obtain ⟨(f_9 : a.eval (.tmp 9) = .bool (decide ((l1.length : Int) < 3))), c_10, -⟩ := hf
      refine sg_f rfl rfl rfl f_9 (fun hg => ?_)
      have f_10 : a.eval (.tmp 10) = .slice Al1 l1.length cl1 := c_10.1 hg
      exact or_call cf33 (args1 f_10) (exact_Right_w _ l1 Al1 cl1 (RdO.zero (RdO.evo rfl hE b94_Al1)) r96 (gd_t hr96 hg)) post_val
    refine steps_cons (fun own a wx hf hsl hE => ?_) ?_
    · obtain ⟨(f_9 : a.eval (.tmp 9) = .bool (decide ((l1.length : Int) < 3))), c_11, -⟩ := hf
      refine sg_f rfl rfl rfl f_9 (fun hg => ?_)
      have f_11 : a.eval (.tmp 11) = .bool r96 := c_11.1 hg
      exact or_not f_11 rfl
    refine steps_cons (fun own a wx hf hsl hE => ?_) ?_
    · obtain ⟨(f_9 : a.eval (.tmp 9) = .bool (decide ((l1.length : Int) < 3))), c_12, -⟩ := hf
      exact sg_plain rfl rfl (or_or f_9 rfl (fun hx => c_12.1 hx) (osome hx97).symm)
    exact steps_nil
  intro own98 a98 w98 hd98 hz98 hk98 hf98 hE98
  have e98_1 : a98.eval (.tmp 1) = .pointer (some ⟨g92, 0, none⟩) := (hk98 1 rfl).trans e94_1
  obtain ⟨(f_13 : a98.eval (.tmp 13) = .bool x97), -⟩ := hf98 [7] rfl
  have e98_13 := f_13
  have hX98 := Evo.step hX94 (fun _ => Nat.le_refl 0) hE98 rfl
  have b98_Al1 := RdO.evo rfl hE98 b94_Al1
  have b98_mk := MkO.evo (by decide) hE98 b94_mk
  have b98_g92 := BlkO.evo (by decide) hE98 b94_g92
  refine fl_cond e98_13 hs (fun c99 hs => ?_) (fun c99 hs => ?_)
  · refine rg_plain_seq (n := 27) (rs := []) (own0 := own98) (K := [])
        (bs := [0])
        (ds := [⟨[], [], [], Fct.val 2 (.int .i64 0)⟩]) (by kernel_rfl) hz98 hd98 (fun _ h => nomatch h) ?_ ?_
    · refine steps_cons (fun own a wx hf hsl hE => ?_) ?_
      · exact sg_plain rfl rfl (or_assign rfl)
      exact steps_nil
    intro own100 a100 w100 hd100 hz100 hk100 hf100 hE100
    obtain ⟨(f_2 : a100.eval (.tmp 2) = .int .i64 0), -⟩ := hf100 [0] rfl
    have e100_2 := f_2
    have hX100 := Evo.step hX98 (fun _ => Nat.le_refl 0) hE100 rfl
    have b100_mk := MkO.evo (by decide) hE100 b98_mk
    refine fl_ret ?_
    refine hp95 _ _ _ rfl ?_
    refine hret _ _ _ _ _ (.inl rfl) hd100 b100_mk (fun own101 w101 hE101 => ?_)
    have hX102 := Evo.step hX100 (fun _ => Nat.le_refl 0) hE101 rfl
    obtain rfl := osome hs
    exact ⟨_, results1_ rfl (RVal.tmp_ e100_2), ⟨own101, rfl, hX102⟩⟩
  refine fl_skip ?_
  refine hn95 _ _ ?_
  refine rg_plain_seq (n := 27) (rs := []) (own0 := own98) (K := [104])
      (bs := [0, 1])
      (ds := [⟨[], [], [], Fct.blk 104 3 (fun g => .pointer (some ⟨g, 0, none⟩)) 3 #[.int .i64 0]⟩,
      ⟨[0], [], [104], Fct.blk 105 3 (fun g => .pointer (some ⟨g, 0, none⟩)) 3 #[.int .i64 0]⟩]) (by kernel_rfl) hz98 hd98 (fun _ h => nomatch h) ?_ ?_
  · refine steps_cons (fun own a wx hf hsl hE => ?_) ?_
    · exact sg_plain rfl rfl (or_new [] rfl rfl trivial (by kernel_rfl))
    refine steps_cons (fun own a wx hf hsl hE => ?_) ?_
    · obtain ⟨⟨g103, (f_3 : a.eval (.tmp 3) = .pointer (some ⟨g103, 0, none⟩)), (b_g103 : BlkO own 104 wx g103 3 #[.int .i64 0])⟩, -⟩ := hf
      exact sg_plain rfl rfl (or_store1 (lab := 104) (lab2 := 105) ts3 f_3 rfl b_g103 (by simp) rfl (mem_of rfl) (by decide) rfl (fun own' a' w' ha hb => ⟨_, (ha 3).trans f_3, hb⟩))
    exact steps_nil
  intro own106 a106 w106 hd106 hz106 hk106 hf106 hE106
  have e106_1 : a106.eval (.tmp 1) = .pointer (some ⟨g92, 0, none⟩) := (hk106 1 rfl).trans e98_1
  obtain ⟨⟨g103, (f_3 : a106.eval (.tmp 3) = .pointer (some ⟨g103, 0, none⟩)), (b_g103 : BlkO own106 105 w106 g103 3 #[.int .i64 0])⟩, -⟩ := hf106 [1] rfl
  have e106_3 := f_3
  have hX106 := Evo.step hX98 (fun _ => Nat.le_refl 0) hE106 rfl
  have b106_Al1 := RdO.evo rfl hE106 b98_Al1
  have b106_mk := MkO.evo (by decide) hE106 b98_mk
  have b106_g92 := BlkO.evo (by decide) hE106 b98_g92
  have b106_g103 := b_g103
  refine fl_seq (fun Q107 hn107 hp107 => ?_)
  refine rg_plain_seq (n := 27) (rs := []) (own0 := own106) (K := [])
      (bs := [0, 1])
      (ds := [⟨[], [1], [], Fct.val 14 (.slice Al1 l1.length cl1)⟩,
      ⟨[0], [], [], Fct.mems [109] 15 (fun (x : Option Addr × Nat) => .func (.func 55) #[] #[.pointer (some ⟨x.2, 0, none⟩)]) (fun (x : Option Addr × Nat) own w => BlkO own 109 w x.2 22 #[.slice Al1 l1.length cl1]) (fun hk he h => BlkO.evo (not_hit hk (by decide)) he h)⟩]) (by kernel_rfl) hz106 hd106 (fun _ h => nomatch h) ?_ ?_
  · refine steps_cons (fun own a wx hf hsl hE => ?_) ?_
    · obtain ⟨s_1, -⟩ := hsl
      exact sg_plain rfl rfl (or_load1 to22 (s_1.trans e106_1) (Blk.at_ (BlkO.evo (by decide) hE b106_g92).2 0 rfl))
    refine steps_cons (fun own a wx hf hsl hE => ?_) ?_
    · obtain ⟨(f_14 : a.eval (.tmp 14) = .slice Al1 l1.length cl1), -⟩ := hf
      exact sg_plain rfl rfl (or_call cf34 (args1 f_14) (ring_edges_w _ l1 Al1 cl1 (RdO.zero (RdO.evo rfl hE b106_Al1)) () rfl) (post_mems (m := (fun _ => 0)) (m' := (look0 [(1, 109)])) (fun _ _ => .inl rfl) (fun own' w' a' x h1 h => ⟨x, h1, BlkO.back_ h (by decide)⟩)))
    exact steps_nil
  intro own110 a110 w110 hd110 hz110 hk110 hf110 hE110
  have e110_1 : a110.eval (.tmp 1) = .pointer (some ⟨g92, 0, none⟩) := (hk110 1 rfl).trans e106_1
  have e110_3 : a110.eval (.tmp 3) = .pointer (some ⟨g103, 0, none⟩) := (hk110 3 rfl).trans e106_3
  obtain ⟨⟨⟨A108, cA108⟩, (f_15 : a110.eval (.tmp 15) = .func (.func 55) #[] #[.pointer (some ⟨cA108, 0, none⟩)]), (b_cA108 : BlkO own110 109 w110 cA108 22 #[.slice Al1 l1.length cl1])⟩, -⟩ := hf110 [1] rfl
  have e110_15 := f_15
  have hX110 := Evo.step hX106 (fun _ => Nat.le_refl 0) hE110 rfl
  have b110_Al1 := RdO.evo rfl hE110 b106_Al1
  have b110_mk := MkO.evo (by decide) hE110 b106_mk
  have b110_g92 := BlkO.evo (by decide) hE110 b106_g92
  have b110_g103 := BlkO.evo (by decide) hE110 b106_g103
  have b110_cA108 := b_cA108
  refine fl_block (fun Q111 hn111 hx111 hp111 => ?_)
  obtain ⟨zz150, hzz150, hs⟩ := rngO_some hs
  refine fl_range (S := Int) (D := Empty) (X := (Int × Int) × (Int × Int)) (encs := (fun (x : (Int × Int) × (Int × Int)) => #[.agg #[.int .i64 x.1.1, .int .i64 x.1.2], .agg #[.int .i64 x.2.1, .int .i64 x.2.2]])) (n := 27) [105, 157, 161, 170] 151 11 rfl
      (fun (sum131 : Int) (ox : Own) (wx : World) => Evo [] (fun _ => 0) ox w wx ∧ BlkO ox 93 wx g92 22 #[.slice Al1 l1.length cl1] ∧ RdO ox [0] wx R32 Al1 cl1 l1 ∧ BlkO ox 105 wx g103 3 #[.int .i64 sum131] ∧ BlkO ox 109 wx cA108 22 #[.slice Al1 l1.length cl1])
      (fun (e : Empty) (_ : Own) (_ : World) => nomatch e)
      (fun (e : Empty) => nomatch e) (fun (sr : Int) (xr : (Int × Int) × (Int × Int)) => ring_Area_b1 l1 sr xr) hz110 rfl e110_15 cf55 (cargs := fun l => #[.func (.yield l) #[] #[], .pointer (some ⟨cA108, 0, none⟩)]) (fun _ => by simp) (fun _ => rfl) hd110 b110_mk ?_ ?_ 0 zz150 ⟨hX110, b110_g92, b110_Al1, b110_g103, b110_cA108⟩ ?_ ?_ ?_ ?_
  · rintro sum131 ox ox1 wx wx1 hEs ⟨h150_0, h150_1, h150_2, h150_3, h150_4⟩
    exact ⟨(Evo.step h150_0 (fun _ => Nat.le_refl 0) hEs rfl), (BlkO.evo (by decide) hEs h150_1), (RdO.evo rfl hEs h150_2), (BlkO.evo (by decide) hEs h150_3), (BlkO.evo (by decide) hEs h150_4)⟩
  · intro e; exact nomatch e
  · intro l150 own1 w1 J150 hE1 hJ1 hR1
    exact (ring_edges_1_w w1 (forth own1 (look0 (kj 151 [105, 157, 161, 170]))) (Int ⊕ Empty) (yb (fun (sr : Int) (xr : (Int × Int) × (Int × Int)) => ring_Area_b1 l1 sr xr)) J150 l150 (Sum.inl 0) l1 cA108 22 Al1 cl1 (look0_le rfl) hR1 hJ1 (BlkO.forth_ (BlkO.evo (by decide) hE1 b110_cA108)) (RdO.forth0_ (RdO.evo rfl hE1 b110_Al1) rfl) zz150 hzz150).mono fun e wz ⟨oz, he, _, hJz⟩ => ⟨_, oz, he, hJz⟩
  · rintro l154 sum131 x153 zz2 own154 a154 w154 Ds154 ⟨hE155, b155_g92, b155_Al1, b155_g103, b155_cA108⟩ - hrc154 hs ⟨hd154, hz154, hkp154, hpar154⟩ Q154 hn154
    have hs : ring_Area_b1 l1 sum131 x153 = some zz2 := hs
    replace hz154 := hz154.trans hz110
    have e154_1 : a154.eval (.tmp 1) = .pointer (some ⟨g92, 0, none⟩) := (hkp154 1 rfl).trans e110_1
    have e154_3 : a154.eval (.tmp 3) = .pointer (some ⟨g103, 0, none⟩) := (hkp154 3 rfl).trans e110_3
    have e154_15 : a154.eval (.tmp 15) = .func (.func 55) #[] #[.pointer (some ⟨cA108, 0, none⟩)] := (hkp154 15 rfl).trans e110_15
    have e154_16 : a154.eval (.tmp 16) = .agg #[.int .i64 x153.1.1, .int .i64 x153.1.2] := hpar154 0 16 _ rfl rfl
    have e154_17 : a154.eval (.tmp 17) = .agg #[.int .i64 x153.2.1, .int .i64 x153.2.2] := hpar154 1 17 _ rfl rfl
    have hE154 := Evo.refl [105, 157, 161, 170] own154 w154
    have hrc0_154 := hrc154
    refine rg_plain_seq (n := 27) (rs := []) (own0 := own154) (K := [157])
        (bs := [0, 1])
        (ds := [⟨[], [], [], Fct.blk 157 4 (fun g => .pointer (some ⟨g, 0, none⟩)) 32 #[.int .i64 0, .int .i64 0]⟩,
        ⟨[0], [16], [157], Fct.blk 158 4 (fun g => .pointer (some ⟨g, 0, none⟩)) 32 #[.int .i64 x153.1.1, .int .i64 x153.1.2]⟩]) (by kernel_rfl) hz154 hd154 (fun _ h => nomatch h) ?_ ?_
    · refine steps_cons (fun own a wx hf hsl hE => ?_) ?_
      · exact sg_plain rfl rfl (or_new [] rfl rfl trivial (by kernel_rfl))
      refine steps_cons (fun own a wx hf hsl hE => ?_) ?_
      · obtain ⟨⟨g156, (f_4 : a.eval (.tmp 4) = .pointer (some ⟨g156, 0, none⟩)), (b_g156 : BlkO own 157 wx g156 32 #[.int .i64 0, .int .i64 0])⟩, -⟩ := hf
        obtain ⟨s_16, -⟩ := hsl
        exact sg_plain rfl rfl (or_store (l := #[.int .i64 x153.1.1, .int .i64 x153.1.2]) (lab := 157) (lab2 := 158) ts32 f_4 (s_16.trans e154_16) b_g156 (by simp) (by kernel_rfl) (mem_of rfl) (by decide) (by kernel_rfl) (fun own' a' w' ha hb => ⟨_, (ha 4).trans f_4, hb⟩))
      exact steps_nil
    intro own159 a159 w159 hd159 hz159 hk159 hf159 hE159
    have e159_1 : a159.eval (.tmp 1) = .pointer (some ⟨g92, 0, none⟩) := (hk159 1 rfl).trans e154_1
    have e159_3 : a159.eval (.tmp 3) = .pointer (some ⟨g103, 0, none⟩) := (hk159 3 rfl).trans e154_3
    have e159_15 : a159.eval (.tmp 15) = .func (.func 55) #[] #[.pointer (some ⟨cA108, 0, none⟩)] := (hk159 15 rfl).trans e154_15
    have e159_17 : a159.eval (.tmp 17) = .agg #[.int .i64 x153.2.1, .int .i64 x153.2.2] := (hk159 17 rfl).trans e154_17
    obtain ⟨⟨g156, (f_4 : a159.eval (.tmp 4) = .pointer (some ⟨g156, 0, none⟩)), (b_g156 : BlkO own159 158 w159 g156 32 #[.int .i64 x153.1.1, .int .i64 x153.1.2])⟩, -⟩ := hf159 [1] rfl
    have e159_4 := f_4
    have hX159 := Evo.stepK hE154 hE159 rfl
    have b159_g92 := BlkO.evo (by decide) hE159 b155_g92
    have b159_Al1 := RdO.evo rfl hE159 b155_Al1
    have b159_g103 := BlkO.evo (by decide) hE159 b155_g103
    have b159_cA108 := BlkO.evo (by decide) hE159 b155_cA108
    have b159_g156 := b_g156
    refine rg_plain (n := 27) (rs := []) (own0 := own159) (K := [161])
        (bs := [0, 1])
        (ds := [⟨[], [], [], Fct.blk 161 5 (fun g => .pointer (some ⟨g, 0, none⟩)) 32 #[.int .i64 0, .int .i64 0]⟩,
        ⟨[0], [17], [161], Fct.blk 162 5 (fun g => .pointer (some ⟨g, 0, none⟩)) 32 #[.int .i64 x153.2.1, .int .i64 x153.2.2]⟩]) (by kernel_rfl) hz159 hd159 (fun _ h => nomatch h) ?_ ?_
    · refine steps_cons (fun own a wx hf hsl hE => ?_) ?_
      · exact sg_plain rfl rfl (or_new [] rfl rfl trivial (by kernel_rfl))
      refine steps_cons (fun own a wx hf hsl hE => ?_) ?_
      · obtain ⟨⟨g160, (f_5 : a.eval (.tmp 5) = .pointer (some ⟨g160, 0, none⟩)), (b_g160 : BlkO own 161 wx g160 32 #[.int .i64 0, .int .i64 0])⟩, -⟩ := hf
        obtain ⟨s_17, -⟩ := hsl
        exact sg_plain rfl rfl (or_store (l := #[.int .i64 x153.2.1, .int .i64 x153.2.2]) (lab := 161) (lab2 := 162) ts32 f_5 (s_17.trans e159_17) b_g160 (by simp) (by kernel_rfl) (mem_of rfl) (by decide) (by kernel_rfl) (fun own' a' w' ha hb => ⟨_, (ha 5).trans f_5, hb⟩))
      exact steps_nil
    intro own163 a163 w163 hd163 hz163 hk163 hf163 hE163
    have e163_1 : a163.eval (.tmp 1) = .pointer (some ⟨g92, 0, none⟩) := (hk163 1 rfl).trans e159_1
    have e163_3 : a163.eval (.tmp 3) = .pointer (some ⟨g103, 0, none⟩) := (hk163 3 rfl).trans e159_3
    have e163_4 : a163.eval (.tmp 4) = .pointer (some ⟨g156, 0, none⟩) := (hk163 4 rfl).trans e159_4
    have e163_15 : a163.eval (.tmp 15) = .func (.func 55) #[] #[.pointer (some ⟨cA108, 0, none⟩)] := (hk163 15 rfl).trans e159_15
    obtain ⟨⟨g160, (f_5 : a163.eval (.tmp 5) = .pointer (some ⟨g160, 0, none⟩)), (b_g160 : BlkO own163 162 w163 g160 32 #[.int .i64 x153.2.1, .int .i64 x153.2.2])⟩, -⟩ := hf163 [1] rfl
    have e163_5 := f_5
    have hX163 := Evo.stepK hX159 hE163 rfl
    have b163_g92 := BlkO.evo (by decide) hE163 b159_g92
    have b163_Al1 := RdO.evo rfl hE163 b159_Al1
    have b163_g103 := BlkO.evo (by decide) hE163 b159_g103
    have b163_cA108 := BlkO.evo (by decide) hE163 b159_cA108
    have b163_g156 := BlkO.evo (by decide) hE163 b159_g156
    have b163_g160 := b_g160
    refine hn154 _ _ _ hX163 (fun w164 own164 hE164 hrc164 => ?_)
    have b164_g92 := BlkO.evo (by decide) hE164 b163_g92
    have b164_Al1 := RdO.evo rfl hE164 b163_Al1
    have b164_g103 := BlkO.evo (by decide) hE164 b163_g103
    have b164_cA108 := BlkO.evo (by decide) hE164 b163_cA108
    have b164_g156 := BlkO.evo (by decide) hE164 b163_g156
    have b164_g160 := BlkO.evo (by decide) hE164 b163_g160
    have hU164 := Evo.step (Evo.step hE155 (fun _ => Nat.le_refl 0) hX163 rfl) (fun _ => Nat.le_refl 0) hE164 rfl
    have hX164 := Evo.refl [105, 157, 161, 170] own164 w164
    have hmk164 : MkO own164 11 w164 [] := MkO.nil_
    refine fl_block (fun Q165 hn165 hx165 hp165 => ?_)
    obtain ⟨x168, hx168, hs⟩ := obind hs
    obtain ⟨r169, hr169, hs⟩ := obind hs
    refine rg_draw g_mixed (n := 27) (rs := [Fct.at_ 105 g103 3 #[.int .i64 sum131]]) (own0 := own164) (K := [105])
        (bs := [0, 0, 2, 6, 0, 0, 62, 127, 255])
        (ds := [⟨[9], [3], [], Fct.val 18 (.int .i64 sum131)⟩,
        ⟨[], [1], [], Fct.val 19 (.slice Al1 l1.length cl1)⟩,
        ⟨[1], [], [], Fct.val 20 (.pointer (some ((adr Al1).add ((0 : Int).toNat * R32.s))))⟩,
        ⟨[2], [], [], Fct.val 21 (.agg #[.int .i64 x168.1, .int .i64 x168.2])⟩,
        ⟨[], [4], [], Fct.val 22 (.agg #[.int .i64 x153.1.1, .int .i64 x153.1.2])⟩,
        ⟨[], [5], [], Fct.val 23 (.agg #[.int .i64 x153.2.1, .int .i64 x153.2.2])⟩,
        ⟨[3, 4, 5], [], [], Fct.val 24 (.int .i64 r169)⟩,
        ⟨[0, 6], [], [], Fct.val 25 (.int .i64 (ad sum131 r169))⟩,
        ⟨[7, 9], [3], [105], Fct.at_ 170 g103 3 #[.int .i64 (ad sum131 r169)]⟩]) (by kernel_rfl) hz163 hd163 (by simp only [List.forall_mem_cons]; exact ⟨b164_g103, fun _ h => nomatch h⟩) ?_ ?_
    · refine steps_cons (fun own a wx hf hsl hE => ?_) ?_
      · obtain ⟨(b_g103 : BlkO own 105 wx g103 3 #[.int .i64 sum131]), -⟩ := hf
        obtain ⟨s_3, -⟩ := hsl
        exact sg_plain rfl rfl (or_load1 to3 (s_3.trans e163_3) (Blk.at_ b_g103.2 0 rfl))
      refine steps_cons (fun own a wx hf hsl hE => ?_) ?_
      · obtain ⟨s_1, -⟩ := hsl
        exact sg_plain rfl rfl (or_load1 to22 (s_1.trans e163_1) (Blk.at_ (BlkO.evo (by decide) hE b164_g92).2 0 rfl))
      refine steps_cons (fun own a wx hf hsl hE => ?_) ?_
      · obtain ⟨(f_19 : a.eval (.tmp 19) = .slice Al1 l1.length cl1), -⟩ := hf
        exact sg_plain rfl rfl (or_index (R := R32) (l := l1) tl22 f_19 rfl (RdO.some_ b164_Al1 hx168) hx168)
      refine steps_cons (fun own a wx hf hsl hE => ?_) ?_
      · obtain ⟨(f_20 : a.eval (.tmp 20) = .pointer (some ((adr Al1).add ((0 : Int).toNat * R32.s)))), -⟩ := hf
        exact sg_plain rfl rfl (or_load (l := E32.f x168) ta32 f_20 (RdO.cells (F := E32) (RdO.evo rfl hE b164_Al1) hx168) rfl)
      refine steps_cons (fun own a wx hf hsl hE => ?_) ?_
      · obtain ⟨s_4, -⟩ := hsl
        exact sg_plain rfl rfl (or_load (l := [.int .i64 x153.1.1, .int .i64 x153.1.2]) ta32 (s_4.trans e163_4) (Blk.cellsFrom (BlkO.evo (by decide) hE b164_g156).2 0 rfl) rfl)
      refine steps_cons (fun own a wx hf hsl hE => ?_) ?_
      · obtain ⟨s_5, -⟩ := hsl
        exact sg_plain rfl rfl (or_load (l := [.int .i64 x153.2.1, .int .i64 x153.2.2]) ta32 (s_5.trans e163_5) (Blk.cellsFrom (BlkO.evo (by decide) hE b164_g160).2 0 rfl) rfl)
      refine steps_cons (fun own a wx hf hsl hE => ?_) ?_
      · obtain ⟨(f_21 : a.eval (.tmp 21) = .agg #[.int .i64 x168.1, .int .i64 x168.2]), (f_22 : a.eval (.tmp 22) = .agg #[.int .i64 x153.1.1, .int .i64 x153.1.2]), (f_23 : a.eval (.tmp 23) = .agg #[.int .i64 x153.2.1, .int .i64 x153.2.2]), -⟩ := hf
        exact sg_plain rfl rfl (or_call cf35 (args3 f_21 f_22 f_23) (exact_Cross_w _ x168 x153.1 x153.2  r169 hr169) post_val)
      refine steps_cons (fun own a wx hf hsl hE => ?_) ?_
      · obtain ⟨(f_18 : a.eval (.tmp 18) = .int .i64 sum131), (f_24 : a.eval (.tmp 24) = .int .i64 r169), -⟩ := hf
        exact sg_plain rfl rfl (or_add f_18 f_24 rfl)
      refine steps_cons (fun own a wx hf hsl hE => ?_) ?_
      · obtain ⟨(f_25 : a.eval (.tmp 25) = .int .i64 (ad sum131 r169)), (b_g103 : BlkO own 105 wx g103 3 #[.int .i64 sum131]), -⟩ := hf
        obtain ⟨s_3, -⟩ := hsl
        exact sg_plain rfl rfl (or_store1 (lab := 105) (lab2 := 170) ts3 (s_3.trans e163_3) f_25 b_g103 (by simp) rfl (mem_of rfl) (by decide) rfl (fun own' a' w' ha hb => hb))
      exact steps_nil
    intro own171 a171 w171 hd171 hz171 hk171 hf171 hE171
    have e171_1 : a171.eval (.tmp 1) = .pointer (some ⟨g92, 0, none⟩) := (hk171 1 rfl).trans e163_1
    have e171_3 : a171.eval (.tmp 3) = .pointer (some ⟨g103, 0, none⟩) := (hk171 3 rfl).trans e163_3
    have e171_15 : a171.eval (.tmp 15) = .func (.func 55) #[] #[.pointer (some ⟨cA108, 0, none⟩)] := (hk171 15 rfl).trans e163_15
    obtain ⟨(b_g103 : BlkO own171 170 w171 g103 3 #[.int .i64 (ad sum131 r169)]), -⟩ := hf171 [8] rfl
    have hX171 := Evo.stepK hX164 hE171 rfl
    have b171_g92 := BlkO.evo (by decide) hE171 b164_g92
    have b171_Al1 := RdO.evo rfl hE171 b164_Al1
    have b171_cA108 := BlkO.evo (by decide) hE171 b164_cA108
    have b171_rc := RcO.evo (by decide) hE171 hrc164
    have b171_mk := MkO.evo (by decide) hE171 hmk164
    have b171_g103 := b_g103
    refine hn165 _ _ ?_
    exact ⟨_, (rl [(170, 105)] own171), osome hs, (Evo.rlK hX171 rfl), (Evo.step hU164 (fun _ => Nat.le_refl 0) (Evo.rlK hX171 rfl) rfl), (BlkO.rl_ (mm := [(170, 105)]) b171_g92), (RdO.rl_ (mm := [(170, 105)]) b171_Al1), (BlkO.rl_ (mm := [(170, 105)]) b171_g103), (BlkO.rl_ (mm := [(170, 105)]) b171_cA108)⟩
  · rintro sum131 a172 own172 w172 Ds172 hzz172 hd172 hz172 hkp172 hmk172 ⟨hE172, b172_g92, b172_Al1, b172_g103, b172_cA108⟩
    subst hzz172
    have hs : ring_Area_b2 sum131 = some r := hs
    have e172_1 : a172.eval (.tmp 1) = .pointer (some ⟨g92, 0, none⟩) := (hkp172 1).trans e110_1
    have e172_3 : a172.eval (.tmp 3) = .pointer (some ⟨g103, 0, none⟩) := (hkp172 3).trans e110_3
    have e172_15 : a172.eval (.tmp 15) = .func (.func 55) #[] #[.pointer (some ⟨cA108, 0, none⟩)] := (hkp172 15).trans e110_15
    refine hn111 _ _ ?_
    refine hn107 _ _ ?_
    refine rg_plain_seq (n := 27) (rs := []) (own0 := own172) (K := [])
        (bs := [0, 1])
        (ds := [⟨[], [3], [], Fct.val 26 (.int .i64 sum131)⟩,
        ⟨[0], [], [], Fct.val 2 (.int .i64 sum131)⟩]) (by kernel_rfl) hz172 hd172 (fun _ h => nomatch h) ?_ ?_
    · refine steps_cons (fun own a wx hf hsl hE => ?_) ?_
      · obtain ⟨s_3, -⟩ := hsl
        exact sg_plain rfl rfl (or_load1 to3 (s_3.trans e172_3) (Blk.at_ (BlkO.evo (by decide) hE b172_g103).2 0 rfl))
      refine steps_cons (fun own a wx hf hsl hE => ?_) ?_
      · obtain ⟨(f_26 : a.eval (.tmp 26) = .int .i64 sum131), -⟩ := hf
        exact sg_plain rfl rfl (or_assign f_26)
      exact steps_nil
    intro own173 a173 w173 hd173 hz173 hk173 hf173 hE173
    obtain ⟨(f_2 : a173.eval (.tmp 2) = .int .i64 sum131), -⟩ := hf173 [1] rfl
    have e173_2 := f_2
    have hX173 := Evo.step hE172 (fun _ => Nat.le_refl 0) hE173 rfl
    have b173_mk := MkO.evo (by decide) hE173 hmk172
    refine fl_ret ?_
    refine hret _ _ _ _ _ (.inl rfl) hd173 b173_mk (fun own174 w174 hE174 => ?_)
    have hX175 := Evo.step hX173 (fun _ => Nat.le_refl 0) hE174 rfl
    obtain rfl := (osome hs).symm
    exact ⟨_, results1_ rfl (RVal.tmp_ e173_2), ⟨own174, rfl, hX175⟩⟩
  · intro e; exact nomatch e

theorem exact_Turn_w (w : World) (x1 : Int × Int) (b2 : Int × Int) (c3 : Int × Int) (r : Int) (hs : exact_Turn x1 b2 c3 = some r) :
    Calls Try.prog 38 #[.agg #[.int .i64 x1.1, .int .i64 x1.2], .agg #[.int .i64 b2.1, .int .i64 b2.2], .agg #[.int .i64 c3.1, .int .i64 c3.2]] w fun e w' => ∃ own' : Own, e = .returned (.int .i64 r) ∧ Evo [] (fun _ => 0) own' w w' := by
  refine fl_enter (n := 18) rfl rfl rfl (Nat.le_of_ble_eq_true rfl) ?_
  intro a0 Q hd0 hz0 harg hret
  have ha0 := harg 0 _ rfl
  have ha1 := harg 1 _ rfl
  have ha2 := harg 2 _ rfl
  clear harg
  have hE0 : Evo [] (fun _ => 0) (fun _ => 0) w w := Evo.refl _ _ _
  refine rg_plain_seq (n := 18) (rs := []) (own0 := (fun _ => 0)) (K := [])
      (bs := [0, 0, 0, 0])
      (ds := [⟨[], [0], [], Fct.blk 30 3 (fun g => .pointer (some ⟨g, 0, none⟩)) 32 #[.int .i64 x1.1, .int .i64 x1.2]⟩,
      ⟨[], [1], [], Fct.blk 32 4 (fun g => .pointer (some ⟨g, 0, none⟩)) 32 #[.int .i64 b2.1, .int .i64 b2.2]⟩,
      ⟨[], [2], [], Fct.blk 34 5 (fun g => .pointer (some ⟨g, 0, none⟩)) 32 #[.int .i64 c3.1, .int .i64 c3.2]⟩,
      ⟨[], [], [], Fct.val 6 (.int .i64 0)⟩]) (by kernel_rfl) hz0 hd0 (fun _ h => nomatch h) ?_ ?_
  · refine steps_cons (fun own a wx hf hsl hE => ?_) ?_
    · obtain ⟨s_0, -⟩ := hsl
      exact sg_plain rfl rfl (or_new [(0, .agg #[.int .i64 x1.1, .int .i64 x1.2])] rfl rfl ⟨(s_0.trans ha0), trivial⟩ (by kernel_rfl))
    refine steps_cons (fun own a wx hf hsl hE => ?_) ?_
    · obtain ⟨s_1, -⟩ := hsl
      exact sg_plain rfl rfl (or_new [(1, .agg #[.int .i64 b2.1, .int .i64 b2.2])] rfl rfl ⟨(s_1.trans ha1), trivial⟩ (by kernel_rfl))
    refine steps_cons (fun own a wx hf hsl hE => ?_) ?_
    · obtain ⟨s_2, -⟩ := hsl
      exact sg_plain rfl rfl (or_new [(2, .agg #[.int .i64 c3.1, .int .i64 c3.2])] rfl rfl ⟨(s_2.trans ha2), trivial⟩ (by kernel_rfl))
    refine steps_cons (fun own a wx hf hsl hE => ?_) ?_
    · exact sg_plain rfl rfl (or_assign rfl)
    exact steps_nil
  intro own35 a35 w35 hd35 hz35 hk35 hf35 hE35
  obtain ⟨⟨g29, (f_3 : a35.eval (.tmp 3) = .pointer (some ⟨g29, 0, none⟩)), (b_g29 : BlkO own35 30 w35 g29 32 #[.int .i64 x1.1, .int .i64 x1.2])⟩, ⟨g31, (f_4 : a35.eval (.tmp 4) = .pointer (some ⟨g31, 0, none⟩)), (b_g31 : BlkO own35 32 w35 g31 32 #[.int .i64 b2.1, .int .i64 b2.2])⟩, ⟨g33, (f_5 : a35.eval (.tmp 5) = .pointer (some ⟨g33, 0, none⟩)), (b_g33 : BlkO own35 34 w35 g33 32 #[.int .i64 c3.1, .int .i64 c3.2])⟩, -⟩ := hf35 [0, 1, 2] rfl
  have e35_3 := f_3
  have e35_4 := f_4
  have e35_5 := f_5
  have hX35 := Evo.step hE0 (fun _ => Nat.le_refl 0) hE35 rfl
  have b35_g29 := b_g29
  have b35_g31 := b_g31
  have b35_g33 := b_g33
  refine fl_seq (fun Q36 hn36 hp36 => ?_)
  obtain ⟨r37, hr37, hs⟩ := obind hs
  refine rg_plain_seq (n := 18) (rs := []) (own0 := own35) (K := [])
      (bs := [0, 0, 0, 7, 15])
      (ds := [⟨[], [3], [], Fct.val 8 (.agg #[.int .i64 x1.1, .int .i64 x1.2])⟩,
      ⟨[], [4], [], Fct.val 9 (.agg #[.int .i64 b2.1, .int .i64 b2.2])⟩,
      ⟨[], [5], [], Fct.val 10 (.agg #[.int .i64 c3.1, .int .i64 c3.2])⟩,
      ⟨[0, 1, 2], [], [], Fct.val 11 (.int .i64 r37)⟩,
      ⟨[3], [], [], Fct.val 7 (.int .i64 r37)⟩]) (by kernel_rfl) hz35 hd35 (fun _ h => nomatch h) ?_ ?_
  · refine steps_cons (fun own a wx hf hsl hE => ?_) ?_
    · obtain ⟨s_3, -⟩ := hsl
      exact sg_plain rfl rfl (or_load (l := [.int .i64 x1.1, .int .i64 x1.2]) ta32 (s_3.trans e35_3) (Blk.cellsFrom (BlkO.evo (by decide) hE b35_g29).2 0 rfl) rfl)
    refine steps_cons (fun own a wx hf hsl hE => ?_) ?_
    · obtain ⟨s_4, -⟩ := hsl
      exact sg_plain rfl rfl (or_load (l := [.int .i64 b2.1, .int .i64 b2.2]) ta32 (s_4.trans e35_4) (Blk.cellsFrom (BlkO.evo (by decide) hE b35_g31).2 0 rfl) rfl)
    refine steps_cons (fun own a wx hf hsl hE => ?_) ?_
    · obtain ⟨s_5, -⟩ := hsl
      exact sg_plain rfl rfl (or_load (l := [.int .i64 c3.1, .int .i64 c3.2]) ta32 (s_5.trans e35_5) (Blk.cellsFrom (BlkO.evo (by decide) hE b35_g33).2 0 rfl) rfl)
    refine steps_cons (fun own a wx hf hsl hE => ?_) ?_
    · obtain ⟨(f_8 : a.eval (.tmp 8) = .agg #[.int .i64 x1.1, .int .i64 x1.2]), (f_9 : a.eval (.tmp 9) = .agg #[.int .i64 b2.1, .int .i64 b2.2]), (f_10 : a.eval (.tmp 10) = .agg #[.int .i64 c3.1, .int .i64 c3.2]), -⟩ := hf
      exact sg_plain rfl rfl (or_call cf35 (args3 f_8 f_9 f_10) (exact_Cross_w _ x1 b2 c3  r37 hr37) post_val)
    refine steps_cons (fun own a wx hf hsl hE => ?_) ?_
    · obtain ⟨(f_11 : a.eval (.tmp 11) = .int .i64 r37), -⟩ := hf
      exact sg_plain rfl rfl (or_assign f_11)
    exact steps_nil
  intro own38 a38 w38 hd38 hz38 hk38 hf38 hE38
  obtain ⟨(f_7 : a38.eval (.tmp 7) = .int .i64 r37), -⟩ := hf38 [4] rfl
  have e38_7 := f_7
  have hX38 := Evo.step hX35 (fun _ => Nat.le_refl 0) hE38 rfl
  refine fl_block (fun Q39 hn39 hx39 hp39 => ?_)
  refine rg_plain_seq (n := 18) (rs := []) (own0 := own38) (K := [])
      (bs := [0, 1, 3])
      (ds := [⟨[], [7], [], Fct.val 13 (.int .i64 r37)⟩,
      ⟨[0], [], [], Fct.val 14 (.bool (decide (0 < r37)))⟩,
      ⟨[1], [], [], Fct.val 12 (.bool (decide (0 < r37)))⟩]) (by kernel_rfl) hz38 hd38 (fun _ h => nomatch h) ?_ ?_
  · refine steps_cons (fun own a wx hf hsl hE => ?_) ?_
    · obtain ⟨s_7, -⟩ := hsl
      exact sg_plain rfl rfl (or_move (s_7.trans e38_7))
    refine steps_cons (fun own a wx hf hsl hE => ?_) ?_
    · obtain ⟨(f_13 : a.eval (.tmp 13) = .int .i64 r37), -⟩ := hf
      exact sg_plain rfl rfl (or_gtr f_13 rfl rfl)
    refine steps_cons (fun own a wx hf hsl hE => ?_) ?_
    · obtain ⟨(f_14 : a.eval (.tmp 14) = .bool (decide (0 < r37))), -⟩ := hf
      exact sg_plain rfl rfl (or_assign f_14)
    exact steps_nil
  intro own40 a40 w40 hd40 hz40 hk40 hf40 hE40
  have e40_7 : a40.eval (.tmp 7) = .int .i64 r37 := (hk40 7 rfl).trans e38_7
  obtain ⟨(f_12 : a40.eval (.tmp 12) = .bool (decide (0 < r37))), -⟩ := hf40 [2] rfl
  have e40_12 := f_12
  have hX40 := Evo.step hX38 (fun _ => Nat.le_refl 0) hE40 rfl
  refine fl_cond e40_12 hs (fun c41 hs => ?_) (fun c41 hs => ?_)
  · refine rg_plain_seq (n := 18) (rs := []) (own0 := own40) (K := [])
        (bs := [0])
        (ds := [⟨[], [], [], Fct.val 6 (.int .i64 1)⟩]) (by kernel_rfl) hz40 hd40 (fun _ h => nomatch h) ?_ ?_
    · refine steps_cons (fun own a wx hf hsl hE => ?_) ?_
      · exact sg_plain rfl rfl (or_assign rfl)
      exact steps_nil
    intro own42 a42 w42 hd42 hz42 hk42 hf42 hE42
    obtain ⟨(f_6 : a42.eval (.tmp 6) = .int .i64 1), -⟩ := hf42 [0] rfl
    have e42_6 := f_6
    have hX42 := Evo.step hX40 (fun _ => Nat.le_refl 0) hE42 rfl
    refine fl_ret ?_
    refine hp39 _ _ _ rfl ?_
    refine hp36 _ _ _ rfl ?_
    obtain rfl := osome hs
    exact hret _ _ _ _ (.inl rfl) hd42 (results1_ rfl (RVal.tmp_ e42_6)) ⟨own42, rfl, hX42⟩
  refine rg_plain_seq (n := 18) (rs := []) (own0 := own40) (K := [])
      (bs := [0, 1, 3])
      (ds := [⟨[], [7], [], Fct.val 16 (.int .i64 r37)⟩,
      ⟨[0], [], [], Fct.val 17 (.bool (decide (r37 < 0)))⟩,
      ⟨[1], [], [], Fct.val 15 (.bool (decide (r37 < 0)))⟩]) (by kernel_rfl) hz40 hd40 (fun _ h => nomatch h) ?_ ?_
  · refine steps_cons (fun own a wx hf hsl hE => ?_) ?_
    · obtain ⟨s_7, -⟩ := hsl
      exact sg_plain rfl rfl (or_move (s_7.trans e40_7))
    refine steps_cons (fun own a wx hf hsl hE => ?_) ?_
    · obtain ⟨(f_16 : a.eval (.tmp 16) = .int .i64 r37), -⟩ := hf
      exact sg_plain rfl rfl (or_lss f_16 rfl rfl)
    refine steps_cons (fun own a wx hf hsl hE => ?_) ?_
    · obtain ⟨(f_17 : a.eval (.tmp 17) = .bool (decide (r37 < 0))), -⟩ := hf
      exact sg_plain rfl rfl (or_assign f_17)
    exact steps_nil
  intro own43 a43 w43 hd43 hz43 hk43 hf43 hE43
  obtain ⟨(f_15 : a43.eval (.tmp 15) = .bool (decide (r37 < 0))), -⟩ := hf43 [2] rfl
  have e43_15 := f_15
  have hX43 := Evo.step hX40 (fun _ => Nat.le_refl 0) hE43 rfl
  refine fl_cond e43_15 hs (fun c44 hs => ?_) (fun c44 hs => ?_)
  · refine rg_plain_seq (n := 18) (rs := []) (own0 := own43) (K := [])
        (bs := [0])
        (ds := [⟨[], [], [], Fct.val 6 (.int .i64 (-1))⟩]) (by kernel_rfl) hz43 hd43 (fun _ h => nomatch h) ?_ ?_
    · refine steps_cons (fun own a wx hf hsl hE => ?_) ?_
      · exact sg_plain rfl rfl (or_assign rfl)
      exact steps_nil
    intro own45 a45 w45 hd45 hz45 hk45 hf45 hE45
    obtain ⟨(f_6 : a45.eval (.tmp 6) = .int .i64 (-1)), -⟩ := hf45 [0] rfl
    have e45_6 := f_6
    have hX45 := Evo.step hX43 (fun _ => Nat.le_refl 0) hE45 rfl
    refine fl_ret ?_
    refine hp39 _ _ _ rfl ?_
    refine hp36 _ _ _ rfl ?_
    obtain rfl := osome hs
    exact hret _ _ _ _ (.inl rfl) hd45 (results1_ rfl (RVal.tmp_ e45_6)) ⟨own45, rfl, hX45⟩
  refine fl_skip ?_
  refine hn39 _ _ ?_
  refine hn36 _ _ ?_
  refine rg_plain_seq (n := 18) (rs := []) (own0 := own43) (K := [])
      (bs := [0])
      (ds := [⟨[], [], [], Fct.val 6 (.int .i64 0)⟩]) (by kernel_rfl) hz43 hd43 (fun _ h => nomatch h) ?_ ?_
  · refine steps_cons (fun own a wx hf hsl hE => ?_) ?_
    · exact sg_plain rfl rfl (or_assign rfl)
    exact steps_nil
  intro own46 a46 w46 hd46 hz46 hk46 hf46 hE46
  obtain ⟨(f_6 : a46.eval (.tmp 6) = .int .i64 0), -⟩ := hf46 [0] rfl
  have e46_6 := f_6
  have hX46 := Evo.step hX43 (fun _ => Nat.le_refl 0) hE46 rfl
  refine fl_ret ?_
  obtain rfl := osome hs
  exact hret _ _ _ _ (.inl rfl) hd46 (results1_ rfl (RVal.tmp_ e46_6)) ⟨own46, rfl, hX46⟩

theorem exact_Less_w (w : World) (x1 : Int × Int) (b2 : Int × Int) (r : Bool) (hs : exact_Less x1 b2 = some r) :
    Calls Try.prog 48 #[.agg #[.int .i64 x1.1, .int .i64 x1.2], .agg #[.int .i64 b2.1, .int .i64 b2.2]] w fun e w' => ∃ own' : Own, e = .returned (.bool r) ∧ Evo [] (fun _ => 0) own' w w' := by
  refine fl_enter (n := 24) rfl rfl rfl (Nat.le_of_ble_eq_true rfl) ?_
  intro a0 Q hd0 hz0 harg hret
  have ha0 := harg 0 _ rfl
  have ha1 := harg 1 _ rfl
  clear harg
  have hE0 : Evo [] (fun _ => 0) (fun _ => 0) w w := Evo.refl _ _ _
  refine rg_plain_seq (n := 24) (rs := []) (own0 := (fun _ => 0)) (K := [])
      (bs := [0, 0, 0])
      (ds := [⟨[], [0], [], Fct.blk 19 2 (fun g => .pointer (some ⟨g, 0, none⟩)) 32 #[.int .i64 x1.1, .int .i64 x1.2]⟩,
      ⟨[], [1], [], Fct.blk 21 3 (fun g => .pointer (some ⟨g, 0, none⟩)) 32 #[.int .i64 b2.1, .int .i64 b2.2]⟩,
      ⟨[], [], [], Fct.val 4 (.bool false)⟩]) (by kernel_rfl) hz0 hd0 (fun _ h => nomatch h) ?_ ?_
  · refine steps_cons (fun own a wx hf hsl hE => ?_) ?_
    · obtain ⟨s_0, -⟩ := hsl
      exact sg_plain rfl rfl (or_new [(0, .agg #[.int .i64 x1.1, .int .i64 x1.2])] rfl rfl ⟨(s_0.trans ha0), trivial⟩ (by kernel_rfl))
    refine steps_cons (fun own a wx hf hsl hE => ?_) ?_
    · obtain ⟨s_1, -⟩ := hsl
      exact sg_plain rfl rfl (or_new [(1, .agg #[.int .i64 b2.1, .int .i64 b2.2])] rfl rfl ⟨(s_1.trans ha1), trivial⟩ (by kernel_rfl))
    refine steps_cons (fun own a wx hf hsl hE => ?_) ?_
    · exact sg_plain rfl rfl (or_assign rfl)
    exact steps_nil
  intro own22 a22 w22 hd22 hz22 hk22 hf22 hE22
  obtain ⟨⟨g18, (f_2 : a22.eval (.tmp 2) = .pointer (some ⟨g18, 0, none⟩)), (b_g18 : BlkO own22 19 w22 g18 32 #[.int .i64 x1.1, .int .i64 x1.2])⟩, ⟨g20, (f_3 : a22.eval (.tmp 3) = .pointer (some ⟨g20, 0, none⟩)), (b_g20 : BlkO own22 21 w22 g20 32 #[.int .i64 b2.1, .int .i64 b2.2])⟩, -⟩ := hf22 [0, 1] rfl
  have e22_2 := f_2
  have e22_3 := f_3
  have hX22 := Evo.step hE0 (fun _ => Nat.le_refl 0) hE22 rfl
  have b22_g18 := b_g18
  have b22_g20 := b_g20
  obtain ⟨x23, hx23, hs⟩ := obind hs
  refine rg_plain_seq (n := 24) (rs := []) (own0 := own22) (K := [])
      (bs := [0, 1, 0, 4, 15, 31, 63, 127, 63, 319, 1023, 2047, 4095, 8191, 4095, 20479, 65535, 131071, 262143, 524287])
      (ds := [⟨[], [2], [], Fct.val 5 (.pointer (some ⟨g18, 0, none⟩))⟩,
      ⟨[0], [], [], Fct.val 6 (.int .i64 x1.1)⟩,
      ⟨[], [3], [], Fct.val 7 (.pointer (some ⟨g20, 0, none⟩))⟩,
      ⟨[2], [], [], Fct.val 8 (.int .i64 b2.1)⟩,
      ⟨[1, 3], [], [], Fct.val 9 (.bool (decide (x1.1 < b2.1)))⟩,
      ⟨[4], [], [], Fct.val 10 (.bool (decide (x1.1 < b2.1)))⟩,
      ⟨[5], [2], [], Fct.cond (!(decide (x1.1 < b2.1))) (some 11) (Fct.val 11 (.pointer (some ⟨g18, 0, none⟩)))⟩,
      ⟨[5, 6], [], [], Fct.cond (!(decide (x1.1 < b2.1))) (some 12) (Fct.val 12 (.int .i64 x1.1))⟩,
      ⟨[5], [3], [], Fct.cond (!(decide (x1.1 < b2.1))) (some 13) (Fct.val 13 (.pointer (some ⟨g20, 0, none⟩)))⟩,
      ⟨[5, 8], [], [], Fct.cond (!(decide (x1.1 < b2.1))) (some 14) (Fct.val 14 (.int .i64 b2.1))⟩,
      ⟨[5, 7, 9], [], [], Fct.cond (!(decide (x1.1 < b2.1))) (some 15) (Fct.val 15 (.bool (decide (x1.1 = b2.1))))⟩,
      ⟨[5, 10], [], [], Fct.cond (!(decide (x1.1 < b2.1))) (some 16) (Fct.val 16 (.bool (decide (x1.1 = b2.1))))⟩,
      ⟨[11], [2], [], Fct.cond ((!(decide (x1.1 < b2.1))) && (decide (x1.1 = b2.1))) (some 17) (Fct.val 17 (.pointer (some ⟨g18, 1, none⟩)))⟩,
      ⟨[11, 12], [], [], Fct.cond ((!(decide (x1.1 < b2.1))) && (decide (x1.1 = b2.1))) (some 18) (Fct.val 18 (.int .i64 x1.2))⟩,
      ⟨[11], [3], [], Fct.cond ((!(decide (x1.1 < b2.1))) && (decide (x1.1 = b2.1))) (some 19) (Fct.val 19 (.pointer (some ⟨g20, 1, none⟩)))⟩,
      ⟨[11, 14], [], [], Fct.cond ((!(decide (x1.1 < b2.1))) && (decide (x1.1 = b2.1))) (some 20) (Fct.val 20 (.int .i64 b2.2))⟩,
      ⟨[11, 13, 15], [], [], Fct.cond ((!(decide (x1.1 < b2.1))) && (decide (x1.1 = b2.1))) (some 21) (Fct.val 21 (.bool (decide (x1.2 < b2.2))))⟩,
      ⟨[5, 11, 16], [], [], Fct.cond (!(decide (x1.1 < b2.1))) (some 22) (Fct.val 22 (.bool x23))⟩,
      ⟨[5, 17], [], [], Fct.val 23 (.bool ((decide (x1.1 < b2.1)) || x23))⟩,
      ⟨[18], [], [], Fct.val 4 (.bool ((decide (x1.1 < b2.1)) || x23))⟩]) (by kernel_rfl) hz22 hd22 (fun _ h => nomatch h) ?_ ?_
  · refine steps_cons (fun own a wx hf hsl hE => ?_) ?_
    · obtain ⟨s_2, -⟩ := hsl
      exact sg_plain rfl rfl (or_field fo32_0 (s_2.trans e22_2) (by rfl))
    refine steps_cons (fun own a wx hf hsl hE => ?_) ?_
    · obtain ⟨(f_5 : a.eval (.tmp 5) = .pointer (some ⟨g18, 0, none⟩)), -⟩ := hf
      exact sg_plain rfl rfl (or_load1 to3 f_5 (Blk.at_ (BlkO.evo (by decide) hE b22_g18).2 0 rfl))
    refine steps_cons (fun own a wx hf hsl hE => ?_) ?_
    · obtain ⟨s_3, -⟩ := hsl
      exact sg_plain rfl rfl (or_field fo32_0 (s_3.trans e22_3) (by rfl))
    refine steps_cons (fun own a wx hf hsl hE => ?_) ?_
    · obtain ⟨(f_7 : a.eval (.tmp 7) = .pointer (some ⟨g20, 0, none⟩)), -⟩ := hf
      exact sg_plain rfl rfl (or_load1 to3 f_7 (Blk.at_ (BlkO.evo (by decide) hE b22_g20).2 0 rfl))
    refine steps_cons (fun own a wx hf hsl hE => ?_) ?_
    · obtain ⟨(f_6 : a.eval (.tmp 6) = .int .i64 x1.1), (f_8 : a.eval (.tmp 8) = .int .i64 b2.1), -⟩ := hf
      exact sg_plain rfl rfl (or_lss f_6 f_8 rfl)
    refine steps_cons (fun own a wx hf hsl hE => ?_) ?_
    · obtain ⟨(f_9 : a.eval (.tmp 9) = .bool (decide (x1.1 < b2.1))), -⟩ := hf
      exact sg_plain rfl rfl (or_move f_9)
    refine steps_cons (fun own a wx hf hsl hE => ?_) ?_
    · obtain ⟨(f_10 : a.eval (.tmp 10) = .bool (decide (x1.1 < b2.1))), -⟩ := hf
      obtain ⟨s_2, -⟩ := hsl
      refine sg_f rfl rfl rfl f_10 (fun hg => ?_)
      exact or_field fo32_0 (s_2.trans e22_2) (by rfl)
    refine steps_cons (fun own a wx hf hsl hE => ?_) ?_
    · obtain ⟨(f_10 : a.eval (.tmp 10) = .bool (decide (x1.1 < b2.1))), c_11, -⟩ := hf
      refine sg_f rfl rfl rfl f_10 (fun hg => ?_)
      have f_11 : a.eval (.tmp 11) = .pointer (some ⟨g18, 0, none⟩) := c_11.1 hg
      exact or_load1 to3 f_11 (Blk.at_ (BlkO.evo (by decide) hE b22_g18).2 0 rfl)
    refine steps_cons (fun own a wx hf hsl hE => ?_) ?_
    · obtain ⟨(f_10 : a.eval (.tmp 10) = .bool (decide (x1.1 < b2.1))), -⟩ := hf
      obtain ⟨s_3, -⟩ := hsl
      refine sg_f rfl rfl rfl f_10 (fun hg => ?_)
      exact or_field fo32_0 (s_3.trans e22_3) (by rfl)
    refine steps_cons (fun own a wx hf hsl hE => ?_) ?_
    · obtain ⟨(f_10 : a.eval (.tmp 10) = .bool (decide (x1.1 < b2.1))), c_13, -⟩ := hf
      refine sg_f rfl rfl rfl f_10 (fun hg => ?_)
      have f_13 : a.eval (.tmp 13) = .pointer (some ⟨g20, 0, none⟩) := c_13.1 hg
      exact or_load1 to3 f_13 (Blk.at_ (BlkO.evo (by decide) hE b22_g20).2 0 rfl)
    refine steps_cons (fun own a wx hf hsl hE => ?_) ?_
    · obtain ⟨(f_10 : a.eval (.tmp 10) = .bool (decide (x1.1 < b2.1))), c_12, c_14, -⟩ := hf
      refine sg_f rfl rfl rfl f_10 (fun hg => ?_)
      have f_12 : a.eval (.tmp 12) = .int .i64 x1.1 := c_12.1 hg
      have f_14 : a.eval (.tmp 14) = .int .i64 b2.1 := c_14.1 hg
      exact or_eql f_12 f_14 rfl
    refine steps_cons (fun own a wx hf hsl hE => ?_) ?_
    · obtain ⟨(f_10 : a.eval (.tmp 10) = .bool (decide (x1.1 < b2.1))), c_15, -⟩ := hf
      refine sg_f rfl rfl rfl f_10 (fun hg => ?_)
      have f_15 : a.eval (.tmp 15) = .bool (decide (x1.1 = b2.1)) := c_15.1 hg
      exact or_move f_15
    refine steps_cons (fun own a wx hf hsl hE => ?_) ?_
    · obtain ⟨c_16, -⟩ := hf
      obtain ⟨s_2, -⟩ := hsl
      refine sg_tc rfl rfl rfl c_16 (fun hg => ?_)
      have f_16 : a.eval (.tmp 16) = .bool (decide (x1.1 = b2.1)) := c_16.1 (gL hg)
      exact or_field fo32_1 (s_2.trans e22_2) (by rfl)
    refine steps_cons (fun own a wx hf hsl hE => ?_) ?_
    · obtain ⟨c_16, c_17, -⟩ := hf
      refine sg_tc rfl rfl rfl c_16 (fun hg => ?_)
      have f_16 : a.eval (.tmp 16) = .bool (decide (x1.1 = b2.1)) := c_16.1 (gL hg)
      have f_17 : a.eval (.tmp 17) = .pointer (some ⟨g18, 1, none⟩) := c_17.1 hg
      exact or_load1 to3 f_17 (Blk.at_ (BlkO.evo (by decide) hE b22_g18).2 1 rfl)
    refine steps_cons (fun own a wx hf hsl hE => ?_) ?_
    · obtain ⟨c_16, -⟩ := hf
      obtain ⟨s_3, -⟩ := hsl
      refine sg_tc rfl rfl rfl c_16 (fun hg => ?_)
      have f_16 : a.eval (.tmp 16) = .bool (decide (x1.1 = b2.1)) := c_16.1 (gL hg)
      exact or_field fo32_1 (s_3.trans e22_3) (by rfl)
    refine steps_cons (fun own a wx hf hsl hE => ?_) ?_
    · obtain ⟨c_16, c_19, -⟩ := hf
      refine sg_tc rfl rfl rfl c_16 (fun hg => ?_)
      have f_16 : a.eval (.tmp 16) = .bool (decide (x1.1 = b2.1)) := c_16.1 (gL hg)
      have f_19 : a.eval (.tmp 19) = .pointer (some ⟨g20, 1, none⟩) := c_19.1 hg
      exact or_load1 to3 f_19 (Blk.at_ (BlkO.evo (by decide) hE b22_g20).2 1 rfl)
    refine steps_cons (fun own a wx hf hsl hE => ?_) ?_
    · obtain ⟨c_16, c_18, c_20, -⟩ := hf
      refine sg_tc rfl rfl rfl c_16 (fun hg => ?_)
      have f_16 : a.eval (.tmp 16) = .bool (decide (x1.1 = b2.1)) := c_16.1 (gL hg)
      have f_18 : a.eval (.tmp 18) = .int .i64 x1.2 := c_18.1 hg
      have f_20 : a.eval (.tmp 20) = .int .i64 b2.2 := c_20.1 hg
      exact or_lss f_18 f_20 rfl
    refine steps_cons (fun own a wx hf hsl hE => ?_) ?_
    · obtain ⟨(f_10 : a.eval (.tmp 10) = .bool (decide (x1.1 < b2.1))), c_16, c_21, -⟩ := hf
      refine sg_f rfl rfl rfl f_10 (fun hg => ?_)
      have f_16 : a.eval (.tmp 16) = .bool (decide (x1.1 = b2.1)) := c_16.1 hg
      exact or_and f_16 (fun hx => c_21.1 (gI hg hx)) rfl (osome hx23).symm
    refine steps_cons (fun own a wx hf hsl hE => ?_) ?_
    · obtain ⟨(f_10 : a.eval (.tmp 10) = .bool (decide (x1.1 < b2.1))), c_22, -⟩ := hf
      exact sg_plain rfl rfl (or_or f_10 rfl (fun hx => c_22.1 hx) rfl)
    refine steps_cons (fun own a wx hf hsl hE => ?_) ?_
    · obtain ⟨(f_23 : a.eval (.tmp 23) = .bool ((decide (x1.1 < b2.1)) || x23)), -⟩ := hf
      exact sg_plain rfl rfl (or_assign f_23)
    exact steps_nil
  intro own24 a24 w24 hd24 hz24 hk24 hf24 hE24
  obtain ⟨(f_4 : a24.eval (.tmp 4) = .bool ((decide (x1.1 < b2.1)) || x23)), -⟩ := hf24 [19] rfl
  have e24_4 := f_4
  have hX24 := Evo.step hX22 (fun _ => Nat.le_refl 0) hE24 rfl
  refine fl_ret ?_
  obtain rfl := osome hs
  exact hret _ _ _ _ (.inl rfl) hd24 (results1_ rfl (RVal.tmp_ e24_4)) ⟨own24, rfl, hX24⟩

theorem seg_line_w (w : World) (x1 : Int × Int) (b2 : Int × Int) (c3 : Int × Int) (d4 : Int × Int) (r : Int) (hs : seg_line x1 b2 c3 d4 = some r) :
    Calls Try.prog 56 #[.agg #[.int .i64 x1.1, .int .i64 x1.2], .agg #[.int .i64 b2.1, .int .i64 b2.2], .agg #[.int .i64 c3.1, .int .i64 c3.2], .agg #[.int .i64 d4.1, .int .i64 d4.2]] w fun e w' => ∃ own' : Own, e = .returned (.int .i64 r) ∧ Evo [] (fun _ => 0) own' w w' := by
  refine fl_enter (n := 37) rfl rfl rfl (Nat.le_of_ble_eq_true rfl) ?_
  intro a0 Q hd0 hz0 harg hret
  have ha0 := harg 0 _ rfl
  have ha1 := harg 1 _ rfl
  have ha2 := harg 2 _ rfl
  have ha3 := harg 3 _ rfl
  clear harg
  have hE0 : Evo [] (fun _ => 0) (fun _ => 0) w w := Evo.refl _ _ _
  refine rg_plain_seq (n := 37) (rs := []) (own0 := (fun _ => 0)) (K := [])
      (bs := [0, 0, 0, 0, 0])
      (ds := [⟨[], [0], [], Fct.blk 75 4 (fun g => .pointer (some ⟨g, 0, none⟩)) 32 #[.int .i64 x1.1, .int .i64 x1.2]⟩,
      ⟨[], [1], [], Fct.blk 77 5 (fun g => .pointer (some ⟨g, 0, none⟩)) 32 #[.int .i64 b2.1, .int .i64 b2.2]⟩,
      ⟨[], [2], [], Fct.blk 79 6 (fun g => .pointer (some ⟨g, 0, none⟩)) 32 #[.int .i64 c3.1, .int .i64 c3.2]⟩,
      ⟨[], [3], [], Fct.blk 81 7 (fun g => .pointer (some ⟨g, 0, none⟩)) 32 #[.int .i64 d4.1, .int .i64 d4.2]⟩,
      ⟨[], [], [], Fct.val 8 (.int .i64 0)⟩]) (by kernel_rfl) hz0 hd0 (fun _ h => nomatch h) ?_ ?_
  · refine steps_cons (fun own a wx hf hsl hE => ?_) ?_
    · obtain ⟨s_0, -⟩ := hsl
      exact sg_plain rfl rfl (or_new [(0, .agg #[.int .i64 x1.1, .int .i64 x1.2])] rfl rfl ⟨(s_0.trans ha0), trivial⟩ (by kernel_rfl))
    refine steps_cons (fun own a wx hf hsl hE => ?_) ?_
    · obtain ⟨s_1, -⟩ := hsl
      exact sg_plain rfl rfl (or_new [(1, .agg #[.int .i64 b2.1, .int .i64 b2.2])] rfl rfl ⟨(s_1.trans ha1), trivial⟩ (by kernel_rfl))
    refine steps_cons (fun own a wx hf hsl hE => ?_) ?_
    · obtain ⟨s_2, -⟩ := hsl
      exact sg_plain rfl rfl (or_new [(2, .agg #[.int .i64 c3.1, .int .i64 c3.2])] rfl rfl ⟨(s_2.trans ha2), trivial⟩ (by kernel_rfl))
    refine steps_cons (fun own a wx hf hsl hE => ?_) ?_
    · obtain ⟨s_3, -⟩ := hsl
      exact sg_plain rfl rfl (or_new [(3, .agg #[.int .i64 d4.1, .int .i64 d4.2])] rfl rfl ⟨(s_3.trans ha3), trivial⟩ (by kernel_rfl))
    refine steps_cons (fun own a wx hf hsl hE => ?_) ?_
    · exact sg_plain rfl rfl (or_assign rfl)
    exact steps_nil
  intro own82 a82 w82 hd82 hz82 hk82 hf82 hE82
  obtain ⟨⟨g74, (f_4 : a82.eval (.tmp 4) = .pointer (some ⟨g74, 0, none⟩)), (b_g74 : BlkO own82 75 w82 g74 32 #[.int .i64 x1.1, .int .i64 x1.2])⟩, ⟨g76, (f_5 : a82.eval (.tmp 5) = .pointer (some ⟨g76, 0, none⟩)), (b_g76 : BlkO own82 77 w82 g76 32 #[.int .i64 b2.1, .int .i64 b2.2])⟩, ⟨g78, (f_6 : a82.eval (.tmp 6) = .pointer (some ⟨g78, 0, none⟩)), (b_g78 : BlkO own82 79 w82 g78 32 #[.int .i64 c3.1, .int .i64 c3.2])⟩, ⟨g80, (f_7 : a82.eval (.tmp 7) = .pointer (some ⟨g80, 0, none⟩)), (b_g80 : BlkO own82 81 w82 g80 32 #[.int .i64 d4.1, .int .i64 d4.2])⟩, -⟩ := hf82 [0, 1, 2, 3] rfl
  have e82_4 := f_4
  have e82_5 := f_5
  have e82_6 := f_6
  have e82_7 := f_7
  have hX82 := Evo.step hE0 (fun _ => Nat.le_refl 0) hE82 rfl
  have b82_g74 := b_g74
  have b82_g76 := b_g76
  have b82_g78 := b_g78
  have b82_g80 := b_g80
  refine fl_seq (fun Q83 hn83 hp83 => ?_)
  have K95 : ∀ (a95 : Act) (w95 : World) (own95 : Own) (x92 : Int × Int) (b94 : Int × Int), a95.defers = [] → a95.tmps.size = 37 → a95.eval (.tmp 4) = .pointer (some ⟨g74, 0, none⟩) → a95.eval (.tmp 5) = .pointer (some ⟨g76, 0, none⟩) → a95.eval (.tmp 6) = .pointer (some ⟨g78, 0, none⟩) → a95.eval (.tmp 7) = .pointer (some ⟨g80, 0, none⟩) → Evo [] (fun _ => 0) own95 w w95 → BlkO own95 91 w95 g74 32 #[.int .i64 x92.1, .int .i64 x92.2] → BlkO own95 93 w95 g76 32 #[.int .i64 b94.1, .int .i64 b94.2] → BlkO own95 79 w95 g78 32 #[.int .i64 c3.1, .int .i64 c3.2] → BlkO own95 81 w95 g80 32 #[.int .i64 d4.1, .int .i64 d4.2] → seg_line_k1 c3 d4 x92 b94 = some r → Q83 .normal a95 w95 := by
    intro a95 w95 own95 x92 b94 hd96 hz96 e96_4 e96_5 e96_6 e96_7 hE96 b96_g74 b96_g76 b96_g78 b96_g80 hs
    refine hn83 _ _ ?_
    refine fl_seq (fun Q97 hn97 hp97 => ?_)
    have K109 : ∀ (a109 : Act) (w109 : World) (own109 : Own) (c106 : Int × Int) (d108 : Int × Int), a109.defers = [] → a109.tmps.size = 37 → a109.eval (.tmp 4) = .pointer (some ⟨g74, 0, none⟩) → a109.eval (.tmp 5) = .pointer (some ⟨g76, 0, none⟩) → a109.eval (.tmp 6) = .pointer (some ⟨g78, 0, none⟩) → a109.eval (.tmp 7) = .pointer (some ⟨g80, 0, none⟩) → Evo [] (fun _ => 0) own109 w w109 → BlkO own109 91 w109 g74 32 #[.int .i64 x92.1, .int .i64 x92.2] → BlkO own109 93 w109 g76 32 #[.int .i64 b94.1, .int .i64 b94.2] → BlkO own109 105 w109 g78 32 #[.int .i64 c106.1, .int .i64 c106.2] → BlkO own109 107 w109 g80 32 #[.int .i64 d108.1, .int .i64 d108.2] → seg_line_k2 x92 b94 c106 d108 = some r → Q97 .normal a109 w109 := by
      intro a109 w109 own109 c106 d108 hd110 hz110 e110_4 e110_5 e110_6 e110_7 hE110 b110_g74 b110_g76 b110_g78 b110_g80 hs
      refine hn97 _ _ ?_
      refine fl_seq (fun Q111 hn111 hp111 => ?_)
      refine fl_block (fun Q112 hn112 hx112 hp112 => ?_)
      obtain ⟨r113, hr113, hs⟩ := obind hs
      obtain ⟨r114, hr114, hs⟩ := obind hs
      refine rg_plain_seq (n := 37) (rs := []) (own0 := own109) (K := [])
          (bs := [0, 0, 3, 7, 15, 15, 63, 127, 255])
          (ds := [⟨[], [5], [], Fct.val 20 (.agg #[.int .i64 b94.1, .int .i64 b94.2])⟩,
          ⟨[], [6], [], Fct.val 21 (.agg #[.int .i64 c106.1, .int .i64 c106.2])⟩,
          ⟨[0, 1], [], [], Fct.val 22 (.bool r113)⟩,
          ⟨[2], [], [], Fct.val 23 (.bool r113)⟩,
          ⟨[3], [7], [], Fct.cond (!r113) (some 24) (Fct.val 24 (.agg #[.int .i64 d108.1, .int .i64 d108.2]))⟩,
          ⟨[3], [4], [], Fct.cond (!r113) (some 25) (Fct.val 25 (.agg #[.int .i64 x92.1, .int .i64 x92.2]))⟩,
          ⟨[3, 4, 5], [], [], Fct.cond (!r113) (some 26) (Fct.val 26 (.bool r114))⟩,
          ⟨[3, 6], [], [], Fct.val 27 (.bool (r113 || r114))⟩,
          ⟨[7], [], [], Fct.val 19 (.bool (r113 || r114))⟩]) (by kernel_rfl) hz110 hd110 (fun _ h => nomatch h) ?_ ?_
      · refine steps_cons (fun own a wx hf hsl hE => ?_) ?_
        · obtain ⟨s_5, -⟩ := hsl
          exact sg_plain rfl rfl (or_load (l := [.int .i64 b94.1, .int .i64 b94.2]) ta32 (s_5.trans e110_5) (Blk.cellsFrom (BlkO.evo (by decide) hE b110_g76).2 0 rfl) rfl)
        refine steps_cons (fun own a wx hf hsl hE => ?_) ?_
        · obtain ⟨s_6, -⟩ := hsl
          exact sg_plain rfl rfl (or_load (l := [.int .i64 c106.1, .int .i64 c106.2]) ta32 (s_6.trans e110_6) (Blk.cellsFrom (BlkO.evo (by decide) hE b110_g78).2 0 rfl) rfl)
        refine steps_cons (fun own a wx hf hsl hE => ?_) ?_
        · obtain ⟨(f_20 : a.eval (.tmp 20) = .agg #[.int .i64 b94.1, .int .i64 b94.2]), (f_21 : a.eval (.tmp 21) = .agg #[.int .i64 c106.1, .int .i64 c106.2]), -⟩ := hf
          exact sg_plain rfl rfl (or_call cf48 (args2 f_20 f_21) (exact_Less_w _ b94 c106  r113 hr113) post_val)
        refine steps_cons (fun own a wx hf hsl hE => ?_) ?_
        · obtain ⟨(f_22 : a.eval (.tmp 22) = .bool r113), -⟩ := hf
          exact sg_plain rfl rfl (or_move f_22)
        refine steps_cons (fun own a wx hf hsl hE => ?_) ?_
        · obtain ⟨(f_23 : a.eval (.tmp 23) = .bool r113), -⟩ := hf
          obtain ⟨s_7, -⟩ := hsl
          refine sg_f rfl rfl rfl f_23 (fun hg => ?_)
          exact or_load (l := [.int .i64 d108.1, .int .i64 d108.2]) ta32 (s_7.trans e110_7) (Blk.cellsFrom (BlkO.evo (by decide) hE b110_g80).2 0 rfl) rfl
        refine steps_cons (fun own a wx hf hsl hE => ?_) ?_
        · obtain ⟨(f_23 : a.eval (.tmp 23) = .bool r113), -⟩ := hf
          obtain ⟨s_4, -⟩ := hsl
          refine sg_f rfl rfl rfl f_23 (fun hg => ?_)
          exact or_load (l := [.int .i64 x92.1, .int .i64 x92.2]) ta32 (s_4.trans e110_4) (Blk.cellsFrom (BlkO.evo (by decide) hE b110_g74).2 0 rfl) rfl
        refine steps_cons (fun own a wx hf hsl hE => ?_) ?_
        · obtain ⟨(f_23 : a.eval (.tmp 23) = .bool r113), c_24, c_25, -⟩ := hf
          refine sg_f rfl rfl rfl f_23 (fun hg => ?_)
          have f_24 : a.eval (.tmp 24) = .agg #[.int .i64 d108.1, .int .i64 d108.2] := c_24.1 hg
          have f_25 : a.eval (.tmp 25) = .agg #[.int .i64 x92.1, .int .i64 x92.2] := c_25.1 hg
          exact or_call cf48 (args2 f_24 f_25) (exact_Less_w _ d108 x92  r114 (gd_t hr114 hg)) post_val
        refine steps_cons (fun own a wx hf hsl hE => ?_) ?_
        · obtain ⟨(f_23 : a.eval (.tmp 23) = .bool r113), c_26, -⟩ := hf
          exact sg_plain rfl rfl (or_or f_23 rfl (fun hx => c_26.1 hx) rfl)
        refine steps_cons (fun own a wx hf hsl hE => ?_) ?_
        · obtain ⟨(f_27 : a.eval (.tmp 27) = .bool (r113 || r114)), -⟩ := hf
          exact sg_plain rfl rfl (or_assign f_27)
        exact steps_nil
      intro own115 a115 w115 hd115 hz115 hk115 hf115 hE115
      have e115_4 : a115.eval (.tmp 4) = .pointer (some ⟨g74, 0, none⟩) := (hk115 4 rfl).trans e110_4
      have e115_5 : a115.eval (.tmp 5) = .pointer (some ⟨g76, 0, none⟩) := (hk115 5 rfl).trans e110_5
      have e115_6 : a115.eval (.tmp 6) = .pointer (some ⟨g78, 0, none⟩) := (hk115 6 rfl).trans e110_6
      have e115_7 : a115.eval (.tmp 7) = .pointer (some ⟨g80, 0, none⟩) := (hk115 7 rfl).trans e110_7
      obtain ⟨(f_19 : a115.eval (.tmp 19) = .bool (r113 || r114)), -⟩ := hf115 [8] rfl
      have e115_19 := f_19
      have hX115 := Evo.step hE110 (fun _ => Nat.le_refl 0) hE115 rfl
      have b115_g74 := BlkO.evo (by decide) hE115 b110_g74
      have b115_g76 := BlkO.evo (by decide) hE115 b110_g76
      have b115_g78 := BlkO.evo (by decide) hE115 b110_g78
      have b115_g80 := BlkO.evo (by decide) hE115 b110_g80
      refine fl_cond e115_19 hs (fun c116 hs => ?_) (fun c116 hs => ?_)
      · refine rg_plain_seq (n := 37) (rs := []) (own0 := own115) (K := [])
            (bs := [0])
            (ds := [⟨[], [], [], Fct.val 8 (.int .i64 0)⟩]) (by kernel_rfl) hz115 hd115 (fun _ h => nomatch h) ?_ ?_
        · refine steps_cons (fun own a wx hf hsl hE => ?_) ?_
          · exact sg_plain rfl rfl (or_assign rfl)
          exact steps_nil
        intro own117 a117 w117 hd117 hz117 hk117 hf117 hE117
        obtain ⟨(f_8 : a117.eval (.tmp 8) = .int .i64 0), -⟩ := hf117 [0] rfl
        have e117_8 := f_8
        have hX117 := Evo.step hX115 (fun _ => Nat.le_refl 0) hE117 rfl
        refine fl_ret ?_
        refine hp112 _ _ _ rfl ?_
        refine hp111 _ _ _ rfl ?_
        obtain rfl := osome hs
        exact hret _ _ _ _ (.inl rfl) hd117 (results1_ rfl (RVal.tmp_ e117_8)) ⟨own117, rfl, hX117⟩
      obtain ⟨x118, hx118, hs⟩ := obind hs
      refine rg_plain_seq (n := 37) (rs := []) (own0 := own115) (K := [])
          (bs := [0, 0, 3, 7, 15, 15, 63, 127, 255])
          (ds := [⟨[], [5], [], Fct.val 29 (.agg #[.int .i64 b94.1, .int .i64 b94.2])⟩,
          ⟨[], [6], [], Fct.val 30 (.agg #[.int .i64 c106.1, .int .i64 c106.2])⟩,
          ⟨[0, 1], [], [], Fct.val 31 (.bool (decide (b94 = c106)))⟩,
          ⟨[2], [], [], Fct.val 32 (.bool (decide (b94 = c106)))⟩,
          ⟨[3], [7], [], Fct.cond (!(decide (b94 = c106))) (some 33) (Fct.val 33 (.agg #[.int .i64 d108.1, .int .i64 d108.2]))⟩,
          ⟨[3], [4], [], Fct.cond (!(decide (b94 = c106))) (some 34) (Fct.val 34 (.agg #[.int .i64 x92.1, .int .i64 x92.2]))⟩,
          ⟨[3, 4, 5], [], [], Fct.cond (!(decide (b94 = c106))) (some 35) (Fct.val 35 (.bool (decide (d108 = x92))))⟩,
          ⟨[3, 6], [], [], Fct.val 36 (.bool x118)⟩,
          ⟨[7], [], [], Fct.val 28 (.bool x118)⟩]) (by kernel_rfl) hz115 hd115 (fun _ h => nomatch h) ?_ ?_
      · refine steps_cons (fun own a wx hf hsl hE => ?_) ?_
        · obtain ⟨s_5, -⟩ := hsl
          exact sg_plain rfl rfl (or_load (l := [.int .i64 b94.1, .int .i64 b94.2]) ta32 (s_5.trans e115_5) (Blk.cellsFrom (BlkO.evo (by decide) hE b115_g76).2 0 rfl) rfl)
        refine steps_cons (fun own a wx hf hsl hE => ?_) ?_
        · obtain ⟨s_6, -⟩ := hsl
          exact sg_plain rfl rfl (or_load (l := [.int .i64 c106.1, .int .i64 c106.2]) ta32 (s_6.trans e115_6) (Blk.cellsFrom (BlkO.evo (by decide) hE b115_g78).2 0 rfl) rfl)
        refine steps_cons (fun own a wx hf hsl hE => ?_) ?_
        · obtain ⟨(f_29 : a.eval (.tmp 29) = .agg #[.int .i64 b94.1, .int .i64 b94.2]), (f_30 : a.eval (.tmp 30) = .agg #[.int .i64 c106.1, .int .i64 c106.2]), -⟩ := hf
          exact sg_plain rfl rfl (or_eqlA sg32 f_29 f_30 (se32 b94.1 b94.2 c106.1 c106.2 _) rfl)
        refine steps_cons (fun own a wx hf hsl hE => ?_) ?_
        · obtain ⟨(f_31 : a.eval (.tmp 31) = .bool (decide (b94 = c106))), -⟩ := hf
          exact sg_plain rfl rfl (or_move f_31)
        refine steps_cons (fun own a wx hf hsl hE => ?_) ?_
        · obtain ⟨(f_32 : a.eval (.tmp 32) = .bool (decide (b94 = c106))), -⟩ := hf
          obtain ⟨s_7, -⟩ := hsl
          refine sg_f rfl rfl rfl f_32 (fun hg => ?_)
          exact or_load (l := [.int .i64 d108.1, .int .i64 d108.2]) ta32 (s_7.trans e115_7) (Blk.cellsFrom (BlkO.evo (by decide) hE b115_g80).2 0 rfl) rfl
        refine steps_cons (fun own a wx hf hsl hE => ?_) ?_
        · obtain ⟨(f_32 : a.eval (.tmp 32) = .bool (decide (b94 = c106))), -⟩ := hf
          obtain ⟨s_4, -⟩ := hsl
          refine sg_f rfl rfl rfl f_32 (fun hg => ?_)
          exact or_load (l := [.int .i64 x92.1, .int .i64 x92.2]) ta32 (s_4.trans e115_4) (Blk.cellsFrom (BlkO.evo (by decide) hE b115_g74).2 0 rfl) rfl
        refine steps_cons (fun own a wx hf hsl hE => ?_) ?_
        · obtain ⟨(f_32 : a.eval (.tmp 32) = .bool (decide (b94 = c106))), c_33, c_34, -⟩ := hf
          refine sg_f rfl rfl rfl f_32 (fun hg => ?_)
          have f_33 : a.eval (.tmp 33) = .agg #[.int .i64 d108.1, .int .i64 d108.2] := c_33.1 hg
          have f_34 : a.eval (.tmp 34) = .agg #[.int .i64 x92.1, .int .i64 x92.2] := c_34.1 hg
          exact or_eqlA sg32 f_33 f_34 (se32 d108.1 d108.2 x92.1 x92.2 _) rfl
        refine steps_cons (fun own a wx hf hsl hE => ?_) ?_
        · obtain ⟨(f_32 : a.eval (.tmp 32) = .bool (decide (b94 = c106))), c_35, -⟩ := hf
          exact sg_plain rfl rfl (or_or f_32 rfl (fun hx => c_35.1 hx) (osome hx118).symm)
        refine steps_cons (fun own a wx hf hsl hE => ?_) ?_
        · obtain ⟨(f_36 : a.eval (.tmp 36) = .bool x118), -⟩ := hf
          exact sg_plain rfl rfl (or_assign f_36)
        exact steps_nil
      intro own119 a119 w119 hd119 hz119 hk119 hf119 hE119
      obtain ⟨(f_28 : a119.eval (.tmp 28) = .bool x118), -⟩ := hf119 [8] rfl
      have e119_28 := f_28
      have hX119 := Evo.step hX115 (fun _ => Nat.le_refl 0) hE119 rfl
      refine fl_cond e119_28 hs (fun c120 hs => ?_) (fun c120 hs => ?_)
      · refine rg_plain_seq (n := 37) (rs := []) (own0 := own119) (K := [])
            (bs := [0])
            (ds := [⟨[], [], [], Fct.val 8 (.int .i64 1)⟩]) (by kernel_rfl) hz119 hd119 (fun _ h => nomatch h) ?_ ?_
        · refine steps_cons (fun own a wx hf hsl hE => ?_) ?_
          · exact sg_plain rfl rfl (or_assign rfl)
          exact steps_nil
        intro own121 a121 w121 hd121 hz121 hk121 hf121 hE121
        obtain ⟨(f_8 : a121.eval (.tmp 8) = .int .i64 1), -⟩ := hf121 [0] rfl
        have e121_8 := f_8
        have hX121 := Evo.step hX119 (fun _ => Nat.le_refl 0) hE121 rfl
        refine fl_ret ?_
        refine hp112 _ _ _ rfl ?_
        refine hp111 _ _ _ rfl ?_
        obtain rfl := osome hs
        exact hret _ _ _ _ (.inl rfl) hd121 (results1_ rfl (RVal.tmp_ e121_8)) ⟨own121, rfl, hX121⟩
      refine fl_skip ?_
      refine hn112 _ _ ?_
      refine hn111 _ _ ?_
      refine rg_plain_seq (n := 37) (rs := []) (own0 := own119) (K := [])
          (bs := [0])
          (ds := [⟨[], [], [], Fct.val 8 (.int .i64 4)⟩]) (by kernel_rfl) hz119 hd119 (fun _ h => nomatch h) ?_ ?_
      · refine steps_cons (fun own a wx hf hsl hE => ?_) ?_
        · exact sg_plain rfl rfl (or_assign rfl)
        exact steps_nil
      intro own122 a122 w122 hd122 hz122 hk122 hf122 hE122
      obtain ⟨(f_8 : a122.eval (.tmp 8) = .int .i64 4), -⟩ := hf122 [0] rfl
      have e122_8 := f_8
      have hX122 := Evo.step hX119 (fun _ => Nat.le_refl 0) hE122 rfl
      refine fl_ret ?_
      obtain rfl := osome hs
      exact hret _ _ _ _ (.inl rfl) hd122 (results1_ rfl (RVal.tmp_ e122_8)) ⟨own122, rfl, hX122⟩
    obtain ⟨r123, hr123, hs⟩ := obind hs
    refine rg_plain_seq (n := 37) (rs := []) (own0 := own95) (K := [])
        (bs := [0, 0, 3])
        (ds := [⟨[], [7], [], Fct.val 14 (.agg #[.int .i64 d4.1, .int .i64 d4.2])⟩,
        ⟨[], [6], [], Fct.val 15 (.agg #[.int .i64 c3.1, .int .i64 c3.2])⟩,
        ⟨[0, 1], [], [], Fct.val 16 (.bool r123)⟩]) (by kernel_rfl) hz96 hd96 (fun _ h => nomatch h) ?_ ?_
    · refine steps_cons (fun own a wx hf hsl hE => ?_) ?_
      · obtain ⟨s_7, -⟩ := hsl
        exact sg_plain rfl rfl (or_load (l := [.int .i64 d4.1, .int .i64 d4.2]) ta32 (s_7.trans e96_7) (Blk.cellsFrom (BlkO.evo (by decide) hE b96_g80).2 0 rfl) rfl)
      refine steps_cons (fun own a wx hf hsl hE => ?_) ?_
      · obtain ⟨s_6, -⟩ := hsl
        exact sg_plain rfl rfl (or_load (l := [.int .i64 c3.1, .int .i64 c3.2]) ta32 (s_6.trans e96_6) (Blk.cellsFrom (BlkO.evo (by decide) hE b96_g78).2 0 rfl) rfl)
      refine steps_cons (fun own a wx hf hsl hE => ?_) ?_
      · obtain ⟨(f_14 : a.eval (.tmp 14) = .agg #[.int .i64 d4.1, .int .i64 d4.2]), (f_15 : a.eval (.tmp 15) = .agg #[.int .i64 c3.1, .int .i64 c3.2]), -⟩ := hf
        exact sg_plain rfl rfl (or_call cf48 (args2 f_14 f_15) (exact_Less_w _ d4 c3  r123 hr123) post_val)
      exact steps_nil
    intro own124 a124 w124 hd124 hz124 hk124 hf124 hE124
    have e124_4 : a124.eval (.tmp 4) = .pointer (some ⟨g74, 0, none⟩) := (hk124 4 rfl).trans e96_4
    have e124_5 : a124.eval (.tmp 5) = .pointer (some ⟨g76, 0, none⟩) := (hk124 5 rfl).trans e96_5
    have e124_6 : a124.eval (.tmp 6) = .pointer (some ⟨g78, 0, none⟩) := (hk124 6 rfl).trans e96_6
    have e124_7 : a124.eval (.tmp 7) = .pointer (some ⟨g80, 0, none⟩) := (hk124 7 rfl).trans e96_7
    obtain ⟨(f_16 : a124.eval (.tmp 16) = .bool r123), -⟩ := hf124 [2] rfl
    have e124_16 := f_16
    have hX124 := Evo.step hE96 (fun _ => Nat.le_refl 0) hE124 rfl
    have b124_g74 := BlkO.evo (by decide) hE124 b96_g74
    have b124_g76 := BlkO.evo (by decide) hE124 b96_g76
    have b124_g78 := BlkO.evo (by decide) hE124 b96_g78
    have b124_g80 := BlkO.evo (by decide) hE124 b96_g80
    refine fl_cond e124_16 hs (fun c125 hs => ?_) (fun c125 hs => ?_)
    · refine rg_plain (n := 37) (rs := [Fct.at_ 79 g78 32 #[.int .i64 c3.1, .int .i64 c3.2], Fct.at_ 81 g80 32 #[.int .i64 d4.1, .int .i64 d4.2]]) (own0 := own124) (K := [79, 81])
          (bs := [0, 0, 3, 7])
          (ds := [⟨[5], [7], [], Fct.val 17 (.agg #[.int .i64 d4.1, .int .i64 d4.2])⟩,
          ⟨[4], [6], [], Fct.val 18 (.agg #[.int .i64 c3.1, .int .i64 c3.2])⟩,
          ⟨[0, 4], [6], [79], Fct.at_ 127 g78 32 #[.int .i64 d4.1, .int .i64 d4.2]⟩,
          ⟨[1, 5], [7], [81], Fct.at_ 128 g80 32 #[.int .i64 c3.1, .int .i64 c3.2]⟩]) (by kernel_rfl) hz124 hd124 (by simp only [List.forall_mem_cons]; exact ⟨b124_g78, b124_g80, fun _ h => nomatch h⟩) ?_ ?_
      · refine steps_cons (fun own a wx hf hsl hE => ?_) ?_
        · obtain ⟨(b_g80 : BlkO own 81 wx g80 32 #[.int .i64 d4.1, .int .i64 d4.2]), -⟩ := hf
          obtain ⟨s_7, -⟩ := hsl
          exact sg_plain rfl rfl (or_load (l := [.int .i64 d4.1, .int .i64 d4.2]) ta32 (s_7.trans e124_7) (Blk.cellsFrom b_g80.2 0 rfl) rfl)
        refine steps_cons (fun own a wx hf hsl hE => ?_) ?_
        · obtain ⟨(b_g78 : BlkO own 79 wx g78 32 #[.int .i64 c3.1, .int .i64 c3.2]), -⟩ := hf
          obtain ⟨s_6, -⟩ := hsl
          exact sg_plain rfl rfl (or_load (l := [.int .i64 c3.1, .int .i64 c3.2]) ta32 (s_6.trans e124_6) (Blk.cellsFrom b_g78.2 0 rfl) rfl)
        refine steps_cons (fun own a wx hf hsl hE => ?_) ?_
        · obtain ⟨(f_17 : a.eval (.tmp 17) = .agg #[.int .i64 d4.1, .int .i64 d4.2]), (b_g78 : BlkO own 79 wx g78 32 #[.int .i64 c3.1, .int .i64 c3.2]), -⟩ := hf
          obtain ⟨s_6, -⟩ := hsl
          exact sg_plain rfl rfl (or_store (l := #[.int .i64 d4.1, .int .i64 d4.2]) (lab := 79) (lab2 := 127) ts32 (s_6.trans e124_6) f_17 b_g78 (by simp) (by kernel_rfl) (mem_of rfl) (by decide) (by kernel_rfl) (fun own' a' w' ha hb => hb))
        refine steps_cons (fun own a wx hf hsl hE => ?_) ?_
        · obtain ⟨(f_18 : a.eval (.tmp 18) = .agg #[.int .i64 c3.1, .int .i64 c3.2]), (b_g80 : BlkO own 81 wx g80 32 #[.int .i64 d4.1, .int .i64 d4.2]), -⟩ := hf
          obtain ⟨s_7, -⟩ := hsl
          exact sg_plain rfl rfl (or_store (l := #[.int .i64 c3.1, .int .i64 c3.2]) (lab := 81) (lab2 := 128) ts32 (s_7.trans e124_7) f_18 b_g80 (by simp) (by kernel_rfl) (mem_of rfl) (by decide) (by kernel_rfl) (fun own' a' w' ha hb => hb))
        exact steps_nil
      intro own129 a129 w129 hd129 hz129 hk129 hf129 hE129
      have e129_4 : a129.eval (.tmp 4) = .pointer (some ⟨g74, 0, none⟩) := (hk129 4 rfl).trans e124_4
      have e129_5 : a129.eval (.tmp 5) = .pointer (some ⟨g76, 0, none⟩) := (hk129 5 rfl).trans e124_5
      have e129_6 : a129.eval (.tmp 6) = .pointer (some ⟨g78, 0, none⟩) := (hk129 6 rfl).trans e124_6
      have e129_7 : a129.eval (.tmp 7) = .pointer (some ⟨g80, 0, none⟩) := (hk129 7 rfl).trans e124_7
      obtain ⟨(b_g78 : BlkO own129 127 w129 g78 32 #[.int .i64 d4.1, .int .i64 d4.2]), (b_g80 : BlkO own129 128 w129 g80 32 #[.int .i64 c3.1, .int .i64 c3.2]), -⟩ := hf129 [2, 3] rfl
      have hX129 := Evo.step hX124 (fun _ => Nat.le_refl 0) hE129 rfl
      have b129_g74 := BlkO.evo (by decide) hE129 b124_g74
      have b129_g76 := BlkO.evo (by decide) hE129 b124_g76
      have b129_g78 := b_g78
      have b129_g80 := b_g80
      exact (K109 _ _ (rl [(127, 105), (128, 107)] own129) d4 c3 hd129 hz129 e129_4 e129_5 e129_6 e129_7 (Evo.rl_ hX129 (fun _ => Nat.le_refl 0) rfl) (BlkO.rl_ (mm := [(127, 105), (128, 107)]) b129_g74) (BlkO.rl_ (mm := [(127, 105), (128, 107)]) b129_g76) (BlkO.rl_ (mm := [(127, 105), (128, 107)]) b129_g78) (BlkO.rl_ (mm := [(127, 105), (128, 107)]) b129_g80) hs)
    refine fl_skip ?_
    exact (K109 _ _ (rl [(79, 105), (81, 107)] own124) c3 d4 hd124 hz124 e124_4 e124_5 e124_6 e124_7 (Evo.rl_ hX124 (fun _ => Nat.le_refl 0) rfl) (BlkO.rl_ (mm := [(79, 105), (81, 107)]) b124_g74) (BlkO.rl_ (mm := [(79, 105), (81, 107)]) b124_g76) (BlkO.rl_ (mm := [(79, 105), (81, 107)]) b124_g78) (BlkO.rl_ (mm := [(79, 105), (81, 107)]) b124_g80) hs)
  obtain ⟨r130, hr130, hs⟩ := obind hs
  refine rg_plain_seq (n := 37) (rs := []) (own0 := own82) (K := [])
      (bs := [0, 0, 3])
      (ds := [⟨[], [5], [], Fct.val 9 (.agg #[.int .i64 b2.1, .int .i64 b2.2])⟩,
      ⟨[], [4], [], Fct.val 10 (.agg #[.int .i64 x1.1, .int .i64 x1.2])⟩,
      ⟨[0, 1], [], [], Fct.val 11 (.bool r130)⟩]) (by kernel_rfl) hz82 hd82 (fun _ h => nomatch h) ?_ ?_
  · refine steps_cons (fun own a wx hf hsl hE => ?_) ?_
    · obtain ⟨s_5, -⟩ := hsl
      exact sg_plain rfl rfl (or_load (l := [.int .i64 b2.1, .int .i64 b2.2]) ta32 (s_5.trans e82_5) (Blk.cellsFrom (BlkO.evo (by decide) hE b82_g76).2 0 rfl) rfl)
    refine steps_cons (fun own a wx hf hsl hE => ?_) ?_
    · obtain ⟨s_4, -⟩ := hsl
      exact sg_plain rfl rfl (or_load (l := [.int .i64 x1.1, .int .i64 x1.2]) ta32 (s_4.trans e82_4) (Blk.cellsFrom (BlkO.evo (by decide) hE b82_g74).2 0 rfl) rfl)
    refine steps_cons (fun own a wx hf hsl hE => ?_) ?_
    · obtain ⟨(f_9 : a.eval (.tmp 9) = .agg #[.int .i64 b2.1, .int .i64 b2.2]), (f_10 : a.eval (.tmp 10) = .agg #[.int .i64 x1.1, .int .i64 x1.2]), -⟩ := hf
      exact sg_plain rfl rfl (or_call cf48 (args2 f_9 f_10) (exact_Less_w _ b2 x1  r130 hr130) post_val)
    exact steps_nil
  intro own131 a131 w131 hd131 hz131 hk131 hf131 hE131
  have e131_4 : a131.eval (.tmp 4) = .pointer (some ⟨g74, 0, none⟩) := (hk131 4 rfl).trans e82_4
  have e131_5 : a131.eval (.tmp 5) = .pointer (some ⟨g76, 0, none⟩) := (hk131 5 rfl).trans e82_5
  have e131_6 : a131.eval (.tmp 6) = .pointer (some ⟨g78, 0, none⟩) := (hk131 6 rfl).trans e82_6
  have e131_7 : a131.eval (.tmp 7) = .pointer (some ⟨g80, 0, none⟩) := (hk131 7 rfl).trans e82_7
  obtain ⟨(f_11 : a131.eval (.tmp 11) = .bool r130), -⟩ := hf131 [2] rfl
  have e131_11 := f_11
  have hX131 := Evo.step hX82 (fun _ => Nat.le_refl 0) hE131 rfl
  have b131_g74 := BlkO.evo (by decide) hE131 b82_g74
  have b131_g76 := BlkO.evo (by decide) hE131 b82_g76
  have b131_g78 := BlkO.evo (by decide) hE131 b82_g78
  have b131_g80 := BlkO.evo (by decide) hE131 b82_g80
  refine fl_cond e131_11 hs (fun c132 hs => ?_) (fun c132 hs => ?_)
  · refine rg_plain (n := 37) (rs := [Fct.at_ 75 g74 32 #[.int .i64 x1.1, .int .i64 x1.2], Fct.at_ 77 g76 32 #[.int .i64 b2.1, .int .i64 b2.2]]) (own0 := own131) (K := [75, 77])
        (bs := [0, 0, 3, 7])
        (ds := [⟨[5], [5], [], Fct.val 12 (.agg #[.int .i64 b2.1, .int .i64 b2.2])⟩,
        ⟨[4], [4], [], Fct.val 13 (.agg #[.int .i64 x1.1, .int .i64 x1.2])⟩,
        ⟨[0, 4], [4], [75], Fct.at_ 134 g74 32 #[.int .i64 b2.1, .int .i64 b2.2]⟩,
        ⟨[1, 5], [5], [77], Fct.at_ 135 g76 32 #[.int .i64 x1.1, .int .i64 x1.2]⟩]) (by kernel_rfl) hz131 hd131 (by simp only [List.forall_mem_cons]; exact ⟨b131_g74, b131_g76, fun _ h => nomatch h⟩) ?_ ?_
    · refine steps_cons (fun own a wx hf hsl hE => ?_) ?_
      · obtain ⟨(b_g76 : BlkO own 77 wx g76 32 #[.int .i64 b2.1, .int .i64 b2.2]), -⟩ := hf
        obtain ⟨s_5, -⟩ := hsl
        exact sg_plain rfl rfl (or_load (l := [.int .i64 b2.1, .int .i64 b2.2]) ta32 (s_5.trans e131_5) (Blk.cellsFrom b_g76.2 0 rfl) rfl)
      refine steps_cons (fun own a wx hf hsl hE => ?_) ?_
      · obtain ⟨(b_g74 : BlkO own 75 wx g74 32 #[.int .i64 x1.1, .int .i64 x1.2]), -⟩ := hf
        obtain ⟨s_4, -⟩ := hsl
        exact sg_plain rfl rfl (or_load (l := [.int .i64 x1.1, .int .i64 x1.2]) ta32 (s_4.trans e131_4) (Blk.cellsFrom b_g74.2 0 rfl) rfl)
      refine steps_cons (fun own a wx hf hsl hE => ?_) ?_
      · obtain ⟨(f_12 : a.eval (.tmp 12) = .agg #[.int .i64 b2.1, .int .i64 b2.2]), (b_g74 : BlkO own 75 wx g74 32 #[.int .i64 x1.1, .int .i64 x1.2]), -⟩ := hf
        obtain ⟨s_4, -⟩ := hsl
        exact sg_plain rfl rfl (or_store (l := #[.int .i64 b2.1, .int .i64 b2.2]) (lab := 75) (lab2 := 134) ts32 (s_4.trans e131_4) f_12 b_g74 (by simp) (by kernel_rfl) (mem_of rfl) (by decide) (by kernel_rfl) (fun own' a' w' ha hb => hb))
      refine steps_cons (fun own a wx hf hsl hE => ?_) ?_
      · obtain ⟨(f_13 : a.eval (.tmp 13) = .agg #[.int .i64 x1.1, .int .i64 x1.2]), (b_g76 : BlkO own 77 wx g76 32 #[.int .i64 b2.1, .int .i64 b2.2]), -⟩ := hf
        obtain ⟨s_5, -⟩ := hsl
        exact sg_plain rfl rfl (or_store (l := #[.int .i64 x1.1, .int .i64 x1.2]) (lab := 77) (lab2 := 135) ts32 (s_5.trans e131_5) f_13 b_g76 (by simp) (by kernel_rfl) (mem_of rfl) (by decide) (by kernel_rfl) (fun own' a' w' ha hb => hb))
      exact steps_nil
    intro own136 a136 w136 hd136 hz136 hk136 hf136 hE136
    have e136_4 : a136.eval (.tmp 4) = .pointer (some ⟨g74, 0, none⟩) := (hk136 4 rfl).trans e131_4
    have e136_5 : a136.eval (.tmp 5) = .pointer (some ⟨g76, 0, none⟩) := (hk136 5 rfl).trans e131_5
    have e136_6 : a136.eval (.tmp 6) = .pointer (some ⟨g78, 0, none⟩) := (hk136 6 rfl).trans e131_6
    have e136_7 : a136.eval (.tmp 7) = .pointer (some ⟨g80, 0, none⟩) := (hk136 7 rfl).trans e131_7
    obtain ⟨(b_g74 : BlkO own136 134 w136 g74 32 #[.int .i64 b2.1, .int .i64 b2.2]), (b_g76 : BlkO own136 135 w136 g76 32 #[.int .i64 x1.1, .int .i64 x1.2]), -⟩ := hf136 [2, 3] rfl
    have hX136 := Evo.step hX131 (fun _ => Nat.le_refl 0) hE136 rfl
    have b136_g78 := BlkO.evo (by decide) hE136 b131_g78
    have b136_g80 := BlkO.evo (by decide) hE136 b131_g80
    have b136_g74 := b_g74
    have b136_g76 := b_g76
    exact (K95 _ _ (rl [(134, 91), (135, 93)] own136) b2 x1 hd136 hz136 e136_4 e136_5 e136_6 e136_7 (Evo.rl_ hX136 (fun _ => Nat.le_refl 0) rfl) (BlkO.rl_ (mm := [(134, 91), (135, 93)]) b136_g74) (BlkO.rl_ (mm := [(134, 91), (135, 93)]) b136_g76) (BlkO.rl_ (mm := [(134, 91), (135, 93)]) b136_g78) (BlkO.rl_ (mm := [(134, 91), (135, 93)]) b136_g80) hs)
  refine fl_skip ?_
  exact (K95 _ _ (rl [(75, 91), (77, 93)] own131) x1 b2 hd131 hz131 e131_4 e131_5 e131_6 e131_7 (Evo.rl_ hX131 (fun _ => Nat.le_refl 0) rfl) (BlkO.rl_ (mm := [(75, 91), (77, 93)]) b131_g74) (BlkO.rl_ (mm := [(75, 91), (77, 93)]) b131_g76) (BlkO.rl_ (mm := [(75, 91), (77, 93)]) b131_g78) (BlkO.rl_ (mm := [(75, 91), (77, 93)]) b131_g80) hs)

end Go.Proofs.Ythkmkmkcnljmaaa
