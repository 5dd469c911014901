/-
  Chapter 22. The walks.
-/
import Derived.Test.YthjcpojcpafbjaaOwn
import Derived.Test.YthjcpojcpafbjaaTy
import Derived.Test.YthjcpojcpafbjaaSp1
namespace Go.Proofs.Ythjcpojcpafbjaa
open Go.RowKit
set_option linter.unusedVariables false
theorem law03_Cut_w (w : World) (own : Own) (l1 : List (Int × Int)) (Al1 : Option Addr) (cl1 : Nat) (hown : ∀ b, own b ≤ 1) (hl1 : RdO own [1] w R34 Al1 cl1 l1) (r : List (Int × Int)) (hs : law03_Cut l1 = some r) :
    Calls Try.prog 7 #[.slice Al1 l1.length cl1] w fun e w' => ∃ (own' : Own) (x : Option Addr × Nat), e = .returned (.slice x.1 r.length x.2) ∧ Evo [] own own' w w' ∧ RdO own' [1, 2] w' R34 x.1 x.2 r := by
  refine fl_enter (n := 8) rfl rfl rfl (Nat.le_of_ble_eq_true rfl) ?_
  intro a0 Q hd0 hz0 harg hret
  have ha0 := harg 0 _ rfl
  clear harg
  have hE0 : Evo [] own own w w := Evo.refl _ _ _
  refine rg_plain_seq (n := 8) (rs := []) (own0 := own) (K := [])
      (bs := [0])
      (ds := [⟨[], [], [], Fct.val 2 (.slice none 0 0)⟩]) (by kernel_rfl) hz0 hd0 (fun _ h => nomatch h) ?_ ?_
  · refine steps_cons (fun own a wx hf hsl hE => ?_) ?_
    · exact sg_plain rfl rfl (or_assign rfl)
    exact steps_nil
  intro own16 a16 w16 hd16 hz16 hk16 hf16 hE16
  have e16_0 : a16.eval (.tmp 0) = .slice Al1 l1.length cl1 := (hk16 0 rfl).trans ha0
  have hX16 := Evo.step hE0 hown hE16 rfl
  have b16_Al1 := RdO.evo rfl hE16 hl1
  obtain ⟨x17, hx17, hs⟩ := obind hs
  refine rg_plain_seq (n := 8) (rs := []) (own0 := own16) (K := [])
      (bs := [0, 0, 2, 6, 15, 31])
      (ds := [⟨[], [0], [], Fct.val 3 (.slice Al1 l1.length cl1)⟩,
      ⟨[], [0], [], Fct.val 4 (.slice Al1 l1.length cl1)⟩,
      ⟨[1], [], [], Fct.val 5 (.int .i64 (l1.length : Int))⟩,
      ⟨[2], [], [], Fct.val 6 (.int .i64 (mn (l1.length : Int) 40))⟩,
      ⟨[0, 3], [], [], Fct.view [1] 7 R34 x17⟩,
      ⟨[4], [], [], Fct.rel [2, 7] (fun l => ∀ (A18 : Option Addr) (cA18 : Nat), l.getD 1 undef = .slice A18 x17.length cA18 → l.getD 0 undef = .slice A18 x17.length cA18)⟩]) (by kernel_rfl) hz16 hd16 (fun _ h => nomatch h) ?_ ?_
  · refine steps_cons (fun own a wx hf hsl hE => ?_) ?_
    · obtain ⟨s_0, -⟩ := hsl
      exact sg_plain rfl rfl (or_move (s_0.trans e16_0))
    refine steps_cons (fun own a wx hf hsl hE => ?_) ?_
    · obtain ⟨s_0, -⟩ := hsl
      exact sg_plain rfl rfl (or_move (s_0.trans e16_0))
    refine steps_cons (fun own a wx hf hsl hE => ?_) ?_
    · obtain ⟨(f_4 : a.eval (.tmp 4) = .slice Al1 l1.length cl1), -⟩ := hf
      exact sg_plain rfl rfl (or_len tu24 f_4 rfl)
    refine steps_cons (fun own a wx hf hsl hE => ?_) ?_
    · obtain ⟨(f_5 : a.eval (.tmp 5) = .int .i64 (l1.length : Int)), -⟩ := hf
      exact sg_plain rfl rfl (or_min f_5 rfl)
    refine steps_cons (fun own a wx hf hsl hE => ?_) ?_
    · obtain ⟨(f_3 : a.eval (.tmp 3) = .slice Al1 l1.length cl1), (f_6 : a.eval (.tmp 6) = .int .i64 (mn (l1.length : Int) 40)), -⟩ := hf
      exact sg_plain rfl rfl (or_view (R := R34) (l := l1) (L := [1]) tu24 ts34 f_3 Bnd.none_ (Bnd.some_ f_6) Bnd.none_ (RdO.evo rfl hE b16_Al1) hx17 (.inl rfl) (by simp))
    refine steps_cons (fun own a wx hf hsl hE => ?_) ?_
    · obtain ⟨⟨⟨A18, cA18⟩, (f_7 : a.eval (.tmp 7) = .slice A18 x17.length cA18), (b_A18 : RdO own [1] wx R34 A18 cA18 x17)⟩, -⟩ := hf
      exact sg_plain rfl rfl (or_mono (f := Fct.val 2 (.slice A18 x17.length cA18)) (or_assign f_7) (fun own' a' w' v' hp h => fun _ _ h0' => by cases (f_7.symm.trans ((hp.2 7 (by decide)).symm.trans h0')); exact h))
    exact steps_nil
  intro own19 a19 w19 hd19 hz19 hk19 hf19 hE19
  obtain ⟨⟨⟨A18, cA18⟩, (f_7 : a19.eval (.tmp 7) = .slice A18 x17.length cA18), (b_A18 : RdO own19 [1] w19 R34 A18 cA18 x17)⟩, (q_2 : ∀ (A18 : Option Addr) (cA18 : Nat), a19.eval (.tmp 7) = .slice A18 x17.length cA18 → a19.eval (.tmp 2) = .slice A18 x17.length cA18), -⟩ := hf19 [4, 5] rfl
  have f_2 := q_2 _ _ f_7
  have e19_2 := f_2
  have hX19 := Evo.step hX16 hown hE19 rfl
  have b19_A18 := b_A18
  refine fl_ret ?_
  obtain rfl := (osome hs).symm
  exact hret _ _ _ _ (.inl rfl) hd19 (results1_ rfl (RVal.tmp_ e19_2)) ⟨own19, (A18, cA18), rfl, hX19, (RdO.more b19_A18 (by decide))⟩

theorem exact_within_w (w : World) (n1 : Int) (least2 : Int) (greatest3 : Int) (r : Bool) (hs : exact_within n1 least2 greatest3 = some r) :
    Calls Try.prog 38 #[.int .i64 n1, .int .i64 least2, .int .i64 greatest3] w fun e w' => ∃ own' : Own, e = .returned (.bool r) ∧ Evo [] (fun _ => 0) own' w w' := by
  refine fl_enter (n := 15) rfl rfl rfl (Nat.le_of_ble_eq_true rfl) ?_
  intro a0 Q hd0 hz0 harg hret
  have ha0 := harg 0 _ rfl
  have ha1 := harg 1 _ rfl
  have ha2 := harg 2 _ rfl
  clear harg
  have hE0 : Evo [] (fun _ => 0) (fun _ => 0) w w := Evo.refl _ _ _
  refine rg_plain_seq (n := 15) (rs := []) (own0 := (fun _ => 0)) (K := [])
      (bs := [0])
      (ds := [⟨[], [], [], Fct.val 6 (.bool false)⟩]) (by kernel_rfl) hz0 hd0 (fun _ h => nomatch h) ?_ ?_
  · refine steps_cons (fun own a wx hf hsl hE => ?_) ?_
    · exact sg_plain rfl rfl (or_assign rfl)
    exact steps_nil
  intro own14 a14 w14 hd14 hz14 hk14 hf14 hE14
  have e14_0 : a14.eval (.tmp 0) = .int .i64 n1 := (hk14 0 rfl).trans ha0
  have e14_1 : a14.eval (.tmp 1) = .int .i64 least2 := (hk14 1 rfl).trans ha1
  have e14_2 : a14.eval (.tmp 2) = .int .i64 greatest3 := (hk14 2 rfl).trans ha2
  have hX14 := Evo.step hE0 (fun _ => Nat.le_refl 0) hE14 rfl
  obtain ⟨x15, hx15, hs⟩ := obind hs
  refine rg_plain_seq (n := 15) (rs := []) (own0 := own14) (K := [])
      (bs := [0, 0, 3, 7, 15, 15, 63, 127, 255])
      (ds := [⟨[], [1], [], Fct.val 7 (.int .i64 least2)⟩,
      ⟨[], [0], [], Fct.val 8 (.int .i64 n1)⟩,
      ⟨[0, 1], [], [], Fct.val 9 (.bool (decide (least2 ≤ n1)))⟩,
      ⟨[2], [], [], Fct.val 10 (.bool (decide (least2 ≤ n1)))⟩,
      ⟨[3], [0], [], Fct.cond (decide (least2 ≤ n1)) (some 11) (Fct.val 11 (.int .i64 n1))⟩,
      ⟨[3], [2], [], Fct.cond (decide (least2 ≤ n1)) (some 12) (Fct.val 12 (.int .i64 greatest3))⟩,
      ⟨[3, 4, 5], [], [], Fct.cond (decide (least2 ≤ n1)) (some 13) (Fct.val 13 (.bool (decide (n1 ≤ greatest3))))⟩,
      ⟨[3, 6], [], [], Fct.val 14 (.bool x15)⟩,
      ⟨[7], [], [], Fct.val 6 (.bool x15)⟩]) (by kernel_rfl) hz14 hd14 (fun _ h => nomatch h) ?_ ?_
  · refine steps_cons (fun own a wx hf hsl hE => ?_) ?_
    · obtain ⟨s_1, -⟩ := hsl
      exact sg_plain rfl rfl (or_move (s_1.trans e14_1))
    refine steps_cons (fun own a wx hf hsl hE => ?_) ?_
    · obtain ⟨s_0, -⟩ := hsl
      exact sg_plain rfl rfl (or_move (s_0.trans e14_0))
    refine steps_cons (fun own a wx hf hsl hE => ?_) ?_
    · obtain ⟨(f_7 : a.eval (.tmp 7) = .int .i64 least2), (f_8 : a.eval (.tmp 8) = .int .i64 n1), -⟩ := hf
      exact sg_plain rfl rfl (or_leq f_7 f_8 rfl)
    refine steps_cons (fun own a wx hf hsl hE => ?_) ?_
    · obtain ⟨(f_9 : a.eval (.tmp 9) = .bool (decide (least2 ≤ n1))), -⟩ := hf
      exact sg_plain rfl rfl (or_move f_9)
    refine steps_cons (fun own a wx hf hsl hE => ?_) ?_
    · obtain ⟨(f_10 : a.eval (.tmp 10) = .bool (decide (least2 ≤ n1))), -⟩ := hf
      obtain ⟨s_0, -⟩ := hsl
      refine sg_t rfl rfl rfl f_10 (fun hg => ?_)
      exact or_move (s_0.trans e14_0)
    refine steps_cons (fun own a wx hf hsl hE => ?_) ?_
    · obtain ⟨(f_10 : a.eval (.tmp 10) = .bool (decide (least2 ≤ n1))), -⟩ := hf
      obtain ⟨s_2, -⟩ := hsl
      refine sg_t rfl rfl rfl f_10 (fun hg => ?_)
      exact or_move (s_2.trans e14_2)
    refine steps_cons (fun own a wx hf hsl hE => ?_) ?_
    · obtain ⟨(f_10 : a.eval (.tmp 10) = .bool (decide (least2 ≤ n1))), c_11, c_12, -⟩ := hf
      refine sg_t rfl rfl rfl f_10 (fun hg => ?_)
      have f_11 : a.eval (.tmp 11) = .int .i64 n1 := c_11.1 hg
      have f_12 : a.eval (.tmp 12) = .int .i64 greatest3 := c_12.1 hg
      exact or_leq f_11 f_12 rfl
    refine steps_cons (fun own a wx hf hsl hE => ?_) ?_
    · obtain ⟨(f_10 : a.eval (.tmp 10) = .bool (decide (least2 ≤ n1))), c_13, -⟩ := hf
      exact sg_plain rfl rfl (or_and f_10 (fun hx => c_13.1 hx) rfl (osome hx15).symm)
    refine steps_cons (fun own a wx hf hsl hE => ?_) ?_
    · obtain ⟨(f_14 : a.eval (.tmp 14) = .bool x15), -⟩ := hf
      exact sg_plain rfl rfl (or_assign f_14)
    exact steps_nil
  intro own16 a16 w16 hd16 hz16 hk16 hf16 hE16
  obtain ⟨(f_6 : a16.eval (.tmp 6) = .bool x15), -⟩ := hf16 [8] rfl
  have e16_6 := f_6
  have hX16 := Evo.step hX14 (fun _ => Nat.le_refl 0) hE16 rfl
  refine fl_ret ?_
  obtain rfl := (osome hs).symm
  exact hret _ _ _ _ (.inl rfl) hd16 (results1_ rfl (RVal.tmp_ e16_6)) ⟨own16, rfl, hX16⟩

theorem exact_Right_w (w : World) (l1 : List (Int × Int)) (Al1 : Option Addr) (cl1 : Nat) (hl1 : RdO (fun _ => 0) [0] w R34 Al1 cl1 l1) (r : Bool) (hs : exact_Right l1 = some r) :
    Calls Try.prog 29 #[.slice Al1 l1.length cl1] w fun e w' => ∃ own' : Own, e = .returned (.bool r) ∧ Evo [] (fun _ => 0) own' w w' := by
  refine fl_enter (n := 22) rfl rfl rfl (Nat.le_of_ble_eq_true rfl) ?_
  intro a0 Q hd0 hz0 harg hret
  have ha0 := harg 0 _ rfl
  clear harg
  have hE0 : Evo [] (fun _ => 0) (fun _ => 0) w w := Evo.refl _ _ _
  refine rg_plain_seq (n := 22) (rs := []) (own0 := (fun _ => 0)) (K := [])
      (bs := [0])
      (ds := [⟨[], [], [], Fct.val 2 (.bool false)⟩]) (by kernel_rfl) hz0 hd0 (fun _ h => nomatch h) ?_ ?_
  · refine steps_cons (fun own a wx hf hsl hE => ?_) ?_
    · exact sg_plain rfl rfl (or_assign rfl)
    exact steps_nil
  intro own69 a69 w69 hd69 hz69 hk69 hf69 hE69
  have e69_0 : a69.eval (.tmp 0) = .slice Al1 l1.length cl1 := (hk69 0 rfl).trans ha0
  have hX69 := Evo.step hE0 (fun _ => Nat.le_refl 0) hE69 rfl
  have b69_Al1 := RdO.evo rfl hE69 hl1
  refine fl_seq (fun Q70 hn70 hp70 => ?_)
  refine rg_plain_seq (n := 22) (rs := []) (own0 := own69) (K := [])
      (bs := [0, 1, 0])
      (ds := [⟨[], [0], [], Fct.val 5 (.slice Al1 l1.length cl1)⟩,
      ⟨[0], [], [], Fct.val 6 (.int .i64 (l1.length : Int))⟩,
      ⟨[], [], [], Fct.val 7 (.int .i64 0)⟩]) (by kernel_rfl) hz69 hd69 (fun _ h => nomatch h) ?_ ?_
  · refine steps_cons (fun own a wx hf hsl hE => ?_) ?_
    · obtain ⟨s_0, -⟩ := hsl
      exact sg_plain rfl rfl (or_move (s_0.trans e69_0))
    refine steps_cons (fun own a wx hf hsl hE => ?_) ?_
    · obtain ⟨(f_5 : a.eval (.tmp 5) = .slice Al1 l1.length cl1), -⟩ := hf
      exact sg_plain rfl rfl (or_len tu24 f_5 rfl)
    refine steps_cons (fun own a wx hf hsl hE => ?_) ?_
    · exact sg_plain rfl rfl (or_move rfl)
    exact steps_nil
  intro own71 a71 w71 hd71 hz71 hk71 hf71 hE71
  obtain ⟨(f_5 : a71.eval (.tmp 5) = .slice Al1 l1.length cl1), (f_6 : a71.eval (.tmp 6) = .int .i64 (l1.length : Int)), (f_7 : a71.eval (.tmp 7) = .int .i64 0), -⟩ := hf71 [0, 1, 2] rfl
  have e71_5 := f_5
  have e71_6 := f_6
  have e71_7 := f_7
  have hX71 := Evo.step hX69 (fun _ => Nat.le_refl 0) hE71 rfl
  have b71_Al1 := RdO.evo rfl hE71 b69_Al1
  refine fl_block (fun Q72 hn72 hx72 hp72 => ?_)
  refine fl_loop (body := (fun s => exact_Right_b1 l1 s)) (z := r) (show loopO _ _ = _ from hs) (fun (x90 : Int) a wx => ∃ (ox : Own), a.defers = [] ∧ a.tmps.size = 22 ∧ a.eval (.tmp 5) = .slice Al1 l1.length cl1 ∧ a.eval (.tmp 6) = .int .i64 (l1.length : Int) ∧ a.eval (.tmp 7) = .int .i64 x90 ∧ Evo [] (fun _ => 0) ox w wx ∧ RdO ox [0] wx R34 Al1 cl1 l1) ?_ ?_
  · exact ⟨own71, hd71, hz71, e71_5, e71_6, e71_7, hX71, b71_Al1⟩
  · rintro x90 zz108 a108 w108 ⟨own108, hd109, hz109, e109_5, e109_6, e109_7, hE109, b109_Al1⟩ hs Q108 hn108 hp108 hz108
    have hs : exact_Right_b1 l1 x90 = some zz108 := hs
    refine rg_plain_seq (n := 22) (rs := []) (own0 := own108) (K := [])
        (bs := [0])
        (ds := [⟨[], [7, 6], [], Fct.val 8 (.bool (decide (x90 < (l1.length : Int))))⟩]) (by kernel_rfl) hz109 hd109 (fun _ h => nomatch h) ?_ ?_
    · refine steps_cons (fun own a wx hf hsl hE => ?_) ?_
      · obtain ⟨s_7, s_6, -⟩ := hsl
        exact sg_plain rfl rfl (or_lss (s_7.trans e109_7) (s_6.trans e109_6) rfl)
      exact steps_nil
    intro own110 a110 w110 hd110 hz110 hk110 hf110 hE110
    have e110_5 : a110.eval (.tmp 5) = .slice Al1 l1.length cl1 := (hk110 5 rfl).trans e109_5
    have e110_6 : a110.eval (.tmp 6) = .int .i64 (l1.length : Int) := (hk110 6 rfl).trans e109_6
    have e110_7 : a110.eval (.tmp 7) = .int .i64 x90 := (hk110 7 rfl).trans e109_7
    obtain ⟨(f_8 : a110.eval (.tmp 8) = .bool (decide (x90 < (l1.length : Int)))), -⟩ := hf110 [0] rfl
    have e110_8 := f_8
    have hX110 := Evo.step hE109 (fun _ => Nat.le_refl 0) hE110 rfl
    have b110_Al1 := RdO.evo rfl hE110 b109_Al1
    refine fl_seq (fun Q111 hn111 hp111 => ?_)
    refine fl_cond e110_8 hs (fun c112 hs => ?_) (fun c112 hs => ?_)
    · refine fl_skip ?_
      refine hn111 _ _ ?_
      refine fl_seq (fun Q113 hn113 hp113 => ?_)
      refine fl_block (fun Q114 hn114 hx114 hp114 => ?_)
      obtain ⟨x115, hx115, hs⟩ := obind hs
      refine rg_plain_seq (n := 22) (rs := []) (own0 := own110) (K := [117])
          (bs := [0, 1, 0, 7])
          (ds := [⟨[], [5, 7], [], Fct.val 9 (.pointer (some ((adr Al1).add ((x90 : Int).toNat * R34.s))))⟩,
          ⟨[0], [], [], Fct.val 10 (.agg #[.int .i64 x115.1, .int .i64 x115.2])⟩,
          ⟨[], [], [], Fct.blk 117 4 (fun g => .pointer (some ⟨g, 0, none⟩)) 34 #[.int .i64 0, .int .i64 0]⟩,
          ⟨[2, 1], [], [117], Fct.blk 118 4 (fun g => .pointer (some ⟨g, 0, none⟩)) 34 #[.int .i64 x115.1, .int .i64 x115.2]⟩]) (by kernel_rfl) hz110 hd110 (fun _ h => nomatch h) ?_ ?_
      · refine steps_cons (fun own a wx hf hsl hE => ?_) ?_
        · obtain ⟨s_5, s_7, -⟩ := hsl
          exact sg_plain rfl rfl (or_index (R := R34) (l := l1) tl24 (s_5.trans e110_5) (s_7.trans e110_7) (RdO.some_ b110_Al1 hx115) hx115)
        refine steps_cons (fun own a wx hf hsl hE => ?_) ?_
        · obtain ⟨(f_9 : a.eval (.tmp 9) = .pointer (some ((adr Al1).add ((x90 : Int).toNat * R34.s)))), -⟩ := hf
          exact sg_plain rfl rfl (or_load (l := E34.f x115) ta34 f_9 (RdO.cells (F := E34) (RdO.evo rfl hE b110_Al1) hx115) rfl)
        refine steps_cons (fun own a wx hf hsl hE => ?_) ?_
        · exact sg_plain rfl rfl (or_new [] rfl rfl trivial (by kernel_rfl))
        refine steps_cons (fun own a wx hf hsl hE => ?_) ?_
        · obtain ⟨⟨g116, (f_4 : a.eval (.tmp 4) = .pointer (some ⟨g116, 0, none⟩)), (b_g116 : BlkO own 117 wx g116 34 #[.int .i64 0, .int .i64 0])⟩, (f_10 : a.eval (.tmp 10) = .agg #[.int .i64 x115.1, .int .i64 x115.2]), -⟩ := hf
          exact sg_plain rfl rfl (or_store (l := #[.int .i64 x115.1, .int .i64 x115.2]) (lab := 117) (lab2 := 118) ts34 f_4 f_10 b_g116 (by simp) (by kernel_rfl) (mem_of rfl) (by decide) (by kernel_rfl) (fun own' a' w' ha hb => ⟨_, (ha 4).trans f_4, hb⟩))
        exact steps_nil
      intro own119 a119 w119 hd119 hz119 hk119 hf119 hE119
      have e119_5 : a119.eval (.tmp 5) = .slice Al1 l1.length cl1 := (hk119 5 rfl).trans e110_5
      have e119_6 : a119.eval (.tmp 6) = .int .i64 (l1.length : Int) := (hk119 6 rfl).trans e110_6
      have e119_7 : a119.eval (.tmp 7) = .int .i64 x90 := (hk119 7 rfl).trans e110_7
      obtain ⟨⟨g116, (f_4 : a119.eval (.tmp 4) = .pointer (some ⟨g116, 0, none⟩)), (b_g116 : BlkO own119 118 w119 g116 34 #[.int .i64 x115.1, .int .i64 x115.2])⟩, -⟩ := hf119 [3] rfl
      have e119_4 := f_4
      have hX119 := Evo.step hX110 (fun _ => Nat.le_refl 0) hE119 rfl
      have b119_Al1 := RdO.evo rfl hE119 b110_Al1
      have b119_g116 := b_g116
      obtain ⟨r120, hr120, hs⟩ := obind hs
      obtain ⟨r121, hr121, hs⟩ := obind hs
      refine rg_plain_seq (n := 22) (rs := []) (own0 := own119) (K := [])
          (bs := [0, 1, 3, 7, 15, 31, 63, 127, 255, 511])
          (ds := [⟨[], [4], [], Fct.val 11 (.pointer (some ⟨g116, 0, none⟩))⟩,
          ⟨[0], [], [], Fct.val 12 (.int .i64 x115.1)⟩,
          ⟨[1], [], [], Fct.val 13 (.bool r120)⟩,
          ⟨[2], [], [], Fct.val 14 (.bool (!r120))⟩,
          ⟨[3], [], [], Fct.val 15 (.bool (!r120))⟩,
          ⟨[4], [4], [], Fct.cond (!(!r120)) (some 16) (Fct.val 16 (.pointer (some ⟨g116, 1, none⟩)))⟩,
          ⟨[4, 5], [], [], Fct.cond (!(!r120)) (some 17) (Fct.val 17 (.int .i64 x115.2))⟩,
          ⟨[4, 6], [], [], Fct.cond (!(!r120)) (some 18) (Fct.val 18 (.bool r121))⟩,
          ⟨[4, 7], [], [], Fct.cond (!(!r120)) (some 19) (Fct.val 19 (.bool (!r121)))⟩,
          ⟨[4, 8], [], [], Fct.val 20 (.bool ((!r120) || (!r121)))⟩]) (by kernel_rfl) hz119 hd119 (fun _ h => nomatch h) ?_ ?_
      · refine steps_cons (fun own a wx hf hsl hE => ?_) ?_
        · obtain ⟨s_4, -⟩ := hsl
          exact sg_plain rfl rfl (or_field fo34_0 (s_4.trans e119_4) (by rfl))
        refine steps_cons (fun own a wx hf hsl hE => ?_) ?_
        · obtain ⟨(f_11 : a.eval (.tmp 11) = .pointer (some ⟨g116, 0, none⟩)), -⟩ := hf
          exact sg_plain rfl rfl (or_load1 to3 f_11 (Blk.at_ (BlkO.evo (by decide) hE b119_g116).2 0 rfl))
        refine steps_cons (fun own a wx hf hsl hE => ?_) ?_
        · obtain ⟨(f_12 : a.eval (.tmp 12) = .int .i64 x115.1), -⟩ := hf
          exact sg_plain rfl rfl (or_call cf38 (args3 f_12 rfl rfl) (exact_within_w _ x115.1 (-16777216) 16777216  r120 hr120) post_val)
        refine steps_cons (fun own a wx hf hsl hE => ?_) ?_
        · obtain ⟨(f_13 : a.eval (.tmp 13) = .bool r120), -⟩ := hf
          exact sg_plain rfl rfl (or_not f_13 rfl)
        refine steps_cons (fun own a wx hf hsl hE => ?_) ?_
        · obtain ⟨(f_14 : a.eval (.tmp 14) = .bool (!r120)), -⟩ := hf
          exact sg_plain rfl rfl (or_move f_14)
        refine steps_cons (fun own a wx hf hsl hE => ?_) ?_
        · obtain ⟨(f_15 : a.eval (.tmp 15) = .bool (!r120)), -⟩ := hf
          obtain ⟨s_4, -⟩ := hsl
          refine sg_f rfl rfl rfl f_15 (fun hg => ?_)
          exact or_field fo34_1 (s_4.trans e119_4) (by rfl)
        refine steps_cons (fun own a wx hf hsl hE => ?_) ?_
        · obtain ⟨(f_15 : a.eval (.tmp 15) = .bool (!r120)), c_16, -⟩ := hf
          refine sg_f rfl rfl rfl f_15 (fun hg => ?_)
          have f_16 : a.eval (.tmp 16) = .pointer (some ⟨g116, 1, none⟩) := c_16.1 hg
          exact or_load1 to3 f_16 (Blk.at_ (BlkO.evo (by decide) hE b119_g116).2 1 rfl)
        refine steps_cons (fun own a wx hf hsl hE => ?_) ?_
        · obtain ⟨(f_15 : a.eval (.tmp 15) = .bool (!r120)), c_17, -⟩ := hf
          refine sg_f rfl rfl rfl f_15 (fun hg => ?_)
          have f_17 : a.eval (.tmp 17) = .int .i64 x115.2 := c_17.1 hg
          exact or_call cf38 (args3 f_17 rfl rfl) (exact_within_w _ x115.2 (-16777216) 16777216  r121 (gd_t hr121 hg)) post_val
        refine steps_cons (fun own a wx hf hsl hE => ?_) ?_
        · obtain ⟨(f_15 : a.eval (.tmp 15) = .bool (!r120)), c_18, -⟩ := hf
          refine sg_f rfl rfl rfl f_15 (fun hg => ?_)
          have f_18 : a.eval (.tmp 18) = .bool r121 := c_18.1 hg
          exact or_not f_18 rfl
        refine steps_cons (fun own a wx hf hsl hE => ?_) ?_
        · obtain ⟨(f_15 : a.eval (.tmp 15) = .bool (!r120)), c_19, -⟩ := hf
          exact sg_plain rfl rfl (or_or f_15 rfl (fun hx => c_19.1 hx) rfl)
        exact steps_nil
      intro own122 a122 w122 hd122 hz122 hk122 hf122 hE122
      have e122_5 : a122.eval (.tmp 5) = .slice Al1 l1.length cl1 := (hk122 5 rfl).trans e119_5
      have e122_6 : a122.eval (.tmp 6) = .int .i64 (l1.length : Int) := (hk122 6 rfl).trans e119_6
      have e122_7 : a122.eval (.tmp 7) = .int .i64 x90 := (hk122 7 rfl).trans e119_7
      obtain ⟨(f_20 : a122.eval (.tmp 20) = .bool ((!r120) || (!r121))), -⟩ := hf122 [9] rfl
      have e122_20 := f_20
      have hX122 := Evo.step hX119 (fun _ => Nat.le_refl 0) hE122 rfl
      have b122_Al1 := RdO.evo rfl hE122 b119_Al1
      refine fl_cond e122_20 hs (fun c123 hs => ?_) (fun c123 hs => ?_)
      · refine rg_plain_seq (n := 22) (rs := []) (own0 := own122) (K := [])
            (bs := [0])
            (ds := [⟨[], [], [], Fct.val 2 (.bool false)⟩]) (by kernel_rfl) hz122 hd122 (fun _ h => nomatch h) ?_ ?_
        · refine steps_cons (fun own a wx hf hsl hE => ?_) ?_
          · exact sg_plain rfl rfl (or_assign rfl)
          exact steps_nil
        intro own124 a124 w124 hd124 hz124 hk124 hf124 hE124
        obtain ⟨(f_2 : a124.eval (.tmp 2) = .bool false), -⟩ := hf124 [0] rfl
        have e124_2 := f_2
        have hX124 := Evo.step hX122 (fun _ => Nat.le_refl 0) hE124 rfl
        refine fl_ret ?_
        refine hp114 _ _ _ rfl ?_
        refine hp113 _ _ _ rfl ?_
        replace hs := hz108 _ hs
        refine hp108 _ _ _ rfl ?_
        refine hp72 _ _ _ rfl ?_
        refine hp70 _ _ _ rfl ?_
        obtain rfl := osome hs
        exact hret _ _ _ _ (.inl rfl) hd124 (results1_ rfl (RVal.tmp_ e124_2)) ⟨own124, rfl, hX124⟩
      refine fl_skip ?_
      refine hn114 _ _ ?_
      refine hn113 _ _ ?_
      refine rg_plain (n := 22) (rs := []) (own0 := own122) (K := [])
          (bs := [0, 1])
          (ds := [⟨[], [7], [], Fct.val 21 (.int .i64 (ad x90 1))⟩,
          ⟨[0], [], [], Fct.val 7 (.int .i64 (ad x90 1))⟩]) (by kernel_rfl) hz122 hd122 (fun _ h => nomatch h) ?_ ?_
      · refine steps_cons (fun own a wx hf hsl hE => ?_) ?_
        · obtain ⟨s_7, -⟩ := hsl
          exact sg_plain rfl rfl (or_add (s_7.trans e122_7) rfl rfl)
        refine steps_cons (fun own a wx hf hsl hE => ?_) ?_
        · obtain ⟨(f_21 : a.eval (.tmp 21) = .int .i64 (ad x90 1)), -⟩ := hf
          exact sg_plain rfl rfl (or_move f_21)
        exact steps_nil
      intro own125 a125 w125 hd125 hz125 hk125 hf125 hE125
      have e125_5 : a125.eval (.tmp 5) = .slice Al1 l1.length cl1 := (hk125 5 rfl).trans e122_5
      have e125_6 : a125.eval (.tmp 6) = .int .i64 (l1.length : Int) := (hk125 6 rfl).trans e122_6
      obtain ⟨(f_7 : a125.eval (.tmp 7) = .int .i64 (ad x90 1)), -⟩ := hf125 [1] rfl
      have e125_7 := f_7
      have hX125 := Evo.step hX122 (fun _ => Nat.le_refl 0) hE125 rfl
      have b125_Al1 := RdO.evo rfl hE125 b122_Al1
      exact hn108 _ _ _ hs ⟨own125, hd125, hz125, e125_5, e125_6, e125_7, hX125, b125_Al1⟩
    refine fl_exit ?_
    refine hp111 _ _ _ rfl ?_
    replace hs := hz108 _ hs
    refine hp108 _ _ _ rfl ?_
    refine hx72 _ _ ?_
    refine hn70 _ _ ?_
    refine rg_plain_seq (n := 22) (rs := []) (own0 := own110) (K := [])
        (bs := [0])
        (ds := [⟨[], [], [], Fct.val 2 (.bool true)⟩]) (by kernel_rfl) hz110 hd110 (fun _ h => nomatch h) ?_ ?_
    · refine steps_cons (fun own a wx hf hsl hE => ?_) ?_
      · exact sg_plain rfl rfl (or_assign rfl)
      exact steps_nil
    intro own126 a126 w126 hd126 hz126 hk126 hf126 hE126
    obtain ⟨(f_2 : a126.eval (.tmp 2) = .bool true), -⟩ := hf126 [0] rfl
    have e126_2 := f_2
    have hX126 := Evo.step hX110 (fun _ => Nat.le_refl 0) hE126 rfl
    refine fl_ret ?_
    obtain rfl := osome hs
    exact hret _ _ _ _ (.inl rfl) hd126 (results1_ rfl (RVal.tmp_ e126_2)) ⟨own126, rfl, hX126⟩

theorem rows_Right_w (w : World) (b1 : (Int × Int) × (Int × Int)) (r : Bool) (hs : rows_Right b1 = some r) :
    Calls Try.prog 22 #[.agg #[.int .i64 b1.1.1, .int .i64 b1.1.2, .int .i64 b1.2.1, .int .i64 b1.2.2]] w fun e w' => ∃ own' : Own, e = .returned (.bool r) ∧ Evo [] (fun _ => 0) own' w w' := by
  refine fl_enter (n := 27) rfl rfl rfl (Nat.le_of_ble_eq_true rfl) ?_
  intro a0 Q hd0 hz0 harg hret
  have ha0 := harg 0 _ rfl
  clear harg
  have hE0 : Evo [] (fun _ => 0) (fun _ => 0) w w := Evo.refl _ _ _
  refine rg_plain_seq (n := 27) (rs := []) (own0 := (fun _ => 0)) (K := [])
      (bs := [0, 0])
      (ds := [⟨[], [0], [], Fct.blk 20 1 (fun g => .pointer (some ⟨g, 0, none⟩)) 36 #[.int .i64 b1.1.1, .int .i64 b1.1.2, .int .i64 b1.2.1, .int .i64 b1.2.2]⟩,
      ⟨[], [], [], Fct.val 2 (.bool false)⟩]) (by kernel_rfl) hz0 hd0 (fun _ h => nomatch h) ?_ ?_
  · refine steps_cons (fun own a wx hf hsl hE => ?_) ?_
    · obtain ⟨s_0, -⟩ := hsl
      exact sg_plain rfl rfl (or_new [(0, .agg #[.int .i64 b1.1.1, .int .i64 b1.1.2, .int .i64 b1.2.1, .int .i64 b1.2.2])] rfl rfl ⟨(s_0.trans ha0), trivial⟩ (by kernel_rfl))
    refine steps_cons (fun own a wx hf hsl hE => ?_) ?_
    · exact sg_plain rfl rfl (or_assign rfl)
    exact steps_nil
  intro own21 a21 w21 hd21 hz21 hk21 hf21 hE21
  obtain ⟨⟨g19, (f_1 : a21.eval (.tmp 1) = .pointer (some ⟨g19, 0, none⟩)), (b_g19 : BlkO own21 20 w21 g19 36 #[.int .i64 b1.1.1, .int .i64 b1.1.2, .int .i64 b1.2.1, .int .i64 b1.2.2])⟩, -⟩ := hf21 [0] rfl
  have e21_1 := f_1
  have hX21 := Evo.step hE0 (fun _ => Nat.le_refl 0) hE21 rfl
  have b21_g19 := b_g19
  obtain ⟨r24, hr24, hs⟩ := obind hs
  obtain ⟨x25, hx25, hs⟩ := obind hs
  refine rg_plain_seq (n := 27) (rs := []) (own0 := own21) (K := [])
      (bs := [0, 1, 0, 4, 15, 31, 63, 127, 255, 511, 127, 1151, 3199, 8191, 16383, 32767, 65535, 131071, 262143, 65535, 589823, 1638399, 4194303, 8388607, 16777215])
      (ds := [⟨[], [1], [], Fct.val 3 (.pointer (some ⟨g19, 0, none⟩))⟩,
      ⟨[0], [], [], Fct.val 4 (.agg #[.int .i64 b1.1.1, .int .i64 b1.1.2])⟩,
      ⟨[], [1], [], Fct.val 5 (.pointer (some ⟨g19, 2, none⟩))⟩,
      ⟨[2], [], [], Fct.val 6 (.agg #[.int .i64 b1.2.1, .int .i64 b1.2.2])⟩,
      ⟨[1, 3], [], [], Fct.row 23 [] 7 34 R34 [b1.1, b1.2]⟩,
      ⟨[4], [], [], Fct.val 8 (.bool r24)⟩,
      ⟨[5], [], [], Fct.val 9 (.bool r24)⟩,
      ⟨[6], [1], [], Fct.cond r24 (some 10) (Fct.val 10 (.pointer (some ⟨g19, 0, none⟩)))⟩,
      ⟨[6, 7], [], [], Fct.cond r24 (some 11) (Fct.val 11 (.pointer (some ⟨g19, 0, none⟩)))⟩,
      ⟨[6, 8], [], [], Fct.cond r24 (some 12) (Fct.val 12 (.int .i64 b1.1.1))⟩,
      ⟨[6], [1], [], Fct.cond r24 (some 13) (Fct.val 13 (.pointer (some ⟨g19, 2, none⟩)))⟩,
      ⟨[6, 10], [], [], Fct.cond r24 (some 14) (Fct.val 14 (.pointer (some ⟨g19, 2, none⟩)))⟩,
      ⟨[6, 11], [], [], Fct.cond r24 (some 15) (Fct.val 15 (.int .i64 b1.2.1))⟩,
      ⟨[6, 9, 12], [], [], Fct.cond r24 (some 16) (Fct.val 16 (.bool (decide (b1.1.1 ≤ b1.2.1))))⟩,
      ⟨[6, 13], [], [], Fct.val 17 (.bool (r24 && (decide (b1.1.1 ≤ b1.2.1))))⟩,
      ⟨[14], [], [], Fct.val 18 (.bool (r24 && (decide (b1.1.1 ≤ b1.2.1))))⟩,
      ⟨[15], [1], [], Fct.cond (r24 && (decide (b1.1.1 ≤ b1.2.1))) (some 19) (Fct.val 19 (.pointer (some ⟨g19, 0, none⟩)))⟩,
      ⟨[15, 16], [], [], Fct.cond (r24 && (decide (b1.1.1 ≤ b1.2.1))) (some 20) (Fct.val 20 (.pointer (some ⟨g19, 1, none⟩)))⟩,
      ⟨[15, 17], [], [], Fct.cond (r24 && (decide (b1.1.1 ≤ b1.2.1))) (some 21) (Fct.val 21 (.int .i64 b1.1.2))⟩,
      ⟨[15], [1], [], Fct.cond (r24 && (decide (b1.1.1 ≤ b1.2.1))) (some 22) (Fct.val 22 (.pointer (some ⟨g19, 2, none⟩)))⟩,
      ⟨[15, 19], [], [], Fct.cond (r24 && (decide (b1.1.1 ≤ b1.2.1))) (some 23) (Fct.val 23 (.pointer (some ⟨g19, 3, none⟩)))⟩,
      ⟨[15, 20], [], [], Fct.cond (r24 && (decide (b1.1.1 ≤ b1.2.1))) (some 24) (Fct.val 24 (.int .i64 b1.2.2))⟩,
      ⟨[15, 18, 21], [], [], Fct.cond (r24 && (decide (b1.1.1 ≤ b1.2.1))) (some 25) (Fct.val 25 (.bool (decide (b1.1.2 ≤ b1.2.2))))⟩,
      ⟨[15, 22], [], [], Fct.val 26 (.bool x25)⟩,
      ⟨[23], [], [], Fct.val 2 (.bool x25)⟩]) (by kernel_rfl) hz21 hd21 (fun _ h => nomatch h) ?_ ?_
  · refine steps_cons (fun own a wx hf hsl hE => ?_) ?_
    · obtain ⟨s_1, -⟩ := hsl
      exact sg_plain rfl rfl (or_field fo36_0 (s_1.trans e21_1) (by rfl))
    refine steps_cons (fun own a wx hf hsl hE => ?_) ?_
    · obtain ⟨(f_3 : a.eval (.tmp 3) = .pointer (some ⟨g19, 0, none⟩)), -⟩ := hf
      exact sg_plain rfl rfl (or_load (l := [.int .i64 b1.1.1, .int .i64 b1.1.2]) ta34 f_3 (Blk.cellsFrom (BlkO.evo (by decide) hE b21_g19).2 0 rfl) rfl)
    refine steps_cons (fun own a wx hf hsl hE => ?_) ?_
    · obtain ⟨s_1, -⟩ := hsl
      exact sg_plain rfl rfl (or_field fo36_1 (s_1.trans e21_1) (by rfl))
    refine steps_cons (fun own a wx hf hsl hE => ?_) ?_
    · obtain ⟨(f_5 : a.eval (.tmp 5) = .pointer (some ⟨g19, 2, none⟩)), -⟩ := hf
      exact sg_plain rfl rfl (or_load (l := [.int .i64 b1.2.1, .int .i64 b1.2.2]) ta34 f_5 (Blk.cellsFrom (BlkO.evo (by decide) hE b21_g19).2 2 rfl) rfl)
    refine steps_cons (fun own a wx hf hsl hE => ?_) ?_
    · obtain ⟨(f_4 : a.eval (.tmp 4) = .agg #[.int .i64 b1.1.1, .int .i64 b1.1.2]), (f_6 : a.eval (.tmp 6) = .agg #[.int .i64 b1.2.1, .int .i64 b1.2.2]), -⟩ := hf
      exact sg_plain rfl rfl (or_lit (lab := 23) (e := 34) (cs := #[.int .i64 b1.1.1, .int .i64 b1.1.2, .int .i64 b1.2.1, .int .i64 b1.2.2]) (F := E34) (or_new [(4, .agg #[.int .i64 b1.1.1, .int .i64 b1.1.2]), (6, .agg #[.int .i64 b1.2.1, .int .i64 b1.2.2])] rfl rfl ⟨f_4, f_6, trivial⟩ (by kernel_rfl)) rfl rfl (show 2 ≤ maxLen by decide))
    refine steps_cons (fun own a wx hf hsl hE => ?_) ?_
    · obtain ⟨⟨⟨A22, cA22⟩, (f_7 : a.eval (.tmp 7) = .slice A22 [b1.1, b1.2].length cA22), (b_A22 : RwO own 23 [] wx 34 R34 A22 cA22 [b1.1, b1.2])⟩, -⟩ := hf
      exact sg_plain rfl rfl (or_call cf29 (args1 f_7) (exact_Right_w _ [b1.1, b1.2] A22 cA22 (RdO.zero (RwO.rd b_A22)) r24 hr24) post_val)
    refine steps_cons (fun own a wx hf hsl hE => ?_) ?_
    · obtain ⟨(f_8 : a.eval (.tmp 8) = .bool r24), -⟩ := hf
      exact sg_plain rfl rfl (or_move f_8)
    refine steps_cons (fun own a wx hf hsl hE => ?_) ?_
    · obtain ⟨(f_9 : a.eval (.tmp 9) = .bool r24), -⟩ := hf
      obtain ⟨s_1, -⟩ := hsl
      refine sg_t rfl rfl rfl f_9 (fun hg => ?_)
      exact or_field fo36_0 (s_1.trans e21_1) (by rfl)
    refine steps_cons (fun own a wx hf hsl hE => ?_) ?_
    · obtain ⟨(f_9 : a.eval (.tmp 9) = .bool r24), c_10, -⟩ := hf
      refine sg_t rfl rfl rfl f_9 (fun hg => ?_)
      have f_10 : a.eval (.tmp 10) = .pointer (some ⟨g19, 0, none⟩) := c_10.1 hg
      exact or_field fo34_0 f_10 (by rfl)
    refine steps_cons (fun own a wx hf hsl hE => ?_) ?_
    · obtain ⟨(f_9 : a.eval (.tmp 9) = .bool r24), c_11, -⟩ := hf
      refine sg_t rfl rfl rfl f_9 (fun hg => ?_)
      have f_11 : a.eval (.tmp 11) = .pointer (some ⟨g19, 0, none⟩) := c_11.1 hg
      exact or_load1 to3 f_11 (Blk.at_ (BlkO.evo (by decide) hE b21_g19).2 0 rfl)
    refine steps_cons (fun own a wx hf hsl hE => ?_) ?_
    · obtain ⟨(f_9 : a.eval (.tmp 9) = .bool r24), -⟩ := hf
      obtain ⟨s_1, -⟩ := hsl
      refine sg_t rfl rfl rfl f_9 (fun hg => ?_)
      exact or_field fo36_1 (s_1.trans e21_1) (by rfl)
    refine steps_cons (fun own a wx hf hsl hE => ?_) ?_
    · obtain ⟨(f_9 : a.eval (.tmp 9) = .bool r24), c_13, -⟩ := hf
      refine sg_t rfl rfl rfl f_9 (fun hg => ?_)
      have f_13 : a.eval (.tmp 13) = .pointer (some ⟨g19, 2, none⟩) := c_13.1 hg
      exact or_field fo34_0 f_13 (by rfl)
    refine steps_cons (fun own a wx hf hsl hE => ?_) ?_
    · obtain ⟨(f_9 : a.eval (.tmp 9) = .bool r24), c_14, -⟩ := hf
      refine sg_t rfl rfl rfl f_9 (fun hg => ?_)
      have f_14 : a.eval (.tmp 14) = .pointer (some ⟨g19, 2, none⟩) := c_14.1 hg
      exact or_load1 to3 f_14 (Blk.at_ (BlkO.evo (by decide) hE b21_g19).2 2 rfl)
    refine steps_cons (fun own a wx hf hsl hE => ?_) ?_
    · obtain ⟨(f_9 : a.eval (.tmp 9) = .bool r24), c_12, c_15, -⟩ := hf
      refine sg_t rfl rfl rfl f_9 (fun hg => ?_)
      have f_12 : a.eval (.tmp 12) = .int .i64 b1.1.1 := c_12.1 hg
      have f_15 : a.eval (.tmp 15) = .int .i64 b1.2.1 := c_15.1 hg
      exact or_leq f_12 f_15 rfl
    refine steps_cons (fun own a wx hf hsl hE => ?_) ?_
    · obtain ⟨(f_9 : a.eval (.tmp 9) = .bool r24), c_16, -⟩ := hf
      exact sg_plain rfl rfl (or_and f_9 (fun hx => c_16.1 hx) rfl rfl)
    refine steps_cons (fun own a wx hf hsl hE => ?_) ?_
    · obtain ⟨(f_17 : a.eval (.tmp 17) = .bool (r24 && (decide (b1.1.1 ≤ b1.2.1)))), -⟩ := hf
      exact sg_plain rfl rfl (or_move f_17)
    refine steps_cons (fun own a wx hf hsl hE => ?_) ?_
    · obtain ⟨(f_18 : a.eval (.tmp 18) = .bool (r24 && (decide (b1.1.1 ≤ b1.2.1)))), -⟩ := hf
      obtain ⟨s_1, -⟩ := hsl
      refine sg_t rfl rfl rfl f_18 (fun hg => ?_)
      exact or_field fo36_0 (s_1.trans e21_1) (by rfl)
    refine steps_cons (fun own a wx hf hsl hE => ?_) ?_
    · obtain ⟨(f_18 : a.eval (.tmp 18) = .bool (r24 && (decide (b1.1.1 ≤ b1.2.1)))), c_19, -⟩ := hf
      refine sg_t rfl rfl rfl f_18 (fun hg => ?_)
      have f_19 : a.eval (.tmp 19) = .pointer (some ⟨g19, 0, none⟩) := c_19.1 hg
      exact or_field fo34_1 f_19 (by rfl)
    refine steps_cons (fun own a wx hf hsl hE => ?_) ?_
    · obtain ⟨(f_18 : a.eval (.tmp 18) = .bool (r24 && (decide (b1.1.1 ≤ b1.2.1)))), c_20, -⟩ := hf
      refine sg_t rfl rfl rfl f_18 (fun hg => ?_)
      have f_20 : a.eval (.tmp 20) = .pointer (some ⟨g19, 1, none⟩) := c_20.1 hg
      exact or_load1 to3 f_20 (Blk.at_ (BlkO.evo (by decide) hE b21_g19).2 1 rfl)
    refine steps_cons (fun own a wx hf hsl hE => ?_) ?_
    · obtain ⟨(f_18 : a.eval (.tmp 18) = .bool (r24 && (decide (b1.1.1 ≤ b1.2.1)))), -⟩ := hf
      obtain ⟨s_1, -⟩ := hsl
      refine sg_t rfl rfl rfl f_18 (fun hg => ?_)
      exact or_field fo36_1 (s_1.trans e21_1) (by rfl)
    refine steps_cons (fun own a wx hf hsl hE => ?_) ?_
    · obtain ⟨(f_18 : a.eval (.tmp 18) = .bool (r24 && (decide (b1.1.1 ≤ b1.2.1)))), c_22, -⟩ := hf
      refine sg_t rfl rfl rfl f_18 (fun hg => ?_)
      have f_22 : a.eval (.tmp 22) = .pointer (some ⟨g19, 2, none⟩) := c_22.1 hg
      exact or_field fo34_1 f_22 (by rfl)
    refine steps_cons (fun own a wx hf hsl hE => ?_) ?_
    · obtain ⟨(f_18 : a.eval (.tmp 18) = .bool (r24 && (decide (b1.1.1 ≤ b1.2.1)))), c_23, -⟩ := hf
      refine sg_t rfl rfl rfl f_18 (fun hg => ?_)
      have f_23 : a.eval (.tmp 23) = .pointer (some ⟨g19, 3, none⟩) := c_23.1 hg
      exact or_load1 to3 f_23 (Blk.at_ (BlkO.evo (by decide) hE b21_g19).2 3 rfl)
    refine steps_cons (fun own a wx hf hsl hE => ?_) ?_
    · obtain ⟨(f_18 : a.eval (.tmp 18) = .bool (r24 && (decide (b1.1.1 ≤ b1.2.1)))), c_21, c_24, -⟩ := hf
      refine sg_t rfl rfl rfl f_18 (fun hg => ?_)
      have f_21 : a.eval (.tmp 21) = .int .i64 b1.1.2 := c_21.1 hg
      have f_24 : a.eval (.tmp 24) = .int .i64 b1.2.2 := c_24.1 hg
      exact or_leq f_21 f_24 rfl
    refine steps_cons (fun own a wx hf hsl hE => ?_) ?_
    · obtain ⟨(f_18 : a.eval (.tmp 18) = .bool (r24 && (decide (b1.1.1 ≤ b1.2.1)))), c_25, -⟩ := hf
      exact sg_plain rfl rfl (or_and f_18 (fun hx => c_25.1 hx) rfl (osome hx25).symm)
    refine steps_cons (fun own a wx hf hsl hE => ?_) ?_
    · obtain ⟨(f_26 : a.eval (.tmp 26) = .bool x25), -⟩ := hf
      exact sg_plain rfl rfl (or_assign f_26)
    exact steps_nil
  intro own26 a26 w26 hd26 hz26 hk26 hf26 hE26
  obtain ⟨(f_2 : a26.eval (.tmp 2) = .bool x25), -⟩ := hf26 [24] rfl
  have e26_2 := f_2
  have hX26 := Evo.step hX21 (fun _ => Nat.le_refl 0) hE26 rfl
  refine fl_ret ?_
  obtain rfl := (osome hs).symm
  exact hret _ _ _ _ (.inl rfl) hd26 (results1_ rfl (RVal.tmp_ e26_2)) ⟨own26, rfl, hX26⟩

theorem lineclip_within_w (w : World) (p1 : Int × Int) (b2 : (Int × Int) × (Int × Int)) (r : Bool) (hs : lineclip_within p1 b2 = some r) :
    Calls Try.prog 30 #[.agg #[.int .i64 p1.1, .int .i64 p1.2], .agg #[.int .i64 b2.1.1, .int .i64 b2.1.2, .int .i64 b2.2.1, .int .i64 b2.2.2]] w fun e w' => ∃ own' : Own, e = .returned (.bool r) ∧ Evo [] (fun _ => 0) own' w w' := by
  refine fl_enter (n := 35) rfl rfl rfl (Nat.le_of_ble_eq_true rfl) ?_
  intro a0 Q hd0 hz0 harg hret
  have ha0 := harg 0 _ rfl
  have ha1 := harg 1 _ rfl
  clear harg
  have hE0 : Evo [] (fun _ => 0) (fun _ => 0) w w := Evo.refl _ _ _
  refine rg_plain_seq (n := 35) (rs := []) (own0 := (fun _ => 0)) (K := [])
      (bs := [0, 0, 0])
      (ds := [⟨[], [0], [], Fct.blk 20 2 (fun g => .pointer (some ⟨g, 0, none⟩)) 34 #[.int .i64 p1.1, .int .i64 p1.2]⟩,
      ⟨[], [1], [], Fct.blk 22 3 (fun g => .pointer (some ⟨g, 0, none⟩)) 36 #[.int .i64 b2.1.1, .int .i64 b2.1.2, .int .i64 b2.2.1, .int .i64 b2.2.2]⟩,
      ⟨[], [], [], Fct.val 4 (.bool false)⟩]) (by kernel_rfl) hz0 hd0 (fun _ h => nomatch h) ?_ ?_
  · refine steps_cons (fun own a wx hf hsl hE => ?_) ?_
    · obtain ⟨s_0, -⟩ := hsl
      exact sg_plain rfl rfl (or_new [(0, .agg #[.int .i64 p1.1, .int .i64 p1.2])] rfl rfl ⟨(s_0.trans ha0), trivial⟩ (by kernel_rfl))
    refine steps_cons (fun own a wx hf hsl hE => ?_) ?_
    · obtain ⟨s_1, -⟩ := hsl
      exact sg_plain rfl rfl (or_new [(1, .agg #[.int .i64 b2.1.1, .int .i64 b2.1.2, .int .i64 b2.2.1, .int .i64 b2.2.2])] rfl rfl ⟨(s_1.trans ha1), trivial⟩ (by kernel_rfl))
    refine steps_cons (fun own a wx hf hsl hE => ?_) ?_
    · exact sg_plain rfl rfl (or_assign rfl)
    exact steps_nil
  intro own23 a23 w23 hd23 hz23 hk23 hf23 hE23
  obtain ⟨⟨g19, (f_2 : a23.eval (.tmp 2) = .pointer (some ⟨g19, 0, none⟩)), (b_g19 : BlkO own23 20 w23 g19 34 #[.int .i64 p1.1, .int .i64 p1.2])⟩, ⟨g21, (f_3 : a23.eval (.tmp 3) = .pointer (some ⟨g21, 0, none⟩)), (b_g21 : BlkO own23 22 w23 g21 36 #[.int .i64 b2.1.1, .int .i64 b2.1.2, .int .i64 b2.2.1, .int .i64 b2.2.2])⟩, -⟩ := hf23 [0, 1] rfl
  have e23_2 := f_2
  have e23_3 := f_3
  have hX23 := Evo.step hE0 (fun _ => Nat.le_refl 0) hE23 rfl
  have b23_g19 := b_g19
  have b23_g21 := b_g21
  obtain ⟨x24, hx24, hs⟩ := obind hs
  obtain ⟨x25, hx25, hs⟩ := obind hs
  refine rg_plain_seq (n := 35) (rs := []) (own0 := own23) (K := [])
      (bs := [0, 1, 0, 4, 12, 31, 63, 127, 255, 127, 639, 1663, 4095, 8191, 16383, 32767, 65535, 32767, 163839, 425983, 1048575, 2097151, 4194303, 8388607, 16777215, 8388607, 41943039, 109051903, 268435455, 536870911, 1073741823])
      (ds := [⟨[], [2], [], Fct.val 5 (.pointer (some ⟨g19, 0, none⟩))⟩,
      ⟨[0], [], [], Fct.val 6 (.int .i64 p1.1)⟩,
      ⟨[], [3], [], Fct.val 7 (.pointer (some ⟨g21, 0, none⟩))⟩,
      ⟨[2], [], [], Fct.val 8 (.pointer (some ⟨g21, 0, none⟩))⟩,
      ⟨[3], [], [], Fct.val 9 (.int .i64 b2.1.1)⟩,
      ⟨[1, 4], [], [], Fct.val 10 (.bool (decide (b2.1.1 ≤ p1.1)))⟩,
      ⟨[5], [], [], Fct.val 11 (.bool (decide (b2.1.1 ≤ p1.1)))⟩,
      ⟨[6], [2], [], Fct.cond (decide (b2.1.1 ≤ p1.1)) (some 12) (Fct.val 12 (.pointer (some ⟨g19, 0, none⟩)))⟩,
      ⟨[6, 7], [], [], Fct.cond (decide (b2.1.1 ≤ p1.1)) (some 13) (Fct.val 13 (.int .i64 p1.1))⟩,
      ⟨[6], [3], [], Fct.cond (decide (b2.1.1 ≤ p1.1)) (some 14) (Fct.val 14 (.pointer (some ⟨g21, 2, none⟩)))⟩,
      ⟨[6, 9], [], [], Fct.cond (decide (b2.1.1 ≤ p1.1)) (some 15) (Fct.val 15 (.pointer (some ⟨g21, 2, none⟩)))⟩,
      ⟨[6, 10], [], [], Fct.cond (decide (b2.1.1 ≤ p1.1)) (some 16) (Fct.val 16 (.int .i64 b2.2.1))⟩,
      ⟨[6, 8, 11], [], [], Fct.cond (decide (b2.1.1 ≤ p1.1)) (some 17) (Fct.val 17 (.bool (decide (p1.1 ≤ b2.2.1))))⟩,
      ⟨[6, 12], [], [], Fct.val 18 (.bool x24)⟩,
      ⟨[13], [], [], Fct.val 19 (.bool x24)⟩,
      ⟨[14], [2], [], Fct.cond x24 (some 20) (Fct.val 20 (.pointer (some ⟨g19, 1, none⟩)))⟩,
      ⟨[14, 15], [], [], Fct.cond x24 (some 21) (Fct.val 21 (.int .i64 p1.2))⟩,
      ⟨[14], [3], [], Fct.cond x24 (some 22) (Fct.val 22 (.pointer (some ⟨g21, 0, none⟩)))⟩,
      ⟨[14, 17], [], [], Fct.cond x24 (some 23) (Fct.val 23 (.pointer (some ⟨g21, 1, none⟩)))⟩,
      ⟨[14, 18], [], [], Fct.cond x24 (some 24) (Fct.val 24 (.int .i64 b2.1.2))⟩,
      ⟨[14, 16, 19], [], [], Fct.cond x24 (some 25) (Fct.val 25 (.bool (decide (b2.1.2 ≤ p1.2))))⟩,
      ⟨[14, 20], [], [], Fct.val 26 (.bool (x24 && (decide (b2.1.2 ≤ p1.2))))⟩,
      ⟨[21], [], [], Fct.val 27 (.bool (x24 && (decide (b2.1.2 ≤ p1.2))))⟩,
      ⟨[22], [2], [], Fct.cond (x24 && (decide (b2.1.2 ≤ p1.2))) (some 28) (Fct.val 28 (.pointer (some ⟨g19, 1, none⟩)))⟩,
      ⟨[22, 23], [], [], Fct.cond (x24 && (decide (b2.1.2 ≤ p1.2))) (some 29) (Fct.val 29 (.int .i64 p1.2))⟩,
      ⟨[22], [3], [], Fct.cond (x24 && (decide (b2.1.2 ≤ p1.2))) (some 30) (Fct.val 30 (.pointer (some ⟨g21, 2, none⟩)))⟩,
      ⟨[22, 25], [], [], Fct.cond (x24 && (decide (b2.1.2 ≤ p1.2))) (some 31) (Fct.val 31 (.pointer (some ⟨g21, 3, none⟩)))⟩,
      ⟨[22, 26], [], [], Fct.cond (x24 && (decide (b2.1.2 ≤ p1.2))) (some 32) (Fct.val 32 (.int .i64 b2.2.2))⟩,
      ⟨[22, 24, 27], [], [], Fct.cond (x24 && (decide (b2.1.2 ≤ p1.2))) (some 33) (Fct.val 33 (.bool (decide (p1.2 ≤ b2.2.2))))⟩,
      ⟨[22, 28], [], [], Fct.val 34 (.bool x25)⟩,
      ⟨[29], [], [], Fct.val 4 (.bool x25)⟩]) (by kernel_rfl) hz23 hd23 (fun _ h => nomatch h) ?_ ?_
  · refine steps_cons (fun own a wx hf hsl hE => ?_) ?_
    · obtain ⟨s_2, -⟩ := hsl
      exact sg_plain rfl rfl (or_field fo34_0 (s_2.trans e23_2) (by rfl))
    refine steps_cons (fun own a wx hf hsl hE => ?_) ?_
    · obtain ⟨(f_5 : a.eval (.tmp 5) = .pointer (some ⟨g19, 0, none⟩)), -⟩ := hf
      exact sg_plain rfl rfl (or_load1 to3 f_5 (Blk.at_ (BlkO.evo (by decide) hE b23_g19).2 0 rfl))
    refine steps_cons (fun own a wx hf hsl hE => ?_) ?_
    · obtain ⟨s_3, -⟩ := hsl
      exact sg_plain rfl rfl (or_field fo36_0 (s_3.trans e23_3) (by rfl))
    refine steps_cons (fun own a wx hf hsl hE => ?_) ?_
    · obtain ⟨(f_7 : a.eval (.tmp 7) = .pointer (some ⟨g21, 0, none⟩)), -⟩ := hf
      exact sg_plain rfl rfl (or_field fo34_0 f_7 (by rfl))
    refine steps_cons (fun own a wx hf hsl hE => ?_) ?_
    · obtain ⟨(f_8 : a.eval (.tmp 8) = .pointer (some ⟨g21, 0, none⟩)), -⟩ := hf
      exact sg_plain rfl rfl (or_load1 to3 f_8 (Blk.at_ (BlkO.evo (by decide) hE b23_g21).2 0 rfl))
    refine steps_cons (fun own a wx hf hsl hE => ?_) ?_
    · obtain ⟨(f_6 : a.eval (.tmp 6) = .int .i64 p1.1), (f_9 : a.eval (.tmp 9) = .int .i64 b2.1.1), -⟩ := hf
      exact sg_plain rfl rfl (or_geq f_6 f_9 rfl)
    refine steps_cons (fun own a wx hf hsl hE => ?_) ?_
    · obtain ⟨(f_10 : a.eval (.tmp 10) = .bool (decide (b2.1.1 ≤ p1.1))), -⟩ := hf
      exact sg_plain rfl rfl (or_move f_10)
    refine steps_cons (fun own a wx hf hsl hE => ?_) ?_
    · obtain ⟨(f_11 : a.eval (.tmp 11) = .bool (decide (b2.1.1 ≤ p1.1))), -⟩ := hf
      obtain ⟨s_2, -⟩ := hsl
      refine sg_t rfl rfl rfl f_11 (fun hg => ?_)
      exact or_field fo34_0 (s_2.trans e23_2) (by rfl)
    refine steps_cons (fun own a wx hf hsl hE => ?_) ?_
    · obtain ⟨(f_11 : a.eval (.tmp 11) = .bool (decide (b2.1.1 ≤ p1.1))), c_12, -⟩ := hf
      refine sg_t rfl rfl rfl f_11 (fun hg => ?_)
      have f_12 : a.eval (.tmp 12) = .pointer (some ⟨g19, 0, none⟩) := c_12.1 hg
      exact or_load1 to3 f_12 (Blk.at_ (BlkO.evo (by decide) hE b23_g19).2 0 rfl)
    refine steps_cons (fun own a wx hf hsl hE => ?_) ?_
    · obtain ⟨(f_11 : a.eval (.tmp 11) = .bool (decide (b2.1.1 ≤ p1.1))), -⟩ := hf
      obtain ⟨s_3, -⟩ := hsl
      refine sg_t rfl rfl rfl f_11 (fun hg => ?_)
      exact or_field fo36_1 (s_3.trans e23_3) (by rfl)
    refine steps_cons (fun own a wx hf hsl hE => ?_) ?_
    · obtain ⟨(f_11 : a.eval (.tmp 11) = .bool (decide (b2.1.1 ≤ p1.1))), c_14, -⟩ := hf
      refine sg_t rfl rfl rfl f_11 (fun hg => ?_)
      have f_14 : a.eval (.tmp 14) = .pointer (some ⟨g21, 2, none⟩) := c_14.1 hg
      exact or_field fo34_0 f_14 (by rfl)
    refine steps_cons (fun own a wx hf hsl hE => ?_) ?_
    · obtain ⟨(f_11 : a.eval (.tmp 11) = .bool (decide (b2.1.1 ≤ p1.1))), c_15, -⟩ := hf
      refine sg_t rfl rfl rfl f_11 (fun hg => ?_)
      have f_15 : a.eval (.tmp 15) = .pointer (some ⟨g21, 2, none⟩) := c_15.1 hg
      exact or_load1 to3 f_15 (Blk.at_ (BlkO.evo (by decide) hE b23_g21).2 2 rfl)
    refine steps_cons (fun own a wx hf hsl hE => ?_) ?_
    · obtain ⟨(f_11 : a.eval (.tmp 11) = .bool (decide (b2.1.1 ≤ p1.1))), c_13, c_16, -⟩ := hf
      refine sg_t rfl rfl rfl f_11 (fun hg => ?_)
      have f_13 : a.eval (.tmp 13) = .int .i64 p1.1 := c_13.1 hg
      have f_16 : a.eval (.tmp 16) = .int .i64 b2.2.1 := c_16.1 hg
      exact or_leq f_13 f_16 rfl
    refine steps_cons (fun own a wx hf hsl hE => ?_) ?_
    · obtain ⟨(f_11 : a.eval (.tmp 11) = .bool (decide (b2.1.1 ≤ p1.1))), c_17, -⟩ := hf
      exact sg_plain rfl rfl (or_and f_11 (fun hx => c_17.1 hx) rfl (osome hx24).symm)
    refine steps_cons (fun own a wx hf hsl hE => ?_) ?_
    · obtain ⟨(f_18 : a.eval (.tmp 18) = .bool x24), -⟩ := hf
      exact sg_plain rfl rfl (or_move f_18)
    refine steps_cons (fun own a wx hf hsl hE => ?_) ?_
    · obtain ⟨(f_19 : a.eval (.tmp 19) = .bool x24), -⟩ := hf
      obtain ⟨s_2, -⟩ := hsl
      refine sg_t rfl rfl rfl f_19 (fun hg => ?_)
      exact or_field fo34_1 (s_2.trans e23_2) (by rfl)
    refine steps_cons (fun own a wx hf hsl hE => ?_) ?_
    · obtain ⟨(f_19 : a.eval (.tmp 19) = .bool x24), c_20, -⟩ := hf
      refine sg_t rfl rfl rfl f_19 (fun hg => ?_)
      have f_20 : a.eval (.tmp 20) = .pointer (some ⟨g19, 1, none⟩) := c_20.1 hg
      exact or_load1 to3 f_20 (Blk.at_ (BlkO.evo (by decide) hE b23_g19).2 1 rfl)
    refine steps_cons (fun own a wx hf hsl hE => ?_) ?_
    · obtain ⟨(f_19 : a.eval (.tmp 19) = .bool x24), -⟩ := hf
      obtain ⟨s_3, -⟩ := hsl
      refine sg_t rfl rfl rfl f_19 (fun hg => ?_)
      exact or_field fo36_0 (s_3.trans e23_3) (by rfl)
    refine steps_cons (fun own a wx hf hsl hE => ?_) ?_
    · obtain ⟨(f_19 : a.eval (.tmp 19) = .bool x24), c_22, -⟩ := hf
      refine sg_t rfl rfl rfl f_19 (fun hg => ?_)
      have f_22 : a.eval (.tmp 22) = .pointer (some ⟨g21, 0, none⟩) := c_22.1 hg
      exact or_field fo34_1 f_22 (by rfl)
    refine steps_cons (fun own a wx hf hsl hE => ?_) ?_
    · obtain ⟨(f_19 : a.eval (.tmp 19) = .bool x24), c_23, -⟩ := hf
      refine sg_t rfl rfl rfl f_19 (fun hg => ?_)
      have f_23 : a.eval (.tmp 23) = .pointer (some ⟨g21, 1, none⟩) := c_23.1 hg
      exact or_load1 to3 f_23 (Blk.at_ (BlkO.evo (by decide) hE b23_g21).2 1 rfl)
    refine steps_cons (fun own a wx hf hsl hE => ?_) ?_
    · obtain ⟨(f_19 : a.eval (.tmp 19) = .bool x24), c_21, c_24, -⟩ := hf
      refine sg_t rfl rfl rfl f_19 (fun hg => ?_)
      have f_21 : a.eval (.tmp 21) = .int .i64 p1.2 := c_21.1 hg
      have f_24 : a.eval (.tmp 24) = .int .i64 b2.1.2 := c_24.1 hg
      exact or_geq f_21 f_24 rfl
    refine steps_cons (fun own a wx hf hsl hE => ?_) ?_
    · obtain ⟨(f_19 : a.eval (.tmp 19) = .bool x24), c_25, -⟩ := hf
      exact sg_plain rfl rfl (or_and f_19 (fun hx => c_25.1 hx) rfl rfl)
    refine steps_cons (fun own a wx hf hsl hE => ?_) ?_
    · obtain ⟨(f_26 : a.eval (.tmp 26) = .bool (x24 && (decide (b2.1.2 ≤ p1.2)))), -⟩ := hf
      exact sg_plain rfl rfl (or_move f_26)
    refine steps_cons (fun own a wx hf hsl hE => ?_) ?_
    · obtain ⟨(f_27 : a.eval (.tmp 27) = .bool (x24 && (decide (b2.1.2 ≤ p1.2)))), -⟩ := hf
      obtain ⟨s_2, -⟩ := hsl
      refine sg_t rfl rfl rfl f_27 (fun hg => ?_)
      exact or_field fo34_1 (s_2.trans e23_2) (by rfl)
    refine steps_cons (fun own a wx hf hsl hE => ?_) ?_
    · obtain ⟨(f_27 : a.eval (.tmp 27) = .bool (x24 && (decide (b2.1.2 ≤ p1.2)))), c_28, -⟩ := hf
      refine sg_t rfl rfl rfl f_27 (fun hg => ?_)
      have f_28 : a.eval (.tmp 28) = .pointer (some ⟨g19, 1, none⟩) := c_28.1 hg
      exact or_load1 to3 f_28 (Blk.at_ (BlkO.evo (by decide) hE b23_g19).2 1 rfl)
    refine steps_cons (fun own a wx hf hsl hE => ?_) ?_
    · obtain ⟨(f_27 : a.eval (.tmp 27) = .bool (x24 && (decide (b2.1.2 ≤ p1.2)))), -⟩ := hf
      obtain ⟨s_3, -⟩ := hsl
      refine sg_t rfl rfl rfl f_27 (fun hg => ?_)
      exact or_field fo36_1 (s_3.trans e23_3) (by rfl)
    refine steps_cons (fun own a wx hf hsl hE => ?_) ?_
    · obtain ⟨(f_27 : a.eval (.tmp 27) = .bool (x24 && (decide (b2.1.2 ≤ p1.2)))), c_30, -⟩ := hf
      refine sg_t rfl rfl rfl f_27 (fun hg => ?_)
      have f_30 : a.eval (.tmp 30) = .pointer (some ⟨g21, 2, none⟩) := c_30.1 hg
      exact or_field fo34_1 f_30 (by rfl)
    refine steps_cons (fun own a wx hf hsl hE => ?_) ?_
    · obtain ⟨(f_27 : a.eval (.tmp 27) = .bool (x24 && (decide (b2.1.2 ≤ p1.2)))), c_31, -⟩ := hf
      refine sg_t rfl rfl rfl f_27 (fun hg => ?_)
      have f_31 : a.eval (.tmp 31) = .pointer (some ⟨g21, 3, none⟩) := c_31.1 hg
      exact or_load1 to3 f_31 (Blk.at_ (BlkO.evo (by decide) hE b23_g21).2 3 rfl)
    refine steps_cons (fun own a wx hf hsl hE => ?_) ?_
    · obtain ⟨(f_27 : a.eval (.tmp 27) = .bool (x24 && (decide (b2.1.2 ≤ p1.2)))), c_29, c_32, -⟩ := hf
      refine sg_t rfl rfl rfl f_27 (fun hg => ?_)
      have f_29 : a.eval (.tmp 29) = .int .i64 p1.2 := c_29.1 hg
      have f_32 : a.eval (.tmp 32) = .int .i64 b2.2.2 := c_32.1 hg
      exact or_leq f_29 f_32 rfl
    refine steps_cons (fun own a wx hf hsl hE => ?_) ?_
    · obtain ⟨(f_27 : a.eval (.tmp 27) = .bool (x24 && (decide (b2.1.2 ≤ p1.2)))), c_33, -⟩ := hf
      exact sg_plain rfl rfl (or_and f_27 (fun hx => c_33.1 hx) rfl (osome hx25).symm)
    refine steps_cons (fun own a wx hf hsl hE => ?_) ?_
    · obtain ⟨(f_34 : a.eval (.tmp 34) = .bool x25), -⟩ := hf
      exact sg_plain rfl rfl (or_assign f_34)
    exact steps_nil
  intro own26 a26 w26 hd26 hz26 hk26 hf26 hE26
  obtain ⟨(f_4 : a26.eval (.tmp 4) = .bool x25), -⟩ := hf26 [30] rfl
  have e26_4 := f_4
  have hX26 := Evo.step hX23 (fun _ => Nat.le_refl 0) hE26 rfl
  refine fl_ret ?_
  obtain rfl := (osome hs).symm
  exact hret _ _ _ _ (.inl rfl) hd26 (results1_ rfl (RVal.tmp_ e26_4)) ⟨own26, rfl, hX26⟩

theorem lineclip_side_w (w : World) (p1 : Int) (q2 : Int) (low3 : Int) (high4 : Int) (r : Bool) (hs : lineclip_side p1 q2 low3 high4 = some r) :
    Calls Try.prog 31 #[.int .i64 p1, .int .i64 q2, .int .i64 low3, .int .i64 high4] w fun e w' => ∃ own' : Own, e = .returned (.bool r) ∧ Evo [] (fun _ => 0) own' w w' := by
  refine fl_enter (n := 22) rfl rfl rfl (Nat.le_of_ble_eq_true rfl) ?_
  intro a0 Q hd0 hz0 harg hret
  have ha0 := harg 0 _ rfl
  have ha1 := harg 1 _ rfl
  have ha2 := harg 2 _ rfl
  have ha3 := harg 3 _ rfl
  clear harg
  have hE0 : Evo [] (fun _ => 0) (fun _ => 0) w w := Evo.refl _ _ _
  refine rg_plain_seq (n := 22) (rs := []) (own0 := (fun _ => 0)) (K := [])
      (bs := [0])
      (ds := [⟨[], [], [], Fct.val 8 (.bool false)⟩]) (by kernel_rfl) hz0 hd0 (fun _ h => nomatch h) ?_ ?_
  · refine steps_cons (fun own a wx hf hsl hE => ?_) ?_
    · exact sg_plain rfl rfl (or_assign rfl)
    exact steps_nil
  intro own14 a14 w14 hd14 hz14 hk14 hf14 hE14
  have e14_0 : a14.eval (.tmp 0) = .int .i64 p1 := (hk14 0 rfl).trans ha0
  have e14_1 : a14.eval (.tmp 1) = .int .i64 q2 := (hk14 1 rfl).trans ha1
  have e14_2 : a14.eval (.tmp 2) = .int .i64 low3 := (hk14 2 rfl).trans ha2
  have e14_3 : a14.eval (.tmp 3) = .int .i64 high4 := (hk14 3 rfl).trans ha3
  have hX14 := Evo.step hE0 (fun _ => Nat.le_refl 0) hE14 rfl
  obtain ⟨x15, hx15, hs⟩ := obind hs
  refine rg_plain_seq (n := 22) (rs := []) (own0 := own14) (K := [])
      (bs := [0, 0, 3, 7, 15, 15, 63, 127, 255, 255, 1023, 2047, 4095, 8191])
      (ds := [⟨[], [0], [], Fct.val 9 (.int .i64 p1)⟩,
      ⟨[], [1], [], Fct.val 10 (.int .i64 q2)⟩,
      ⟨[0, 1], [], [], Fct.val 11 (.bool (decide (p1 = q2)))⟩,
      ⟨[2], [], [], Fct.val 12 (.bool (decide (p1 = q2)))⟩,
      ⟨[3], [0], [], Fct.cond (decide (p1 = q2)) (some 13) (Fct.val 13 (.int .i64 p1))⟩,
      ⟨[3], [2], [], Fct.cond (decide (p1 = q2)) (some 14) (Fct.val 14 (.int .i64 low3))⟩,
      ⟨[3, 4, 5], [], [], Fct.cond (decide (p1 = q2)) (some 15) (Fct.val 15 (.bool (decide (p1 = low3))))⟩,
      ⟨[3, 6], [], [], Fct.cond (decide (p1 = q2)) (some 16) (Fct.val 16 (.bool (decide (p1 = low3))))⟩,
      ⟨[7], [0], [], Fct.cond ((decide (p1 = q2)) && (!(decide (p1 = low3)))) (some 17) (Fct.val 17 (.int .i64 p1))⟩,
      ⟨[7], [3], [], Fct.cond ((decide (p1 = q2)) && (!(decide (p1 = low3)))) (some 18) (Fct.val 18 (.int .i64 high4))⟩,
      ⟨[7, 8, 9], [], [], Fct.cond ((decide (p1 = q2)) && (!(decide (p1 = low3)))) (some 19) (Fct.val 19 (.bool (decide (p1 = high4))))⟩,
      ⟨[3, 7, 10], [], [], Fct.cond (decide (p1 = q2)) (some 20) (Fct.val 20 (.bool x15))⟩,
      ⟨[3, 11], [], [], Fct.val 21 (.bool ((decide (p1 = q2)) && x15))⟩,
      ⟨[12], [], [], Fct.val 8 (.bool ((decide (p1 = q2)) && x15))⟩]) (by kernel_rfl) hz14 hd14 (fun _ h => nomatch h) ?_ ?_
  · refine steps_cons (fun own a wx hf hsl hE => ?_) ?_
    · obtain ⟨s_0, -⟩ := hsl
      exact sg_plain rfl rfl (or_move (s_0.trans e14_0))
    refine steps_cons (fun own a wx hf hsl hE => ?_) ?_
    · obtain ⟨s_1, -⟩ := hsl
      exact sg_plain rfl rfl (or_move (s_1.trans e14_1))
    refine steps_cons (fun own a wx hf hsl hE => ?_) ?_
    · obtain ⟨(f_9 : a.eval (.tmp 9) = .int .i64 p1), (f_10 : a.eval (.tmp 10) = .int .i64 q2), -⟩ := hf
      exact sg_plain rfl rfl (or_eql f_9 f_10 rfl)
    refine steps_cons (fun own a wx hf hsl hE => ?_) ?_
    · obtain ⟨(f_11 : a.eval (.tmp 11) = .bool (decide (p1 = q2))), -⟩ := hf
      exact sg_plain rfl rfl (or_move f_11)
    refine steps_cons (fun own a wx hf hsl hE => ?_) ?_
    · obtain ⟨(f_12 : a.eval (.tmp 12) = .bool (decide (p1 = q2))), -⟩ := hf
      obtain ⟨s_0, -⟩ := hsl
      refine sg_t rfl rfl rfl f_12 (fun hg => ?_)
      exact or_move (s_0.trans e14_0)
    refine steps_cons (fun own a wx hf hsl hE => ?_) ?_
    · obtain ⟨(f_12 : a.eval (.tmp 12) = .bool (decide (p1 = q2))), -⟩ := hf
      obtain ⟨s_2, -⟩ := hsl
      refine sg_t rfl rfl rfl f_12 (fun hg => ?_)
      exact or_move (s_2.trans e14_2)
    refine steps_cons (fun own a wx hf hsl hE => ?_) ?_
    · obtain ⟨(f_12 : a.eval (.tmp 12) = .bool (decide (p1 = q2))), c_13, c_14, -⟩ := hf
      refine sg_t rfl rfl rfl f_12 (fun hg => ?_)
      have f_13 : a.eval (.tmp 13) = .int .i64 p1 := c_13.1 hg
      have f_14 : a.eval (.tmp 14) = .int .i64 low3 := c_14.1 hg
      exact or_eql f_13 f_14 rfl
    refine steps_cons (fun own a wx hf hsl hE => ?_) ?_
    · obtain ⟨(f_12 : a.eval (.tmp 12) = .bool (decide (p1 = q2))), c_15, -⟩ := hf
      refine sg_t rfl rfl rfl f_12 (fun hg => ?_)
      have f_15 : a.eval (.tmp 15) = .bool (decide (p1 = low3)) := c_15.1 hg
      exact or_move f_15
    refine steps_cons (fun own a wx hf hsl hE => ?_) ?_
    · obtain ⟨c_16, -⟩ := hf
      obtain ⟨s_0, -⟩ := hsl
      refine sg_fc rfl rfl rfl c_16 (fun hg => ?_)
      have f_16 : a.eval (.tmp 16) = .bool (decide (p1 = low3)) := c_16.1 (gL hg)
      exact or_move (s_0.trans e14_0)
    refine steps_cons (fun own a wx hf hsl hE => ?_) ?_
    · obtain ⟨c_16, -⟩ := hf
      obtain ⟨s_3, -⟩ := hsl
      refine sg_fc rfl rfl rfl c_16 (fun hg => ?_)
      have f_16 : a.eval (.tmp 16) = .bool (decide (p1 = low3)) := c_16.1 (gL hg)
      exact or_move (s_3.trans e14_3)
    refine steps_cons (fun own a wx hf hsl hE => ?_) ?_
    · obtain ⟨c_16, c_17, c_18, -⟩ := hf
      refine sg_fc rfl rfl rfl c_16 (fun hg => ?_)
      have f_16 : a.eval (.tmp 16) = .bool (decide (p1 = low3)) := c_16.1 (gL hg)
      have f_17 : a.eval (.tmp 17) = .int .i64 p1 := c_17.1 hg
      have f_18 : a.eval (.tmp 18) = .int .i64 high4 := c_18.1 hg
      exact or_eql f_17 f_18 rfl
    refine steps_cons (fun own a wx hf hsl hE => ?_) ?_
    · obtain ⟨(f_12 : a.eval (.tmp 12) = .bool (decide (p1 = q2))), c_16, c_19, -⟩ := hf
      refine sg_t rfl rfl rfl f_12 (fun hg => ?_)
      have f_16 : a.eval (.tmp 16) = .bool (decide (p1 = low3)) := c_16.1 hg
      exact or_or f_16 rfl (fun hx => c_19.1 (gI hg hx)) (osome hx15).symm
    refine steps_cons (fun own a wx hf hsl hE => ?_) ?_
    · obtain ⟨(f_12 : a.eval (.tmp 12) = .bool (decide (p1 = q2))), c_20, -⟩ := hf
      exact sg_plain rfl rfl (or_and f_12 (fun hx => c_20.1 hx) rfl rfl)
    refine steps_cons (fun own a wx hf hsl hE => ?_) ?_
    · obtain ⟨(f_21 : a.eval (.tmp 21) = .bool ((decide (p1 = q2)) && x15)), -⟩ := hf
      exact sg_plain rfl rfl (or_assign f_21)
    exact steps_nil
  intro own16 a16 w16 hd16 hz16 hk16 hf16 hE16
  obtain ⟨(f_8 : a16.eval (.tmp 8) = .bool ((decide (p1 = q2)) && x15)), -⟩ := hf16 [13] rfl
  have e16_8 := f_8
  have hX16 := Evo.step hX14 (fun _ => Nat.le_refl 0) hE16 rfl
  refine fl_ret ?_
  obtain rfl := osome hs
  exact hret _ _ _ _ (.inl rfl) hd16 (results1_ rfl (RVal.tmp_ e16_8)) ⟨own16, rfl, hX16⟩

theorem lineclip_Shown_w (w : World) (p1 : Int × Int) (q2 : Int × Int) (b3 : (Int × Int) × (Int × Int)) (r : Bool) (hs : lineclip_Shown p1 q2 b3 = some r) :
    Calls Try.prog 15 #[.agg #[.int .i64 p1.1, .int .i64 p1.2], .agg #[.int .i64 q2.1, .int .i64 q2.2], .agg #[.int .i64 b3.1.1, .int .i64 b3.1.2, .int .i64 b3.2.1, .int .i64 b3.2.2]] w fun e w' => ∃ own' : Own, e = .returned (.bool r) ∧ Evo [] (fun _ => 0) own' w w' := by
  refine fl_enter (n := 58) rfl rfl rfl (Nat.le_of_ble_eq_true rfl) ?_
  intro a0 Q hd0 hz0 harg hret
  have ha0 := harg 0 _ rfl
  have ha1 := harg 1 _ rfl
  have ha2 := harg 2 _ rfl
  clear harg
  have hE0 : Evo [] (fun _ => 0) (fun _ => 0) w w := Evo.refl _ _ _
  refine rg_plain_seq (n := 58) (rs := []) (own0 := (fun _ => 0)) (K := [])
      (bs := [0, 0, 0, 0])
      (ds := [⟨[], [0], [], Fct.blk 30 3 (fun g => .pointer (some ⟨g, 0, none⟩)) 34 #[.int .i64 p1.1, .int .i64 p1.2]⟩,
      ⟨[], [1], [], Fct.blk 32 4 (fun g => .pointer (some ⟨g, 0, none⟩)) 34 #[.int .i64 q2.1, .int .i64 q2.2]⟩,
      ⟨[], [2], [], Fct.blk 34 5 (fun g => .pointer (some ⟨g, 0, none⟩)) 36 #[.int .i64 b3.1.1, .int .i64 b3.1.2, .int .i64 b3.2.1, .int .i64 b3.2.2]⟩,
      ⟨[], [], [], Fct.val 6 (.bool false)⟩]) (by kernel_rfl) hz0 hd0 (fun _ h => nomatch h) ?_ ?_
  · refine steps_cons (fun own a wx hf hsl hE => ?_) ?_
    · obtain ⟨s_0, -⟩ := hsl
      exact sg_plain rfl rfl (or_new [(0, .agg #[.int .i64 p1.1, .int .i64 p1.2])] rfl rfl ⟨(s_0.trans ha0), trivial⟩ (by kernel_rfl))
    refine steps_cons (fun own a wx hf hsl hE => ?_) ?_
    · obtain ⟨s_1, -⟩ := hsl
      exact sg_plain rfl rfl (or_new [(1, .agg #[.int .i64 q2.1, .int .i64 q2.2])] rfl rfl ⟨(s_1.trans ha1), trivial⟩ (by kernel_rfl))
    refine steps_cons (fun own a wx hf hsl hE => ?_) ?_
    · obtain ⟨s_2, -⟩ := hsl
      exact sg_plain rfl rfl (or_new [(2, .agg #[.int .i64 b3.1.1, .int .i64 b3.1.2, .int .i64 b3.2.1, .int .i64 b3.2.2])] rfl rfl ⟨(s_2.trans ha2), trivial⟩ (by kernel_rfl))
    refine steps_cons (fun own a wx hf hsl hE => ?_) ?_
    · exact sg_plain rfl rfl (or_assign rfl)
    exact steps_nil
  intro own35 a35 w35 hd35 hz35 hk35 hf35 hE35
  obtain ⟨⟨g29, (f_3 : a35.eval (.tmp 3) = .pointer (some ⟨g29, 0, none⟩)), (b_g29 : BlkO own35 30 w35 g29 34 #[.int .i64 p1.1, .int .i64 p1.2])⟩, ⟨g31, (f_4 : a35.eval (.tmp 4) = .pointer (some ⟨g31, 0, none⟩)), (b_g31 : BlkO own35 32 w35 g31 34 #[.int .i64 q2.1, .int .i64 q2.2])⟩, ⟨g33, (f_5 : a35.eval (.tmp 5) = .pointer (some ⟨g33, 0, none⟩)), (b_g33 : BlkO own35 34 w35 g33 36 #[.int .i64 b3.1.1, .int .i64 b3.1.2, .int .i64 b3.2.1, .int .i64 b3.2.2])⟩, -⟩ := hf35 [0, 1, 2] rfl
  have e35_3 := f_3
  have e35_4 := f_4
  have e35_5 := f_5
  have hX35 := Evo.step hE0 (fun _ => Nat.le_refl 0) hE35 rfl
  have b35_g29 := b_g29
  have b35_g31 := b_g31
  have b35_g33 := b_g33
  obtain ⟨r38, hr38, hs⟩ := obind hs
  obtain ⟨r39, hr39, hs⟩ := obind hs
  obtain ⟨x40, hx40, hs⟩ := obind hs
  obtain ⟨r41, hr41, hs⟩ := obind hs
  obtain ⟨r42, hr42, hs⟩ := obind hs
  obtain ⟨r43, hr43, hs⟩ := obind hs
  obtain ⟨r44, hr44, hs⟩ := obind hs
  obtain ⟨x45, hx45, hs⟩ := obind hs
  refine rg_plain_seq (n := 58) (rs := []) (own0 := own35) (K := [])
      (bs := [0, 0, 3, 7, 15, 15, 63, 127, 255, 511, 1023, 2047, 4095, 8191, 16383, 16383, 65535, 131071, 262143, 524287, 524287, 2097151, 4194303, 8388607, 16777215, 33554431, 16777215, 83886079, 16777215, 285212671, 822083583, 16777215, 2164260863, 6459228159, 17179869183, 34359738367, 68719476735, 137438953471, 274877906943, 549755813887, 274877906943, 1374389534719, 274877906943, 4672924418047, 13469017440255, 274877906943, 35459249995775, 105827994173439, 281474976710655, 562949953421311, 1125899906842623, 2251799813685247])
      (ds := [⟨[], [3], [], Fct.val 7 (.agg #[.int .i64 p1.1, .int .i64 p1.2])⟩,
      ⟨[], [4], [], Fct.val 8 (.agg #[.int .i64 q2.1, .int .i64 q2.2])⟩,
      ⟨[0, 1], [], [], Fct.val 9 (.bool (!decide (p1 = q2)))⟩,
      ⟨[2], [], [], Fct.val 10 (.bool (!decide (p1 = q2)))⟩,
      ⟨[3], [3], [], Fct.cond (!decide (p1 = q2)) (some 11) (Fct.val 11 (.agg #[.int .i64 p1.1, .int .i64 p1.2]))⟩,
      ⟨[3], [4], [], Fct.cond (!decide (p1 = q2)) (some 12) (Fct.val 12 (.agg #[.int .i64 q2.1, .int .i64 q2.2]))⟩,
      ⟨[3, 4, 5], [], [], Fct.cond (!decide (p1 = q2)) (some 13) (Fct.row 37 [] 13 34 R34 [p1, q2])⟩,
      ⟨[3, 6], [], [], Fct.cond (!decide (p1 = q2)) (some 14) (Fct.val 14 (.bool r38))⟩,
      ⟨[3, 7], [], [], Fct.val 15 (.bool ((!decide (p1 = q2)) && r38))⟩,
      ⟨[8], [], [], Fct.val 16 (.bool ((!decide (p1 = q2)) && r38))⟩,
      ⟨[9], [5], [], Fct.cond ((!decide (p1 = q2)) && r38) (some 17) (Fct.val 17 (.agg #[.int .i64 b3.1.1, .int .i64 b3.1.2, .int .i64 b3.2.1, .int .i64 b3.2.2]))⟩,
      ⟨[9, 10], [], [], Fct.cond ((!decide (p1 = q2)) && r38) (some 18) (Fct.val 18 (.bool r39))⟩,
      ⟨[9, 11], [], [], Fct.val 19 (.bool x40)⟩,
      ⟨[12], [], [], Fct.val 20 (.bool x40)⟩,
      ⟨[13], [3], [], Fct.cond x40 (some 21) (Fct.val 21 (.agg #[.int .i64 p1.1, .int .i64 p1.2]))⟩,
      ⟨[13], [5], [], Fct.cond x40 (some 22) (Fct.val 22 (.agg #[.int .i64 b3.1.1, .int .i64 b3.1.2, .int .i64 b3.2.1, .int .i64 b3.2.2]))⟩,
      ⟨[13, 14, 15], [], [], Fct.cond x40 (some 23) (Fct.val 23 (.bool r41))⟩,
      ⟨[13, 16], [], [], Fct.val 24 (.bool (x40 && r41))⟩,
      ⟨[17], [], [], Fct.val 25 (.bool (x40 && r41))⟩,
      ⟨[18], [4], [], Fct.cond (x40 && r41) (some 26) (Fct.val 26 (.agg #[.int .i64 q2.1, .int .i64 q2.2]))⟩,
      ⟨[18], [5], [], Fct.cond (x40 && r41) (some 27) (Fct.val 27 (.agg #[.int .i64 b3.1.1, .int .i64 b3.1.2, .int .i64 b3.2.1, .int .i64 b3.2.2]))⟩,
      ⟨[18, 19, 20], [], [], Fct.cond (x40 && r41) (some 28) (Fct.val 28 (.bool r42))⟩,
      ⟨[18, 21], [], [], Fct.val 29 (.bool ((x40 && r41) && r42))⟩,
      ⟨[22], [], [], Fct.val 30 (.bool ((x40 && r41) && r42))⟩,
      ⟨[23], [3], [], Fct.cond ((x40 && r41) && r42) (some 31) (Fct.val 31 (.pointer (some ⟨g29, 0, none⟩)))⟩,
      ⟨[23, 24], [], [], Fct.cond ((x40 && r41) && r42) (some 32) (Fct.val 32 (.int .i64 p1.1))⟩,
      ⟨[23], [4], [], Fct.cond ((x40 && r41) && r42) (some 33) (Fct.val 33 (.pointer (some ⟨g31, 0, none⟩)))⟩,
      ⟨[23, 26], [], [], Fct.cond ((x40 && r41) && r42) (some 34) (Fct.val 34 (.int .i64 q2.1))⟩,
      ⟨[23], [5], [], Fct.cond ((x40 && r41) && r42) (some 35) (Fct.val 35 (.pointer (some ⟨g33, 0, none⟩)))⟩,
      ⟨[23, 28], [], [], Fct.cond ((x40 && r41) && r42) (some 36) (Fct.val 36 (.pointer (some ⟨g33, 0, none⟩)))⟩,
      ⟨[23, 29], [], [], Fct.cond ((x40 && r41) && r42) (some 37) (Fct.val 37 (.int .i64 b3.1.1))⟩,
      ⟨[23], [5], [], Fct.cond ((x40 && r41) && r42) (some 38) (Fct.val 38 (.pointer (some ⟨g33, 2, none⟩)))⟩,
      ⟨[23, 31], [], [], Fct.cond ((x40 && r41) && r42) (some 39) (Fct.val 39 (.pointer (some ⟨g33, 2, none⟩)))⟩,
      ⟨[23, 32], [], [], Fct.cond ((x40 && r41) && r42) (some 40) (Fct.val 40 (.int .i64 b3.2.1))⟩,
      ⟨[23, 25, 27, 30, 33], [], [], Fct.cond ((x40 && r41) && r42) (some 41) (Fct.val 41 (.bool r43))⟩,
      ⟨[23, 34], [], [], Fct.cond ((x40 && r41) && r42) (some 42) (Fct.val 42 (.bool (!r43)))⟩,
      ⟨[23, 35], [], [], Fct.val 43 (.bool (((x40 && r41) && r42) && (!r43)))⟩,
      ⟨[36], [], [], Fct.val 44 (.bool (((x40 && r41) && r42) && (!r43)))⟩,
      ⟨[37], [3], [], Fct.cond (((x40 && r41) && r42) && (!r43)) (some 45) (Fct.val 45 (.pointer (some ⟨g29, 1, none⟩)))⟩,
      ⟨[37, 38], [], [], Fct.cond (((x40 && r41) && r42) && (!r43)) (some 46) (Fct.val 46 (.int .i64 p1.2))⟩,
      ⟨[37], [4], [], Fct.cond (((x40 && r41) && r42) && (!r43)) (some 47) (Fct.val 47 (.pointer (some ⟨g31, 1, none⟩)))⟩,
      ⟨[37, 40], [], [], Fct.cond (((x40 && r41) && r42) && (!r43)) (some 48) (Fct.val 48 (.int .i64 q2.2))⟩,
      ⟨[37], [5], [], Fct.cond (((x40 && r41) && r42) && (!r43)) (some 49) (Fct.val 49 (.pointer (some ⟨g33, 0, none⟩)))⟩,
      ⟨[37, 42], [], [], Fct.cond (((x40 && r41) && r42) && (!r43)) (some 50) (Fct.val 50 (.pointer (some ⟨g33, 1, none⟩)))⟩,
      ⟨[37, 43], [], [], Fct.cond (((x40 && r41) && r42) && (!r43)) (some 51) (Fct.val 51 (.int .i64 b3.1.2))⟩,
      ⟨[37], [5], [], Fct.cond (((x40 && r41) && r42) && (!r43)) (some 52) (Fct.val 52 (.pointer (some ⟨g33, 2, none⟩)))⟩,
      ⟨[37, 45], [], [], Fct.cond (((x40 && r41) && r42) && (!r43)) (some 53) (Fct.val 53 (.pointer (some ⟨g33, 3, none⟩)))⟩,
      ⟨[37, 46], [], [], Fct.cond (((x40 && r41) && r42) && (!r43)) (some 54) (Fct.val 54 (.int .i64 b3.2.2))⟩,
      ⟨[37, 39, 41, 44, 47], [], [], Fct.cond (((x40 && r41) && r42) && (!r43)) (some 55) (Fct.val 55 (.bool r44))⟩,
      ⟨[37, 48], [], [], Fct.cond (((x40 && r41) && r42) && (!r43)) (some 56) (Fct.val 56 (.bool (!r44)))⟩,
      ⟨[37, 49], [], [], Fct.val 57 (.bool x45)⟩,
      ⟨[50], [], [], Fct.val 6 (.bool x45)⟩]) (by kernel_rfl) hz35 hd35 (fun _ h => nomatch h) ?_ ?_
  · refine steps_cons (fun own a wx hf hsl hE => ?_) ?_
    · obtain ⟨s_3, -⟩ := hsl
      exact sg_plain rfl rfl (or_load (l := [.int .i64 p1.1, .int .i64 p1.2]) ta34 (s_3.trans e35_3) (Blk.cellsFrom (BlkO.evo (by decide) hE b35_g29).2 0 rfl) rfl)
    refine steps_cons (fun own a wx hf hsl hE => ?_) ?_
    · obtain ⟨s_4, -⟩ := hsl
      exact sg_plain rfl rfl (or_load (l := [.int .i64 q2.1, .int .i64 q2.2]) ta34 (s_4.trans e35_4) (Blk.cellsFrom (BlkO.evo (by decide) hE b35_g31).2 0 rfl) rfl)
    refine steps_cons (fun own a wx hf hsl hE => ?_) ?_
    · obtain ⟨(f_7 : a.eval (.tmp 7) = .agg #[.int .i64 p1.1, .int .i64 p1.2]), (f_8 : a.eval (.tmp 8) = .agg #[.int .i64 q2.1, .int .i64 q2.2]), -⟩ := hf
      exact sg_plain rfl rfl (or_neqA sg34 f_7 f_8 (sn34 p1.1 p1.2 q2.1 q2.2 _) rfl)
    refine steps_cons (fun own a wx hf hsl hE => ?_) ?_
    · obtain ⟨(f_9 : a.eval (.tmp 9) = .bool (!decide (p1 = q2))), -⟩ := hf
      exact sg_plain rfl rfl (or_move f_9)
    refine steps_cons (fun own a wx hf hsl hE => ?_) ?_
    · obtain ⟨(f_10 : a.eval (.tmp 10) = .bool (!decide (p1 = q2))), -⟩ := hf
      obtain ⟨s_3, -⟩ := hsl
      refine sg_t rfl rfl rfl f_10 (fun hg => ?_)
      exact or_load (l := [.int .i64 p1.1, .int .i64 p1.2]) ta34 (s_3.trans e35_3) (Blk.cellsFrom (BlkO.evo (by decide) hE b35_g29).2 0 rfl) rfl
    refine steps_cons (fun own a wx hf hsl hE => ?_) ?_
    · obtain ⟨(f_10 : a.eval (.tmp 10) = .bool (!decide (p1 = q2))), -⟩ := hf
      obtain ⟨s_4, -⟩ := hsl
      refine sg_t rfl rfl rfl f_10 (fun hg => ?_)
      exact or_load (l := [.int .i64 q2.1, .int .i64 q2.2]) ta34 (s_4.trans e35_4) (Blk.cellsFrom (BlkO.evo (by decide) hE b35_g31).2 0 rfl) rfl
    refine steps_cons (fun own a wx hf hsl hE => ?_) ?_
    · obtain ⟨(f_10 : a.eval (.tmp 10) = .bool (!decide (p1 = q2))), c_11, c_12, -⟩ := hf
      refine sg_t rfl rfl rfl f_10 (fun hg => ?_)
      have f_11 : a.eval (.tmp 11) = .agg #[.int .i64 p1.1, .int .i64 p1.2] := c_11.1 hg
      have f_12 : a.eval (.tmp 12) = .agg #[.int .i64 q2.1, .int .i64 q2.2] := c_12.1 hg
      exact or_lit (lab := 37) (e := 34) (cs := #[.int .i64 p1.1, .int .i64 p1.2, .int .i64 q2.1, .int .i64 q2.2]) (F := E34) (or_new [(11, .agg #[.int .i64 p1.1, .int .i64 p1.2]), (12, .agg #[.int .i64 q2.1, .int .i64 q2.2])] rfl rfl ⟨f_11, f_12, trivial⟩ (by kernel_rfl)) rfl rfl (show 2 ≤ maxLen by decide)
    refine steps_cons (fun own a wx hf hsl hE => ?_) ?_
    · obtain ⟨(f_10 : a.eval (.tmp 10) = .bool (!decide (p1 = q2))), c_13, -⟩ := hf
      refine sg_t rfl rfl rfl f_10 (fun hg => ?_)
      obtain ⟨⟨A36, cA36⟩, (f_13 : a.eval (.tmp 13) = .slice A36 [p1, q2].length cA36), (b_A36 : RwO own 37 [] wx 34 R34 A36 cA36 [p1, q2])⟩ := c_13.1 hg
      exact or_call cf29 (args1 f_13) (exact_Right_w _ [p1, q2] A36 cA36 (RdO.zero (RwO.rd b_A36)) r38 (gd_t hr38 hg)) post_val
    refine steps_cons (fun own a wx hf hsl hE => ?_) ?_
    · obtain ⟨(f_10 : a.eval (.tmp 10) = .bool (!decide (p1 = q2))), c_14, -⟩ := hf
      exact sg_plain rfl rfl (or_and f_10 (fun hx => c_14.1 hx) rfl rfl)
    refine steps_cons (fun own a wx hf hsl hE => ?_) ?_
    · obtain ⟨(f_15 : a.eval (.tmp 15) = .bool ((!decide (p1 = q2)) && r38)), -⟩ := hf
      exact sg_plain rfl rfl (or_move f_15)
    refine steps_cons (fun own a wx hf hsl hE => ?_) ?_
    · obtain ⟨(f_16 : a.eval (.tmp 16) = .bool ((!decide (p1 = q2)) && r38)), -⟩ := hf
      obtain ⟨s_5, -⟩ := hsl
      refine sg_t rfl rfl rfl f_16 (fun hg => ?_)
      exact or_load (l := [.int .i64 b3.1.1, .int .i64 b3.1.2, .int .i64 b3.2.1, .int .i64 b3.2.2]) ta36 (s_5.trans e35_5) (Blk.cellsFrom (BlkO.evo (by decide) hE b35_g33).2 0 rfl) rfl
    refine steps_cons (fun own a wx hf hsl hE => ?_) ?_
    · obtain ⟨(f_16 : a.eval (.tmp 16) = .bool ((!decide (p1 = q2)) && r38)), c_17, -⟩ := hf
      refine sg_t rfl rfl rfl f_16 (fun hg => ?_)
      have f_17 : a.eval (.tmp 17) = .agg #[.int .i64 b3.1.1, .int .i64 b3.1.2, .int .i64 b3.2.1, .int .i64 b3.2.2] := c_17.1 hg
      exact or_call cf22 (args1 f_17) (rows_Right_w _ b3  r39 (gd_t hr39 hg)) post_val
    refine steps_cons (fun own a wx hf hsl hE => ?_) ?_
    · obtain ⟨(f_16 : a.eval (.tmp 16) = .bool ((!decide (p1 = q2)) && r38)), c_18, -⟩ := hf
      exact sg_plain rfl rfl (or_and f_16 (fun hx => c_18.1 hx) rfl (osome hx40).symm)
    refine steps_cons (fun own a wx hf hsl hE => ?_) ?_
    · obtain ⟨(f_19 : a.eval (.tmp 19) = .bool x40), -⟩ := hf
      exact sg_plain rfl rfl (or_move f_19)
    refine steps_cons (fun own a wx hf hsl hE => ?_) ?_
    · obtain ⟨(f_20 : a.eval (.tmp 20) = .bool x40), -⟩ := hf
      obtain ⟨s_3, -⟩ := hsl
      refine sg_t rfl rfl rfl f_20 (fun hg => ?_)
      exact or_load (l := [.int .i64 p1.1, .int .i64 p1.2]) ta34 (s_3.trans e35_3) (Blk.cellsFrom (BlkO.evo (by decide) hE b35_g29).2 0 rfl) rfl
    refine steps_cons (fun own a wx hf hsl hE => ?_) ?_
    · obtain ⟨(f_20 : a.eval (.tmp 20) = .bool x40), -⟩ := hf
      obtain ⟨s_5, -⟩ := hsl
      refine sg_t rfl rfl rfl f_20 (fun hg => ?_)
      exact or_load (l := [.int .i64 b3.1.1, .int .i64 b3.1.2, .int .i64 b3.2.1, .int .i64 b3.2.2]) ta36 (s_5.trans e35_5) (Blk.cellsFrom (BlkO.evo (by decide) hE b35_g33).2 0 rfl) rfl
    refine steps_cons (fun own a wx hf hsl hE => ?_) ?_
    · obtain ⟨(f_20 : a.eval (.tmp 20) = .bool x40), c_21, c_22, -⟩ := hf
      refine sg_t rfl rfl rfl f_20 (fun hg => ?_)
      have f_21 : a.eval (.tmp 21) = .agg #[.int .i64 p1.1, .int .i64 p1.2] := c_21.1 hg
      have f_22 : a.eval (.tmp 22) = .agg #[.int .i64 b3.1.1, .int .i64 b3.1.2, .int .i64 b3.2.1, .int .i64 b3.2.2] := c_22.1 hg
      exact or_call cf30 (args2 f_21 f_22) (lineclip_within_w _ p1 b3  r41 (gd_t hr41 hg)) post_val
    refine steps_cons (fun own a wx hf hsl hE => ?_) ?_
    · obtain ⟨(f_20 : a.eval (.tmp 20) = .bool x40), c_23, -⟩ := hf
      exact sg_plain rfl rfl (or_and f_20 (fun hx => c_23.1 hx) rfl rfl)
    refine steps_cons (fun own a wx hf hsl hE => ?_) ?_
    · obtain ⟨(f_24 : a.eval (.tmp 24) = .bool (x40 && r41)), -⟩ := hf
      exact sg_plain rfl rfl (or_move f_24)
    refine steps_cons (fun own a wx hf hsl hE => ?_) ?_
    · obtain ⟨(f_25 : a.eval (.tmp 25) = .bool (x40 && r41)), -⟩ := hf
      obtain ⟨s_4, -⟩ := hsl
      refine sg_t rfl rfl rfl f_25 (fun hg => ?_)
      exact or_load (l := [.int .i64 q2.1, .int .i64 q2.2]) ta34 (s_4.trans e35_4) (Blk.cellsFrom (BlkO.evo (by decide) hE b35_g31).2 0 rfl) rfl
    refine steps_cons (fun own a wx hf hsl hE => ?_) ?_
    · obtain ⟨(f_25 : a.eval (.tmp 25) = .bool (x40 && r41)), -⟩ := hf
      obtain ⟨s_5, -⟩ := hsl
      refine sg_t rfl rfl rfl f_25 (fun hg => ?_)
      exact or_load (l := [.int .i64 b3.1.1, .int .i64 b3.1.2, .int .i64 b3.2.1, .int .i64 b3.2.2]) ta36 (s_5.trans e35_5) (Blk.cellsFrom (BlkO.evo (by decide) hE b35_g33).2 0 rfl) rfl
    refine steps_cons (fun own a wx hf hsl hE => ?_) ?_
    · obtain ⟨(f_25 : a.eval (.tmp 25) = .bool (x40 && r41)), c_26, c_27, -⟩ := hf
      refine sg_t rfl rfl rfl f_25 (fun hg => ?_)
      have f_26 : a.eval (.tmp 26) = .agg #[.int .i64 q2.1, .int .i64 q2.2] := c_26.1 hg
      have f_27 : a.eval (.tmp 27) = .agg #[.int .i64 b3.1.1, .int .i64 b3.1.2, .int .i64 b3.2.1, .int .i64 b3.2.2] := c_27.1 hg
      exact or_call cf30 (args2 f_26 f_27) (lineclip_within_w _ q2 b3  r42 (gd_t hr42 hg)) post_val
    refine steps_cons (fun own a wx hf hsl hE => ?_) ?_
    · obtain ⟨(f_25 : a.eval (.tmp 25) = .bool (x40 && r41)), c_28, -⟩ := hf
      exact sg_plain rfl rfl (or_and f_25 (fun hx => c_28.1 hx) rfl rfl)
    refine steps_cons (fun own a wx hf hsl hE => ?_) ?_
    · obtain ⟨(f_29 : a.eval (.tmp 29) = .bool ((x40 && r41) && r42)), -⟩ := hf
      exact sg_plain rfl rfl (or_move f_29)
    refine steps_cons (fun own a wx hf hsl hE => ?_) ?_
    · obtain ⟨(f_30 : a.eval (.tmp 30) = .bool ((x40 && r41) && r42)), -⟩ := hf
      obtain ⟨s_3, -⟩ := hsl
      refine sg_t rfl rfl rfl f_30 (fun hg => ?_)
      exact or_field fo34_0 (s_3.trans e35_3) (by rfl)
    refine steps_cons (fun own a wx hf hsl hE => ?_) ?_
    · obtain ⟨(f_30 : a.eval (.tmp 30) = .bool ((x40 && r41) && r42)), c_31, -⟩ := hf
      refine sg_t rfl rfl rfl f_30 (fun hg => ?_)
      have f_31 : a.eval (.tmp 31) = .pointer (some ⟨g29, 0, none⟩) := c_31.1 hg
      exact or_load1 to3 f_31 (Blk.at_ (BlkO.evo (by decide) hE b35_g29).2 0 rfl)
    refine steps_cons (fun own a wx hf hsl hE => ?_) ?_
    · obtain ⟨(f_30 : a.eval (.tmp 30) = .bool ((x40 && r41) && r42)), -⟩ := hf
      obtain ⟨s_4, -⟩ := hsl
      refine sg_t rfl rfl rfl f_30 (fun hg => ?_)
      exact or_field fo34_0 (s_4.trans e35_4) (by rfl)
    refine steps_cons (fun own a wx hf hsl hE => ?_) ?_
    · obtain ⟨(f_30 : a.eval (.tmp 30) = .bool ((x40 && r41) && r42)), c_33, -⟩ := hf
      refine sg_t rfl rfl rfl f_30 (fun hg => ?_)
      have f_33 : a.eval (.tmp 33) = .pointer (some ⟨g31, 0, none⟩) := c_33.1 hg
      exact or_load1 to3 f_33 (Blk.at_ (BlkO.evo (by decide) hE b35_g31).2 0 rfl)
    refine steps_cons (fun own a wx hf hsl hE => ?_) ?_
    · obtain ⟨(f_30 : a.eval (.tmp 30) = .bool ((x40 && r41) && r42)), -⟩ := hf
      obtain ⟨s_5, -⟩ := hsl
      refine sg_t rfl rfl rfl f_30 (fun hg => ?_)
      exact or_field fo36_0 (s_5.trans e35_5) (by rfl)
    refine steps_cons (fun own a wx hf hsl hE => ?_) ?_
    · obtain ⟨(f_30 : a.eval (.tmp 30) = .bool ((x40 && r41) && r42)), c_35, -⟩ := hf
      refine sg_t rfl rfl rfl f_30 (fun hg => ?_)
      have f_35 : a.eval (.tmp 35) = .pointer (some ⟨g33, 0, none⟩) := c_35.1 hg
      exact or_field fo34_0 f_35 (by rfl)
    refine steps_cons (fun own a wx hf hsl hE => ?_) ?_
    · obtain ⟨(f_30 : a.eval (.tmp 30) = .bool ((x40 && r41) && r42)), c_36, -⟩ := hf
      refine sg_t rfl rfl rfl f_30 (fun hg => ?_)
      have f_36 : a.eval (.tmp 36) = .pointer (some ⟨g33, 0, none⟩) := c_36.1 hg
      exact or_load1 to3 f_36 (Blk.at_ (BlkO.evo (by decide) hE b35_g33).2 0 rfl)
    refine steps_cons (fun own a wx hf hsl hE => ?_) ?_
    · obtain ⟨(f_30 : a.eval (.tmp 30) = .bool ((x40 && r41) && r42)), -⟩ := hf
      obtain ⟨s_5, -⟩ := hsl
      refine sg_t rfl rfl rfl f_30 (fun hg => ?_)
      exact or_field fo36_1 (s_5.trans e35_5) (by rfl)
    refine steps_cons (fun own a wx hf hsl hE => ?_) ?_
    · obtain ⟨(f_30 : a.eval (.tmp 30) = .bool ((x40 && r41) && r42)), c_38, -⟩ := hf
      refine sg_t rfl rfl rfl f_30 (fun hg => ?_)
      have f_38 : a.eval (.tmp 38) = .pointer (some ⟨g33, 2, none⟩) := c_38.1 hg
      exact or_field fo34_0 f_38 (by rfl)
    refine steps_cons (fun own a wx hf hsl hE => ?_) ?_
    · obtain ⟨(f_30 : a.eval (.tmp 30) = .bool ((x40 && r41) && r42)), c_39, -⟩ := hf
      refine sg_t rfl rfl rfl f_30 (fun hg => ?_)
      have f_39 : a.eval (.tmp 39) = .pointer (some ⟨g33, 2, none⟩) := c_39.1 hg
      exact or_load1 to3 f_39 (Blk.at_ (BlkO.evo (by decide) hE b35_g33).2 2 rfl)
    refine steps_cons (fun own a wx hf hsl hE => ?_) ?_
    · obtain ⟨(f_30 : a.eval (.tmp 30) = .bool ((x40 && r41) && r42)), c_32, c_34, c_37, c_40, -⟩ := hf
      refine sg_t rfl rfl rfl f_30 (fun hg => ?_)
      have f_32 : a.eval (.tmp 32) = .int .i64 p1.1 := c_32.1 hg
      have f_34 : a.eval (.tmp 34) = .int .i64 q2.1 := c_34.1 hg
      have f_37 : a.eval (.tmp 37) = .int .i64 b3.1.1 := c_37.1 hg
      have f_40 : a.eval (.tmp 40) = .int .i64 b3.2.1 := c_40.1 hg
      exact or_call cf31 (args4 f_32 f_34 f_37 f_40) (lineclip_side_w _ p1.1 q2.1 b3.1.1 b3.2.1  r43 (gd_t hr43 hg)) post_val
    refine steps_cons (fun own a wx hf hsl hE => ?_) ?_
    · obtain ⟨(f_30 : a.eval (.tmp 30) = .bool ((x40 && r41) && r42)), c_41, -⟩ := hf
      refine sg_t rfl rfl rfl f_30 (fun hg => ?_)
      have f_41 : a.eval (.tmp 41) = .bool r43 := c_41.1 hg
      exact or_not f_41 rfl
    refine steps_cons (fun own a wx hf hsl hE => ?_) ?_
    · obtain ⟨(f_30 : a.eval (.tmp 30) = .bool ((x40 && r41) && r42)), c_42, -⟩ := hf
      exact sg_plain rfl rfl (or_and f_30 (fun hx => c_42.1 hx) rfl rfl)
    refine steps_cons (fun own a wx hf hsl hE => ?_) ?_
    · obtain ⟨(f_43 : a.eval (.tmp 43) = .bool (((x40 && r41) && r42) && (!r43))), -⟩ := hf
      exact sg_plain rfl rfl (or_move f_43)
    refine steps_cons (fun own a wx hf hsl hE => ?_) ?_
    · obtain ⟨(f_44 : a.eval (.tmp 44) = .bool (((x40 && r41) && r42) && (!r43))), -⟩ := hf
      obtain ⟨s_3, -⟩ := hsl
      refine sg_t rfl rfl rfl f_44 (fun hg => ?_)
      exact or_field fo34_1 (s_3.trans e35_3) (by rfl)
    refine steps_cons (fun own a wx hf hsl hE => ?_) ?_
    · obtain ⟨(f_44 : a.eval (.tmp 44) = .bool (((x40 && r41) && r42) && (!r43))), c_45, -⟩ := hf
      refine sg_t rfl rfl rfl f_44 (fun hg => ?_)
      have f_45 : a.eval (.tmp 45) = .pointer (some ⟨g29, 1, none⟩) := c_45.1 hg
      exact or_load1 to3 f_45 (Blk.at_ (BlkO.evo (by decide) hE b35_g29).2 1 rfl)
    refine steps_cons (fun own a wx hf hsl hE => ?_) ?_
    · obtain ⟨(f_44 : a.eval (.tmp 44) = .bool (((x40 && r41) && r42) && (!r43))), -⟩ := hf
      obtain ⟨s_4, -⟩ := hsl
      refine sg_t rfl rfl rfl f_44 (fun hg => ?_)
      exact or_field fo34_1 (s_4.trans e35_4) (by rfl)
    refine steps_cons (fun own a wx hf hsl hE => ?_) ?_
    · obtain ⟨(f_44 : a.eval (.tmp 44) = .bool (((x40 && r41) && r42) && (!r43))), c_47, -⟩ := hf
      refine sg_t rfl rfl rfl f_44 (fun hg => ?_)
      have f_47 : a.eval (.tmp 47) = .pointer (some ⟨g31, 1, none⟩) := c_47.1 hg
      exact or_load1 to3 f_47 (Blk.at_ (BlkO.evo (by decide) hE b35_g31).2 1 rfl)
    refine steps_cons (fun own a wx hf hsl hE => ?_) ?_
    · obtain ⟨(f_44 : a.eval (.tmp 44) = .bool (((x40 && r41) && r42) && (!r43))), -⟩ := hf
      obtain ⟨s_5, -⟩ := hsl
      refine sg_t rfl rfl rfl f_44 (fun hg => ?_)
      exact or_field fo36_0 (s_5.trans e35_5) (by rfl)
    refine steps_cons (fun own a wx hf hsl hE => ?_) ?_
    · obtain ⟨(f_44 : a.eval (.tmp 44) = .bool (((x40 && r41) && r42) && (!r43))), c_49, -⟩ := hf
      refine sg_t rfl rfl rfl f_44 (fun hg => ?_)
      have f_49 : a.eval (.tmp 49) = .pointer (some ⟨g33, 0, none⟩) := c_49.1 hg
      exact or_field fo34_1 f_49 (by rfl)
    refine steps_cons (fun own a wx hf hsl hE => ?_) ?_
    · obtain ⟨(f_44 : a.eval (.tmp 44) = .bool (((x40 && r41) && r42) && (!r43))), c_50, -⟩ := hf
      refine sg_t rfl rfl rfl f_44 (fun hg => ?_)
      have f_50 : a.eval (.tmp 50) = .pointer (some ⟨g33, 1, none⟩) := c_50.1 hg
      exact or_load1 to3 f_50 (Blk.at_ (BlkO.evo (by decide) hE b35_g33).2 1 rfl)
    refine steps_cons (fun own a wx hf hsl hE => ?_) ?_
    · obtain ⟨(f_44 : a.eval (.tmp 44) = .bool (((x40 && r41) && r42) && (!r43))), -⟩ := hf
      obtain ⟨s_5, -⟩ := hsl
      refine sg_t rfl rfl rfl f_44 (fun hg => ?_)
      exact or_field fo36_1 (s_5.trans e35_5) (by rfl)
    refine steps_cons (fun own a wx hf hsl hE => ?_) ?_
    · obtain ⟨(f_44 : a.eval (.tmp 44) = .bool (((x40 && r41) && r42) && (!r43))), c_52, -⟩ := hf
      refine sg_t rfl rfl rfl f_44 (fun hg => ?_)
      have f_52 : a.eval (.tmp 52) = .pointer (some ⟨g33, 2, none⟩) := c_52.1 hg
      exact or_field fo34_1 f_52 (by rfl)
    refine steps_cons (fun own a wx hf hsl hE => ?_) ?_
    · obtain ⟨(f_44 : a.eval (.tmp 44) = .bool (((x40 && r41) && r42) && (!r43))), c_53, -⟩ := hf
      refine sg_t rfl rfl rfl f_44 (fun hg => ?_)
      have f_53 : a.eval (.tmp 53) = .pointer (some ⟨g33, 3, none⟩) := c_53.1 hg
      exact or_load1 to3 f_53 (Blk.at_ (BlkO.evo (by decide) hE b35_g33).2 3 rfl)
    refine steps_cons (fun own a wx hf hsl hE => ?_) ?_
    · obtain ⟨(f_44 : a.eval (.tmp 44) = .bool (((x40 && r41) && r42) && (!r43))), c_46, c_48, c_51, c_54, -⟩ := hf
      refine sg_t rfl rfl rfl f_44 (fun hg => ?_)
      have f_46 : a.eval (.tmp 46) = .int .i64 p1.2 := c_46.1 hg
      have f_48 : a.eval (.tmp 48) = .int .i64 q2.2 := c_48.1 hg
      have f_51 : a.eval (.tmp 51) = .int .i64 b3.1.2 := c_51.1 hg
      have f_54 : a.eval (.tmp 54) = .int .i64 b3.2.2 := c_54.1 hg
      exact or_call cf31 (args4 f_46 f_48 f_51 f_54) (lineclip_side_w _ p1.2 q2.2 b3.1.2 b3.2.2  r44 (gd_t hr44 hg)) post_val
    refine steps_cons (fun own a wx hf hsl hE => ?_) ?_
    · obtain ⟨(f_44 : a.eval (.tmp 44) = .bool (((x40 && r41) && r42) && (!r43))), c_55, -⟩ := hf
      refine sg_t rfl rfl rfl f_44 (fun hg => ?_)
      have f_55 : a.eval (.tmp 55) = .bool r44 := c_55.1 hg
      exact or_not f_55 rfl
    refine steps_cons (fun own a wx hf hsl hE => ?_) ?_
    · obtain ⟨(f_44 : a.eval (.tmp 44) = .bool (((x40 && r41) && r42) && (!r43))), c_56, -⟩ := hf
      exact sg_plain rfl rfl (or_and f_44 (fun hx => c_56.1 hx) rfl (osome hx45).symm)
    refine steps_cons (fun own a wx hf hsl hE => ?_) ?_
    · obtain ⟨(f_57 : a.eval (.tmp 57) = .bool x45), -⟩ := hf
      exact sg_plain rfl rfl (or_assign f_57)
    exact steps_nil
  intro own46 a46 w46 hd46 hz46 hk46 hf46 hE46
  obtain ⟨(f_6 : a46.eval (.tmp 6) = .bool x45), -⟩ := hf46 [51] rfl
  have e46_6 := f_6
  have hX46 := Evo.step hX35 (fun _ => Nat.le_refl 0) hE46 rfl
  refine fl_ret ?_
  obtain rfl := (osome hs).symm
  exact hret _ _ _ _ (.inl rfl) hd46 (results1_ rfl (RVal.tmp_ e46_6)) ⟨own46, rfl, hX46⟩

set_option maxHeartbeats 2000000 in
theorem lineclip_Parts_w (w : World) (l1 : List (Int × Int)) (Al1 : Option Addr) (cl1 : Nat) (b2 : (Int × Int) × (Int × Int)) (hl1 : RdO (fun _ => 0) [0] w R34 Al1 cl1 l1) (r : List (List (Int × Int))) (hs : lineclip_Parts l1 b2 = some r) :
    Calls Try.prog 16 #[.slice Al1 l1.length cl1, .agg #[.int .i64 b2.1.1, .int .i64 b2.1.2, .int .i64 b2.2.1, .int .i64 b2.2.2]] w fun e w' => ∃ (own' : Own) (x : Option Addr × Nat), e = .returned (.slice x.1 r.length x.2) ∧ Evo [] (fun _ => 0) own' w w' ∧ RwO own' 1 [2] w' 24 R24 x.1 x.2 r := by
  refine fl_enter (n := 56) rfl rfl rfl (Nat.le_of_ble_eq_true rfl) ?_
  intro a0 Q hd0 hz0 harg hret
  have ha0 := harg 0 _ rfl
  have ha1 := harg 1 _ rfl
  clear harg
  have hE0 : Evo [] (fun _ => 0) (fun _ => 0) w w := Evo.refl _ _ _
  refine rg_plain_seq (n := 56) (rs := []) (own0 := (fun _ => 0)) (K := [])
      (bs := [0, 0])
      (ds := [⟨[], [1], [], Fct.blk 333 3 (fun g => .pointer (some ⟨g, 0, none⟩)) 36 #[.int .i64 b2.1.1, .int .i64 b2.1.2, .int .i64 b2.2.1, .int .i64 b2.2.2]⟩,
      ⟨[], [], [], Fct.val 4 (.slice none 0 0)⟩]) (by kernel_rfl) hz0 hd0 (fun _ h => nomatch h) ?_ ?_
  · refine steps_cons (fun own a wx hf hsl hE => ?_) ?_
    · obtain ⟨s_1, -⟩ := hsl
      exact sg_plain rfl rfl (or_new [(1, .agg #[.int .i64 b2.1.1, .int .i64 b2.1.2, .int .i64 b2.2.1, .int .i64 b2.2.2])] rfl rfl ⟨(s_1.trans ha1), trivial⟩ (by kernel_rfl))
    refine steps_cons (fun own a wx hf hsl hE => ?_) ?_
    · exact sg_plain rfl rfl (or_assign rfl)
    exact steps_nil
  intro own334 a334 w334 hd334 hz334 hk334 hf334 hE334
  have e334_0 : a334.eval (.tmp 0) = .slice Al1 l1.length cl1 := (hk334 0 rfl).trans ha0
  obtain ⟨⟨g332, (f_3 : a334.eval (.tmp 3) = .pointer (some ⟨g332, 0, none⟩)), (b_g332 : BlkO own334 333 w334 g332 36 #[.int .i64 b2.1.1, .int .i64 b2.1.2, .int .i64 b2.2.1, .int .i64 b2.2.2])⟩, -⟩ := hf334 [0] rfl
  have e334_3 := f_3
  have hX334 := Evo.step hE0 (fun _ => Nat.le_refl 0) hE334 rfl
  have b334_Al1 := RdO.evo rfl hE334 hl1
  have b334_g332 := b_g332
  refine fl_scope (S := ((List (List (Int × Int))) × Int) ⊕ ((List (List (Int × Int))) × Int × Int)) (body := (Sum.elim (fun s => lineclip_Parts_b1_0 l1 b2 s.1 s.2) (fun s => lineclip_Parts_b1_1 l1 b2 s.1 s.2.1 s.2.2))) (z := r) (Sum.elim (fun _ => 0) (fun _ => 1)) ?_ (fun s a wx => ((Sum.elim (fun (s : (List (List (Int × Int))) × Int) => match s with | (out450, x453) => ∃ (ox : Own) (A448 : Option Addr) (c449 : Nat), a.defers = [] ∧ a.tmps.size = 56 ∧ a.eval (.tmp 0) = .slice Al1 l1.length cl1 ∧ a.eval (.tmp 3) = .pointer (some ⟨g332, 0, none⟩) ∧ a.eval (.tmp 5) = .slice A448 out450.length c449 ∧ a.eval (.tmp 7) = .int .i64 x453 ∧ Evo [] (fun _ => 0) ox w wx ∧ RdO ox [0] wx R34 Al1 cl1 l1 ∧ BlkO ox 333 wx g332 36 #[.int .i64 b2.1.1, .int .i64 b2.1.2, .int .i64 b2.2.1, .int .i64 b2.2.2] ∧ RwN ox 451 452 [] wx 24 34 R34 A448 c449 out450) (fun (s : (List (List (Int × Int))) × Int × Int) => match s with | (out456, x459, x460) => ∃ (ox : Own) (A454 : Option Addr) (c455 : Nat), a.defers = [] ∧ a.tmps.size = 56 ∧ a.eval (.tmp 0) = .slice Al1 l1.length cl1 ∧ a.eval (.tmp 3) = .pointer (some ⟨g332, 0, none⟩) ∧ a.eval (.tmp 5) = .slice A454 out456.length c455 ∧ a.eval (.tmp 6) = .int .i64 x459 ∧ a.eval (.tmp 7) = .int .i64 x460 ∧ Evo [] (fun _ => 0) ox w wx ∧ RdO ox [0] wx R34 Al1 cl1 l1 ∧ BlkO ox 333 wx g332 36 #[.int .i64 b2.1.1, .int .i64 b2.1.2, .int .i64 b2.2.1, .int .i64 b2.2.2] ∧ RwN ox 457 458 [] wx 24 34 R34 A454 c455 out456)) : (((List (List (Int × Int))) × Int) ⊕ ((List (List (Int × Int))) × Int × Int)) → Prop) s) ?_ ?_
  · intro s; rcases s with s | s <;> rfl
  · intro Q536 hj536 hp536
    refine rg_plain_seq (n := 56) (rs := []) (own0 := own334) (K := [])
        (bs := [0])
        (ds := [⟨[], [], [], Fct.val 5 (.slice none 0 0)⟩]) (by kernel_rfl) hz334 hd334 (fun _ h => nomatch h) ?_ ?_
    · refine steps_cons (fun own a wx hf hsl hE => ?_) ?_
      · exact sg_plain rfl rfl (or_assign rfl)
      exact steps_nil
    intro own614 a614 w614 hd614 hz614 hk614 hf614 hE614
    have e614_0 : a614.eval (.tmp 0) = .slice Al1 l1.length cl1 := (hk614 0 rfl).trans e334_0
    have e614_3 : a614.eval (.tmp 3) = .pointer (some ⟨g332, 0, none⟩) := (hk614 3 rfl).trans e334_3
    obtain ⟨(f_5 : a614.eval (.tmp 5) = .slice none 0 0), -⟩ := hf614 [0] rfl
    have e614_5 := f_5
    have hX614 := Evo.step hX334 (fun _ => Nat.le_refl 0) hE614 rfl
    have b614_Al1 := RdO.evo rfl hE614 b334_Al1
    have b614_g332 := BlkO.evo (by decide) hE614 b334_g332
    refine rg_plain_seq (n := 56) (rs := []) (own0 := own614) (K := [])
        (bs := [0, 1])
        (ds := [⟨[], [], [], Fct.val 6 (.int .i64 0)⟩,
        ⟨[], [], [], Fct.val 7 (.int .i64 1)⟩]) (by kernel_rfl) hz614 hd614 (fun _ h => nomatch h) ?_ ?_
    · refine steps_cons (fun own a wx hf hsl hE => ?_) ?_
      · exact sg_plain rfl rfl (or_assign rfl)
      refine steps_cons (fun own a wx hf hsl hE => ?_) ?_
      · exact sg_plain rfl rfl (or_assign rfl)
      exact steps_nil
    intro own615 a615 w615 hd615 hz615 hk615 hf615 hE615
    have e615_0 : a615.eval (.tmp 0) = .slice Al1 l1.length cl1 := (hk615 0 rfl).trans e614_0
    have e615_3 : a615.eval (.tmp 3) = .pointer (some ⟨g332, 0, none⟩) := (hk615 3 rfl).trans e614_3
    have e615_5 : a615.eval (.tmp 5) = .slice none 0 0 := (hk615 5 rfl).trans e614_5
    obtain ⟨(f_7 : a615.eval (.tmp 7) = .int .i64 1), -⟩ := hf615 [1] rfl
    have e615_7 := f_7
    have hX615 := Evo.step hX614 (fun _ => Nat.le_refl 0) hE615 rfl
    have b615_Al1 := RdO.evo rfl hE615 b614_Al1
    have b615_g332 := BlkO.evo (by decide) hE615 b614_g332
    refine fl_seq (fun Q616 hn616 hp616 => ?_)
    refine fl_label ?_
    refine hn616 _ _ ?_
    refine fl_seq (fun Q617 hn617 hp617 => ?_)
    refine rg_plain_seq (n := 56) (rs := []) (own0 := own615) (K := [])
        (bs := [0, 0, 2, 7])
        (ds := [⟨[], [7], [], Fct.val 8 (.int .i64 1)⟩,
        ⟨[], [0], [], Fct.val 9 (.slice Al1 l1.length cl1)⟩,
        ⟨[1], [], [], Fct.val 10 (.int .i64 (l1.length : Int))⟩,
        ⟨[0, 2], [], [], Fct.val 11 (.bool (decide ((l1.length : Int) ≤ 1)))⟩]) (by kernel_rfl) hz615 hd615 (fun _ h => nomatch h) ?_ ?_
    · refine steps_cons (fun own a wx hf hsl hE => ?_) ?_
      · obtain ⟨s_7, -⟩ := hsl
        exact sg_plain rfl rfl (or_move (s_7.trans e615_7))
      refine steps_cons (fun own a wx hf hsl hE => ?_) ?_
      · obtain ⟨s_0, -⟩ := hsl
        exact sg_plain rfl rfl (or_move (s_0.trans e615_0))
      refine steps_cons (fun own a wx hf hsl hE => ?_) ?_
      · obtain ⟨(f_9 : a.eval (.tmp 9) = .slice Al1 l1.length cl1), -⟩ := hf
        exact sg_plain rfl rfl (or_len tu24 f_9 rfl)
      refine steps_cons (fun own a wx hf hsl hE => ?_) ?_
      · obtain ⟨(f_8 : a.eval (.tmp 8) = .int .i64 1), (f_10 : a.eval (.tmp 10) = .int .i64 (l1.length : Int)), -⟩ := hf
        exact sg_plain rfl rfl (or_geq f_8 f_10 rfl)
      exact steps_nil
    intro own618 a618 w618 hd618 hz618 hk618 hf618 hE618
    have e618_0 : a618.eval (.tmp 0) = .slice Al1 l1.length cl1 := (hk618 0 rfl).trans e615_0
    have e618_3 : a618.eval (.tmp 3) = .pointer (some ⟨g332, 0, none⟩) := (hk618 3 rfl).trans e615_3
    have e618_5 : a618.eval (.tmp 5) = .slice none 0 0 := (hk618 5 rfl).trans e615_5
    have e618_7 : a618.eval (.tmp 7) = .int .i64 1 := (hk618 7 rfl).trans e615_7
    obtain ⟨(f_11 : a618.eval (.tmp 11) = .bool (decide ((l1.length : Int) ≤ 1))), -⟩ := hf618 [3] rfl
    have e618_11 := f_11
    have hX618 := Evo.step hX615 (fun _ => Nat.le_refl 0) hE618 rfl
    have b618_Al1 := RdO.evo rfl hE618 b615_Al1
    have b618_g332 := BlkO.evo (by decide) hE618 b615_g332
    refine fl_cond e618_11 hs (fun c619 hs => ?_) (fun c619 hs => ?_)
    · refine rg_plain_seq (n := 56) (rs := []) (own0 := own618) (K := [])
          (bs := [0, 1])
          (ds := [⟨[], [5], [], Fct.val 12 (.slice none 0 0)⟩,
          ⟨[0], [], [], Fct.val 4 (.slice none 0 0)⟩]) (by kernel_rfl) hz618 hd618 (fun _ h => nomatch h) ?_ ?_
      · refine steps_cons (fun own a wx hf hsl hE => ?_) ?_
        · obtain ⟨s_5, -⟩ := hsl
          exact sg_plain rfl rfl (or_move (s_5.trans e618_5))
        refine steps_cons (fun own a wx hf hsl hE => ?_) ?_
        · obtain ⟨(f_12 : a.eval (.tmp 12) = .slice none 0 0), -⟩ := hf
          exact sg_plain rfl rfl (or_assign f_12)
        exact steps_nil
      intro own620 a620 w620 hd620 hz620 hk620 hf620 hE620
      obtain ⟨(f_4 : a620.eval (.tmp 4) = .slice none 0 0), -⟩ := hf620 [1] rfl
      have e620_4 := f_4
      have hX620 := Evo.step hX618 (fun _ => Nat.le_refl 0) hE620 rfl
      refine fl_ret ?_
      refine hp617 _ _ _ rfl ?_
      refine hp536.leaves _ _ _ rfl ?_
      obtain rfl := osome hs
      exact hret _ _ _ _ (.inl rfl) hd620 (results1_ rfl (RVal.tmp_ e620_4)) ⟨own620, (none, 0), rfl, hX620, RwO.nil_⟩
    refine fl_skip ?_
    refine hn617 _ _ ?_
    refine rg_plain_seq (n := 56) (rs := []) (own0 := own618) (K := [])
        (bs := [0, 1, 3])
        (ds := [⟨[], [7], [], Fct.val 13 (.int .i64 1)⟩,
        ⟨[0], [], [], Fct.val 14 (.int .i64 0)⟩,
        ⟨[1], [], [], Fct.val 6 (.int .i64 0)⟩]) (by kernel_rfl) hz618 hd618 (fun _ h => nomatch h) ?_ ?_
    · refine steps_cons (fun own a wx hf hsl hE => ?_) ?_
      · obtain ⟨s_7, -⟩ := hsl
        exact sg_plain rfl rfl (or_move (s_7.trans e618_7))
      refine steps_cons (fun own a wx hf hsl hE => ?_) ?_
      · obtain ⟨(f_13 : a.eval (.tmp 13) = .int .i64 1), -⟩ := hf
        exact sg_plain rfl rfl (or_sub f_13 rfl (by decide))
      refine steps_cons (fun own a wx hf hsl hE => ?_) ?_
      · obtain ⟨(f_14 : a.eval (.tmp 14) = .int .i64 0), -⟩ := hf
        exact sg_plain rfl rfl (or_assign f_14)
      exact steps_nil
    intro own621 a621 w621 hd621 hz621 hk621 hf621 hE621
    have e621_0 : a621.eval (.tmp 0) = .slice Al1 l1.length cl1 := (hk621 0 rfl).trans e618_0
    have e621_3 : a621.eval (.tmp 3) = .pointer (some ⟨g332, 0, none⟩) := (hk621 3 rfl).trans e618_3
    have e621_5 : a621.eval (.tmp 5) = .slice none 0 0 := (hk621 5 rfl).trans e618_5
    have e621_7 : a621.eval (.tmp 7) = .int .i64 1 := (hk621 7 rfl).trans e618_7
    obtain ⟨(f_6 : a621.eval (.tmp 6) = .int .i64 0), -⟩ := hf621 [2] rfl
    have e621_6 := f_6
    have hX621 := Evo.step hX618 (fun _ => Nat.le_refl 0) hE621 rfl
    have b621_Al1 := RdO.evo rfl hE621 b618_Al1
    have b621_g332 := BlkO.evo (by decide) hE621 b618_g332
    refine fl_seq (fun Q622 hn622 hp622 => ?_)
    obtain ⟨x623, hx623, hs⟩ := obind hs
    obtain ⟨x624, hx624, hs⟩ := obind hs
    obtain ⟨r625, hr625, hs⟩ := obind hs
    refine rg_draw_seq g_mixed (n := 56) (rs := []) (own0 := own621) (K := [])
        (bs := [0, 0, 3, 7, 0, 0, 48, 112, 0, 511, 1023])
        (ds := [⟨[], [0], [], Fct.val 15 (.slice Al1 l1.length cl1)⟩,
        ⟨[], [6], [], Fct.val 16 (.int .i64 0)⟩,
        ⟨[0, 1], [], [], Fct.val 17 (.pointer (some ((adr Al1).add ((0 : Int).toNat * R34.s))))⟩,
        ⟨[2], [], [], Fct.val 18 (.agg #[.int .i64 x623.1, .int .i64 x623.2])⟩,
        ⟨[], [0], [], Fct.val 19 (.slice Al1 l1.length cl1)⟩,
        ⟨[], [7], [], Fct.val 20 (.int .i64 1)⟩,
        ⟨[4, 5], [], [], Fct.val 21 (.pointer (some ((adr Al1).add ((1 : Int).toNat * R34.s))))⟩,
        ⟨[6], [], [], Fct.val 22 (.agg #[.int .i64 x624.1, .int .i64 x624.2])⟩,
        ⟨[], [3], [], Fct.val 23 (.agg #[.int .i64 b2.1.1, .int .i64 b2.1.2, .int .i64 b2.2.1, .int .i64 b2.2.2])⟩,
        ⟨[3, 7, 8], [], [], Fct.val 24 (.bool r625)⟩,
        ⟨[9], [], [], Fct.val 25 (.bool (!r625))⟩]) (by kernel_rfl) hz621 hd621 (fun _ h => nomatch h) ?_ ?_
    · refine steps_cons (fun own a wx hf hsl hE => ?_) ?_
      · obtain ⟨s_0, -⟩ := hsl
        exact sg_plain rfl rfl (or_move (s_0.trans e621_0))
      refine steps_cons (fun own a wx hf hsl hE => ?_) ?_
      · obtain ⟨s_6, -⟩ := hsl
        exact sg_plain rfl rfl (or_move (s_6.trans e621_6))
      refine steps_cons (fun own a wx hf hsl hE => ?_) ?_
      · obtain ⟨(f_15 : a.eval (.tmp 15) = .slice Al1 l1.length cl1), (f_16 : a.eval (.tmp 16) = .int .i64 0), -⟩ := hf
        exact sg_plain rfl rfl (or_index (R := R34) (l := l1) tl24 f_15 f_16 (RdO.some_ b621_Al1 hx623) hx623)
      refine steps_cons (fun own a wx hf hsl hE => ?_) ?_
      · obtain ⟨(f_17 : a.eval (.tmp 17) = .pointer (some ((adr Al1).add ((0 : Int).toNat * R34.s)))), -⟩ := hf
        exact sg_plain rfl rfl (or_load (l := E34.f x623) ta34 f_17 (RdO.cells (F := E34) (RdO.evo rfl hE b621_Al1) hx623) rfl)
      refine steps_cons (fun own a wx hf hsl hE => ?_) ?_
      · obtain ⟨s_0, -⟩ := hsl
        exact sg_plain rfl rfl (or_move (s_0.trans e621_0))
      refine steps_cons (fun own a wx hf hsl hE => ?_) ?_
      · obtain ⟨s_7, -⟩ := hsl
        exact sg_plain rfl rfl (or_move (s_7.trans e621_7))
      refine steps_cons (fun own a wx hf hsl hE => ?_) ?_
      · obtain ⟨(f_19 : a.eval (.tmp 19) = .slice Al1 l1.length cl1), (f_20 : a.eval (.tmp 20) = .int .i64 1), -⟩ := hf
        exact sg_plain rfl rfl (or_index (R := R34) (l := l1) tl24 f_19 f_20 (RdO.some_ b621_Al1 hx624) hx624)
      refine steps_cons (fun own a wx hf hsl hE => ?_) ?_
      · obtain ⟨(f_21 : a.eval (.tmp 21) = .pointer (some ((adr Al1).add ((1 : Int).toNat * R34.s)))), -⟩ := hf
        exact sg_plain rfl rfl (or_load (l := E34.f x624) ta34 f_21 (RdO.cells (F := E34) (RdO.evo rfl hE b621_Al1) hx624) rfl)
      refine steps_cons (fun own a wx hf hsl hE => ?_) ?_
      · obtain ⟨s_3, -⟩ := hsl
        exact sg_plain rfl rfl (or_load (l := [.int .i64 b2.1.1, .int .i64 b2.1.2, .int .i64 b2.2.1, .int .i64 b2.2.2]) ta36 (s_3.trans e621_3) (Blk.cellsFrom (BlkO.evo (by decide) hE b621_g332).2 0 rfl) rfl)
      refine steps_cons (fun own a wx hf hsl hE => ?_) ?_
      · obtain ⟨(f_18 : a.eval (.tmp 18) = .agg #[.int .i64 x623.1, .int .i64 x623.2]), (f_22 : a.eval (.tmp 22) = .agg #[.int .i64 x624.1, .int .i64 x624.2]), (f_23 : a.eval (.tmp 23) = .agg #[.int .i64 b2.1.1, .int .i64 b2.1.2, .int .i64 b2.2.1, .int .i64 b2.2.2]), -⟩ := hf
        exact sg_plain rfl rfl (or_call cf15 (args3 f_18 f_22 f_23) (lineclip_Shown_w _ x623 x624 b2  r625 hr625) post_val)
      refine steps_cons (fun own a wx hf hsl hE => ?_) ?_
      · obtain ⟨(f_24 : a.eval (.tmp 24) = .bool r625), -⟩ := hf
        exact sg_plain rfl rfl (or_not f_24 rfl)
      exact steps_nil
    intro own626 a626 w626 hd626 hz626 hk626 hf626 hE626
    have e626_0 : a626.eval (.tmp 0) = .slice Al1 l1.length cl1 := (hk626 0 rfl).trans e621_0
    have e626_3 : a626.eval (.tmp 3) = .pointer (some ⟨g332, 0, none⟩) := (hk626 3 rfl).trans e621_3
    have e626_5 : a626.eval (.tmp 5) = .slice none 0 0 := (hk626 5 rfl).trans e621_5
    have e626_6 : a626.eval (.tmp 6) = .int .i64 0 := (hk626 6 rfl).trans e621_6
    have e626_7 : a626.eval (.tmp 7) = .int .i64 1 := (hk626 7 rfl).trans e621_7
    obtain ⟨(f_25 : a626.eval (.tmp 25) = .bool (!r625)), -⟩ := hf626 [10] rfl
    have e626_25 := f_25
    have hX626 := Evo.step hX621 (fun _ => Nat.le_refl 0) hE626 rfl
    have b626_Al1 := RdO.evo rfl hE626 b621_Al1
    have b626_g332 := BlkO.evo (by decide) hE626 b621_g332
    refine fl_cond e626_25 hs (fun c627 hs => ?_) (fun c627 hs => ?_)
    · refine rg_plain_seq (n := 56) (rs := []) (own0 := own626) (K := [])
          (bs := [0, 1, 3])
          (ds := [⟨[], [7], [], Fct.val 26 (.int .i64 1)⟩,
          ⟨[0], [], [], Fct.val 27 (.int .i64 2)⟩,
          ⟨[1], [], [], Fct.val 7 (.int .i64 2)⟩]) (by kernel_rfl) hz626 hd626 (fun _ h => nomatch h) ?_ ?_
      · refine steps_cons (fun own a wx hf hsl hE => ?_) ?_
        · obtain ⟨s_7, -⟩ := hsl
          exact sg_plain rfl rfl (or_move (s_7.trans e626_7))
        refine steps_cons (fun own a wx hf hsl hE => ?_) ?_
        · obtain ⟨(f_26 : a.eval (.tmp 26) = .int .i64 1), -⟩ := hf
          exact sg_plain rfl rfl (or_add f_26 rfl (by decide))
        refine steps_cons (fun own a wx hf hsl hE => ?_) ?_
        · obtain ⟨(f_27 : a.eval (.tmp 27) = .int .i64 2), -⟩ := hf
          exact sg_plain rfl rfl (or_assign f_27)
        exact steps_nil
      intro own628 a628 w628 hd628 hz628 hk628 hf628 hE628
      have e628_0 : a628.eval (.tmp 0) = .slice Al1 l1.length cl1 := (hk628 0 rfl).trans e626_0
      have e628_3 : a628.eval (.tmp 3) = .pointer (some ⟨g332, 0, none⟩) := (hk628 3 rfl).trans e626_3
      have e628_5 : a628.eval (.tmp 5) = .slice none 0 0 := (hk628 5 rfl).trans e626_5
      obtain ⟨(f_7 : a628.eval (.tmp 7) = .int .i64 2), -⟩ := hf628 [2] rfl
      have e628_7 := f_7
      have hX628 := Evo.step hX626 (fun _ => Nat.le_refl 0) hE628 rfl
      have b628_Al1 := RdO.evo rfl hE628 b626_Al1
      have b628_g332 := BlkO.evo (by decide) hE628 b626_g332
      refine fl_goto ?_
      refine hp622 _ _ _ rfl ?_
      exact hj536 (Sum.inl (([] : List (List (Int × Int))), 2)) _ _ (show loopO _ _ = _ from hs) ⟨own628, none, 0, hd628, hz628, e628_0, e628_3, e628_5, e628_7, hX628, b628_Al1, b628_g332, RwN.nil_⟩
    refine fl_skip ?_
    refine hn622 _ _ ?_
    refine fl_seq (fun Q629 hn629 hp629 => ?_)
    refine fl_label ?_
    refine hn629 _ _ ?_
    refine rg_plain_seq (n := 56) (rs := []) (own0 := own626) (K := [])
        (bs := [0, 1, 3])
        (ds := [⟨[], [7], [], Fct.val 28 (.int .i64 1)⟩,
        ⟨[0], [], [], Fct.val 29 (.int .i64 2)⟩,
        ⟨[1], [], [], Fct.val 7 (.int .i64 2)⟩]) (by kernel_rfl) hz626 hd626 (fun _ h => nomatch h) ?_ ?_
    · refine steps_cons (fun own a wx hf hsl hE => ?_) ?_
      · obtain ⟨s_7, -⟩ := hsl
        exact sg_plain rfl rfl (or_move (s_7.trans e626_7))
      refine steps_cons (fun own a wx hf hsl hE => ?_) ?_
      · obtain ⟨(f_28 : a.eval (.tmp 28) = .int .i64 1), -⟩ := hf
        exact sg_plain rfl rfl (or_add f_28 rfl (by decide))
      refine steps_cons (fun own a wx hf hsl hE => ?_) ?_
      · obtain ⟨(f_29 : a.eval (.tmp 29) = .int .i64 2), -⟩ := hf
        exact sg_plain rfl rfl (or_assign f_29)
      exact steps_nil
    intro own630 a630 w630 hd630 hz630 hk630 hf630 hE630
    have e630_0 : a630.eval (.tmp 0) = .slice Al1 l1.length cl1 := (hk630 0 rfl).trans e626_0
    have e630_3 : a630.eval (.tmp 3) = .pointer (some ⟨g332, 0, none⟩) := (hk630 3 rfl).trans e626_3
    have e630_5 : a630.eval (.tmp 5) = .slice none 0 0 := (hk630 5 rfl).trans e626_5
    have e630_6 : a630.eval (.tmp 6) = .int .i64 0 := (hk630 6 rfl).trans e626_6
    obtain ⟨(f_7 : a630.eval (.tmp 7) = .int .i64 2), -⟩ := hf630 [2] rfl
    have e630_7 := f_7
    have hX630 := Evo.step hX626 (fun _ => Nat.le_refl 0) hE630 rfl
    have b630_Al1 := RdO.evo rfl hE630 b626_Al1
    have b630_g332 := BlkO.evo (by decide) hE630 b626_g332
    refine fl_seq (fun Q631 hn631 hp631 => ?_)
    obtain ⟨x632, hx632, hs⟩ := obind hs
    obtain ⟨x633, hx633, hs⟩ := obind hs
    obtain ⟨r634, hr634, hs⟩ := obind hs
    obtain ⟨x635, hx635, hs⟩ := obind hs
    refine rg_draw_seq g_mixed (n := 56) (rs := []) (own0 := own630) (K := [])
        (bs := [0, 0, 2, 7, 15, 31, 31, 95, 255, 511, 31, 31, 3103, 7199, 31, 32767, 65535])
        (ds := [⟨[], [7], [], Fct.val 30 (.int .i64 2)⟩,
        ⟨[], [0], [], Fct.val 31 (.slice Al1 l1.length cl1)⟩,
        ⟨[1], [], [], Fct.val 32 (.int .i64 (l1.length : Int))⟩,
        ⟨[0, 2], [], [], Fct.val 33 (.bool (decide (2 < (l1.length : Int))))⟩,
        ⟨[3], [], [], Fct.val 34 (.bool (decide (2 < (l1.length : Int))))⟩,
        ⟨[4], [0], [], Fct.cond (decide (2 < (l1.length : Int))) (some 35) (Fct.val 35 (.slice Al1 l1.length cl1))⟩,
        ⟨[4], [7], [], Fct.cond (decide (2 < (l1.length : Int))) (some 36) (Fct.val 36 (.int .i64 2))⟩,
        ⟨[4, 6], [], [], Fct.cond (decide (2 < (l1.length : Int))) (some 37) (Fct.val 37 (.int .i64 1))⟩,
        ⟨[4, 5, 7], [], [], Fct.cond (decide (2 < (l1.length : Int))) (some 38) (Fct.val 38 (.pointer (some ((adr Al1).add ((1 : Int).toNat * R34.s)))))⟩,
        ⟨[4, 8], [], [], Fct.cond (decide (2 < (l1.length : Int))) (some 39) (Fct.val 39 (.agg #[.int .i64 x632.1, .int .i64 x632.2]))⟩,
        ⟨[4], [0], [], Fct.cond (decide (2 < (l1.length : Int))) (some 40) (Fct.val 40 (.slice Al1 l1.length cl1))⟩,
        ⟨[4], [7], [], Fct.cond (decide (2 < (l1.length : Int))) (some 41) (Fct.val 41 (.int .i64 2))⟩,
        ⟨[4, 10, 11], [], [], Fct.cond (decide (2 < (l1.length : Int))) (some 42) (Fct.val 42 (.pointer (some ((adr Al1).add ((2 : Int).toNat * R34.s)))))⟩,
        ⟨[4, 12], [], [], Fct.cond (decide (2 < (l1.length : Int))) (some 43) (Fct.val 43 (.agg #[.int .i64 x633.1, .int .i64 x633.2]))⟩,
        ⟨[4], [3], [], Fct.cond (decide (2 < (l1.length : Int))) (some 44) (Fct.val 44 (.agg #[.int .i64 b2.1.1, .int .i64 b2.1.2, .int .i64 b2.2.1, .int .i64 b2.2.2]))⟩,
        ⟨[4, 9, 13, 14], [], [], Fct.cond (decide (2 < (l1.length : Int))) (some 45) (Fct.val 45 (.bool r634))⟩,
        ⟨[4, 15], [], [], Fct.val 46 (.bool x635)⟩]) (by kernel_rfl) hz630 hd630 (fun _ h => nomatch h) ?_ ?_
    · refine steps_cons (fun own a wx hf hsl hE => ?_) ?_
      · obtain ⟨s_7, -⟩ := hsl
        exact sg_plain rfl rfl (or_move (s_7.trans e630_7))
      refine steps_cons (fun own a wx hf hsl hE => ?_) ?_
      · obtain ⟨s_0, -⟩ := hsl
        exact sg_plain rfl rfl (or_move (s_0.trans e630_0))
      refine steps_cons (fun own a wx hf hsl hE => ?_) ?_
      · obtain ⟨(f_31 : a.eval (.tmp 31) = .slice Al1 l1.length cl1), -⟩ := hf
        exact sg_plain rfl rfl (or_len tu24 f_31 rfl)
      refine steps_cons (fun own a wx hf hsl hE => ?_) ?_
      · obtain ⟨(f_30 : a.eval (.tmp 30) = .int .i64 2), (f_32 : a.eval (.tmp 32) = .int .i64 (l1.length : Int)), -⟩ := hf
        exact sg_plain rfl rfl (or_lss f_30 f_32 rfl)
      refine steps_cons (fun own a wx hf hsl hE => ?_) ?_
      · obtain ⟨(f_33 : a.eval (.tmp 33) = .bool (decide (2 < (l1.length : Int)))), -⟩ := hf
        exact sg_plain rfl rfl (or_move f_33)
      refine steps_cons (fun own a wx hf hsl hE => ?_) ?_
      · obtain ⟨(f_34 : a.eval (.tmp 34) = .bool (decide (2 < (l1.length : Int)))), -⟩ := hf
        obtain ⟨s_0, -⟩ := hsl
        refine sg_t rfl rfl rfl f_34 (fun hg => ?_)
        exact or_move (s_0.trans e630_0)
      refine steps_cons (fun own a wx hf hsl hE => ?_) ?_
      · obtain ⟨(f_34 : a.eval (.tmp 34) = .bool (decide (2 < (l1.length : Int)))), -⟩ := hf
        obtain ⟨s_7, -⟩ := hsl
        refine sg_t rfl rfl rfl f_34 (fun hg => ?_)
        exact or_move (s_7.trans e630_7)
      refine steps_cons (fun own a wx hf hsl hE => ?_) ?_
      · obtain ⟨(f_34 : a.eval (.tmp 34) = .bool (decide (2 < (l1.length : Int)))), c_36, -⟩ := hf
        refine sg_t rfl rfl rfl f_34 (fun hg => ?_)
        have f_36 : a.eval (.tmp 36) = .int .i64 2 := c_36.1 hg
        exact or_sub f_36 rfl (by decide)
      refine steps_cons (fun own a wx hf hsl hE => ?_) ?_
      · obtain ⟨(f_34 : a.eval (.tmp 34) = .bool (decide (2 < (l1.length : Int)))), c_35, c_37, -⟩ := hf
        refine sg_t rfl rfl rfl f_34 (fun hg => ?_)
        have f_35 : a.eval (.tmp 35) = .slice Al1 l1.length cl1 := c_35.1 hg
        have f_37 : a.eval (.tmp 37) = .int .i64 1 := c_37.1 hg
        exact or_index (R := R34) (l := l1) tl24 f_35 f_37 (RdO.some_ b630_Al1 (gd_t hx632 hg)) (gd_t hx632 hg)
      refine steps_cons (fun own a wx hf hsl hE => ?_) ?_
      · obtain ⟨(f_34 : a.eval (.tmp 34) = .bool (decide (2 < (l1.length : Int)))), c_38, -⟩ := hf
        refine sg_t rfl rfl rfl f_34 (fun hg => ?_)
        have f_38 : a.eval (.tmp 38) = .pointer (some ((adr Al1).add ((1 : Int).toNat * R34.s))) := c_38.1 hg
        exact or_load (l := E34.f x632) ta34 f_38 (RdO.cells (F := E34) (RdO.evo rfl hE b630_Al1) (gd_t hx632 hg)) rfl
      refine steps_cons (fun own a wx hf hsl hE => ?_) ?_
      · obtain ⟨(f_34 : a.eval (.tmp 34) = .bool (decide (2 < (l1.length : Int)))), -⟩ := hf
        obtain ⟨s_0, -⟩ := hsl
        refine sg_t rfl rfl rfl f_34 (fun hg => ?_)
        exact or_move (s_0.trans e630_0)
      refine steps_cons (fun own a wx hf hsl hE => ?_) ?_
      · obtain ⟨(f_34 : a.eval (.tmp 34) = .bool (decide (2 < (l1.length : Int)))), -⟩ := hf
        obtain ⟨s_7, -⟩ := hsl
        refine sg_t rfl rfl rfl f_34 (fun hg => ?_)
        exact or_move (s_7.trans e630_7)
      refine steps_cons (fun own a wx hf hsl hE => ?_) ?_
      · obtain ⟨(f_34 : a.eval (.tmp 34) = .bool (decide (2 < (l1.length : Int)))), c_40, c_41, -⟩ := hf
        refine sg_t rfl rfl rfl f_34 (fun hg => ?_)
        have f_40 : a.eval (.tmp 40) = .slice Al1 l1.length cl1 := c_40.1 hg
        have f_41 : a.eval (.tmp 41) = .int .i64 2 := c_41.1 hg
        exact or_index (R := R34) (l := l1) tl24 f_40 f_41 (RdO.some_ b630_Al1 (gd_t hx633 hg)) (gd_t hx633 hg)
      refine steps_cons (fun own a wx hf hsl hE => ?_) ?_
      · obtain ⟨(f_34 : a.eval (.tmp 34) = .bool (decide (2 < (l1.length : Int)))), c_42, -⟩ := hf
        refine sg_t rfl rfl rfl f_34 (fun hg => ?_)
        have f_42 : a.eval (.tmp 42) = .pointer (some ((adr Al1).add ((2 : Int).toNat * R34.s))) := c_42.1 hg
        exact or_load (l := E34.f x633) ta34 f_42 (RdO.cells (F := E34) (RdO.evo rfl hE b630_Al1) (gd_t hx633 hg)) rfl
      refine steps_cons (fun own a wx hf hsl hE => ?_) ?_
      · obtain ⟨(f_34 : a.eval (.tmp 34) = .bool (decide (2 < (l1.length : Int)))), -⟩ := hf
        obtain ⟨s_3, -⟩ := hsl
        refine sg_t rfl rfl rfl f_34 (fun hg => ?_)
        exact or_load (l := [.int .i64 b2.1.1, .int .i64 b2.1.2, .int .i64 b2.2.1, .int .i64 b2.2.2]) ta36 (s_3.trans e630_3) (Blk.cellsFrom (BlkO.evo (by decide) hE b630_g332).2 0 rfl) rfl
      refine steps_cons (fun own a wx hf hsl hE => ?_) ?_
      · obtain ⟨(f_34 : a.eval (.tmp 34) = .bool (decide (2 < (l1.length : Int)))), c_39, c_43, c_44, -⟩ := hf
        refine sg_t rfl rfl rfl f_34 (fun hg => ?_)
        have f_39 : a.eval (.tmp 39) = .agg #[.int .i64 x632.1, .int .i64 x632.2] := c_39.1 hg
        have f_43 : a.eval (.tmp 43) = .agg #[.int .i64 x633.1, .int .i64 x633.2] := c_43.1 hg
        have f_44 : a.eval (.tmp 44) = .agg #[.int .i64 b2.1.1, .int .i64 b2.1.2, .int .i64 b2.2.1, .int .i64 b2.2.2] := c_44.1 hg
        exact or_call cf15 (args3 f_39 f_43 f_44) (lineclip_Shown_w _ x632 x633 b2  r634 (gd_t hr634 hg)) post_val
      refine steps_cons (fun own a wx hf hsl hE => ?_) ?_
      · obtain ⟨(f_34 : a.eval (.tmp 34) = .bool (decide (2 < (l1.length : Int)))), c_45, -⟩ := hf
        exact sg_plain rfl rfl (or_and f_34 (fun hx => c_45.1 hx) rfl (osome hx635).symm)
      exact steps_nil
    intro own636 a636 w636 hd636 hz636 hk636 hf636 hE636
    have e636_0 : a636.eval (.tmp 0) = .slice Al1 l1.length cl1 := (hk636 0 rfl).trans e630_0
    have e636_3 : a636.eval (.tmp 3) = .pointer (some ⟨g332, 0, none⟩) := (hk636 3 rfl).trans e630_3
    have e636_5 : a636.eval (.tmp 5) = .slice none 0 0 := (hk636 5 rfl).trans e630_5
    have e636_6 : a636.eval (.tmp 6) = .int .i64 0 := (hk636 6 rfl).trans e630_6
    have e636_7 : a636.eval (.tmp 7) = .int .i64 2 := (hk636 7 rfl).trans e630_7
    obtain ⟨(f_46 : a636.eval (.tmp 46) = .bool x635), -⟩ := hf636 [16] rfl
    have e636_46 := f_46
    have hX636 := Evo.step hX630 (fun _ => Nat.le_refl 0) hE636 rfl
    have b636_Al1 := RdO.evo rfl hE636 b630_Al1
    have b636_g332 := BlkO.evo (by decide) hE636 b630_g332
    refine fl_cond e636_46 hs (fun c637 hs => ?_) (fun c637 hs => ?_)
    · refine fl_goto ?_
      refine hp631 _ _ _ rfl ?_
      exact hj536 (Sum.inr (([] : List (List (Int × Int))), 0, 2)) _ _ (show loopO _ _ = _ from hs) ⟨own636, none, 0, hd636, hz636, e636_0, e636_3, e636_5, e636_6, e636_7, hX636, b636_Al1, b636_g332, RwN.nil_⟩
    refine fl_skip ?_
    refine hn631 _ _ ?_
    obtain ⟨x638, hx638, hs⟩ := obind hs
    obtain ⟨x641, hx641, hs⟩ := obind hs
    obtain ⟨x648, hx648, hs⟩ := obind hs
    refine rg_plain_seq (n := 56) (rs := []) (own0 := own636) (K := [640, 646, 647, 642])
        (bs := [0, 0, 0, 0, 0, 30, 62, 126, 255, 511])
        (ds := [⟨[], [5], [], Fct.val 47 (.slice none 0 0)⟩,
        ⟨[], [0], [], Fct.val 48 (.slice Al1 l1.length cl1)⟩,
        ⟨[], [6], [], Fct.val 49 (.int .i64 0)⟩,
        ⟨[], [7], [], Fct.val 50 (.int .i64 2)⟩,
        ⟨[], [7], [], Fct.val 51 (.int .i64 2)⟩,
        ⟨[1, 2, 3, 4], [], [], Fct.view [0] 52 R34 x638⟩,
        ⟨[5], [], [640], Fct.row 642 [] 53 34 R34 x641⟩,
        ⟨[6], [], [], Fct.rown 645 642 [] 54 24 34 R34 [x641]⟩,
        ⟨[0, 7], [], [646, 647, 642], Fct.rown 649 650 [] 55 24 34 R34 x648⟩,
        ⟨[8], [], [], Fct.rel [5, 55] (fun l => ∀ (A651 : Option Addr) (cA651 : Nat), l.getD 1 undef = .slice A651 x648.length cA651 → l.getD 0 undef = .slice A651 x648.length cA651)⟩]) (by kernel_rfl) hz636 hd636 (fun _ h => nomatch h) ?_ ?_
    · refine steps_cons (fun own a wx hf hsl hE => ?_) ?_
      · obtain ⟨s_5, -⟩ := hsl
        exact sg_plain rfl rfl (or_move (s_5.trans e636_5))
      refine steps_cons (fun own a wx hf hsl hE => ?_) ?_
      · obtain ⟨s_0, -⟩ := hsl
        exact sg_plain rfl rfl (or_move (s_0.trans e636_0))
      refine steps_cons (fun own a wx hf hsl hE => ?_) ?_
      · obtain ⟨s_6, -⟩ := hsl
        exact sg_plain rfl rfl (or_move (s_6.trans e636_6))
      refine steps_cons (fun own a wx hf hsl hE => ?_) ?_
      · obtain ⟨s_7, -⟩ := hsl
        exact sg_plain rfl rfl (or_move (s_7.trans e636_7))
      refine steps_cons (fun own a wx hf hsl hE => ?_) ?_
      · obtain ⟨s_7, -⟩ := hsl
        exact sg_plain rfl rfl (or_move (s_7.trans e636_7))
      refine steps_cons (fun own a wx hf hsl hE => ?_) ?_
      · obtain ⟨(f_48 : a.eval (.tmp 48) = .slice Al1 l1.length cl1), (f_49 : a.eval (.tmp 49) = .int .i64 0), (f_50 : a.eval (.tmp 50) = .int .i64 2), (f_51 : a.eval (.tmp 51) = .int .i64 2), -⟩ := hf
        exact sg_plain rfl rfl (or_view (R := R34) (l := l1) (L := [0]) tu24 ts34 f_48 (Bnd.some_ f_49) (Bnd.some_ f_50) (Bnd.some_ f_51) (RdO.evo rfl hE b636_Al1) hx638 (.inr rfl) (by simp))
      refine steps_cons (fun own a wx hf hsl hE => ?_) ?_
      · obtain ⟨⟨⟨A639, cA639⟩, (f_52 : a.eval (.tmp 52) = .slice A639 x638.length cA639), (b_A639 : RdO own [0] wx R34 A639 cA639 x638)⟩, -⟩ := hf
        exact sg_plain rfl rfl (or_append (R := R34) (lab := 640) (lab2 := 642) (L := []) (L3 := []) tp24 rfl RwO.nil_ (by decide) f_52 b_A639 hx641 (by decide) (by decide) (mem_of rfl) (.inl (Rep.fl_flat _)))
      refine steps_cons (fun own a wx hf hsl hE => ?_) ?_
      · obtain ⟨⟨⟨A643, cA643⟩, (f_53 : a.eval (.tmp 53) = .slice A643 x641.length cA643), (b_A643 : RwO own 642 [] wx 34 R34 A643 cA643 x641)⟩, -⟩ := hf
        exact sg_plain rfl rfl (or_litO (R := R34) (lab := 645) (labE := 642) (L := []) (e := 24) (e2 := 34) (xl := x641) [(53, .slice A643 x641.length cA643)] rfl rfl ⟨f_53, trivial⟩ (by kernel_rfl) rfl b_A643 rfl)
      refine steps_cons (fun own a wx hf hsl hE => ?_) ?_
      · obtain ⟨(f_47 : a.eval (.tmp 47) = .slice none 0 0), ⟨⟨A644, cA644⟩, (f_54 : a.eval (.tmp 54) = .slice A644 [x641].length cA644), (b_A644 : RwN own 645 642 [] wx 24 34 R34 A644 cA644 [x641])⟩, -⟩ := hf
        exact sg_plain rfl rfl (or_appendO (R := R34) (lab := 646) (labE := 647) (lab2 := 649) (lab3 := 650) (L := []) (L3 := []) tp22 f_47 RwN.nil_ f_54 b_A644 hx648 (by decide) (by decide) (mem_of rfl) (mem_of rfl) (mem_of rfl) (by decide) (by decide) (by decide) (by decide) (by decide) (by decide) (by decide) rfl (by decide) (by decide))
      refine steps_cons (fun own a wx hf hsl hE => ?_) ?_
      · obtain ⟨⟨⟨A651, cA651⟩, (f_55 : a.eval (.tmp 55) = .slice A651 x648.length cA651), (b_A651 : RwN own 649 650 [] wx 24 34 R34 A651 cA651 x648)⟩, -⟩ := hf
        exact sg_plain rfl rfl (or_mono (f := Fct.val 5 (.slice A651 x648.length cA651)) (or_assign f_55) (fun own' a' w' v' hp h => fun _ _ h0' => by cases (f_55.symm.trans ((hp.2 55 (by decide)).symm.trans h0')); exact h))
      exact steps_nil
    intro own652 a652 w652 hd652 hz652 hk652 hf652 hE652
    have e652_0 : a652.eval (.tmp 0) = .slice Al1 l1.length cl1 := (hk652 0 rfl).trans e636_0
    have e652_3 : a652.eval (.tmp 3) = .pointer (some ⟨g332, 0, none⟩) := (hk652 3 rfl).trans e636_3
    have e652_7 : a652.eval (.tmp 7) = .int .i64 2 := (hk652 7 rfl).trans e636_7
    obtain ⟨⟨⟨A651, cA651⟩, (f_55 : a652.eval (.tmp 55) = .slice A651 x648.length cA651), (b_A651 : RwN own652 649 650 [] w652 24 34 R34 A651 cA651 x648)⟩, (q_5 : ∀ (A651 : Option Addr) (cA651 : Nat), a652.eval (.tmp 55) = .slice A651 x648.length cA651 → a652.eval (.tmp 5) = .slice A651 x648.length cA651), -⟩ := hf652 [8, 9] rfl
    have f_5 := q_5 _ _ f_55
    have e652_5 := f_5
    have hX652 := Evo.step hX636 (fun _ => Nat.le_refl 0) hE652 rfl
    have b652_Al1 := RdO.evo rfl hE652 b636_Al1
    have b652_g332 := BlkO.evo (by decide) hE652 b636_g332
    have b652_A651 := b_A651
    refine fl_goto ?_
    exact hj536 (Sum.inl (x648, 2)) _ _ (show loopO _ _ = _ from hs) ⟨(rl [(649, 451), (650, 452)] own652), A651, cA651, hd652, hz652, e652_0, e652_3, e652_5, e652_7, (Evo.rl_ hX652 (fun _ => Nat.le_refl 0) rfl), (RdO.rl_ (mm := [(649, 451), (650, 452)]) b652_Al1), (BlkO.rl_ (mm := [(649, 451), (650, 452)]) b652_g332), (RwN.rl_ (mm := [(649, 451), (650, 452)]) b652_A651)⟩
  · rintro (⟨out450, x453⟩ | ⟨out456, x459, x460⟩)
    · rintro zz536 a537 w537 ⟨own537, A448, c449, hd538, hz538, e538_0, e538_3, e538_5, e538_7, hE538, b538_Al1, b538_g332, b538_A448⟩ hs Q537 hj537 hp537 hz537
      have hs : lineclip_Parts_b1_0 l1 b2 out450 x453 = some zz536 := hs
      conv => arg 4; whnf
      refine fl_seq (fun Q539 hn539 hp539 => ?_)
      refine fl_skip ?_
      refine hn539 _ _ ?_
      refine fl_seq (fun Q540 hn540 hp540 => ?_)
      refine rg_plain_seq (n := 56) (rs := []) (own0 := own537) (K := [])
          (bs := [0, 0, 2, 7])
          (ds := [⟨[], [7], [], Fct.val 8 (.int .i64 x453)⟩,
          ⟨[], [0], [], Fct.val 9 (.slice Al1 l1.length cl1)⟩,
          ⟨[1], [], [], Fct.val 10 (.int .i64 (l1.length : Int))⟩,
          ⟨[0, 2], [], [], Fct.val 11 (.bool (decide ((l1.length : Int) ≤ x453)))⟩]) (by kernel_rfl) hz538 hd538 (fun _ h => nomatch h) ?_ ?_
      · refine steps_cons (fun own a wx hf hsl hE => ?_) ?_
        · obtain ⟨s_7, -⟩ := hsl
          exact sg_plain rfl rfl (or_move (s_7.trans e538_7))
        refine steps_cons (fun own a wx hf hsl hE => ?_) ?_
        · obtain ⟨s_0, -⟩ := hsl
          exact sg_plain rfl rfl (or_move (s_0.trans e538_0))
        refine steps_cons (fun own a wx hf hsl hE => ?_) ?_
        · obtain ⟨(f_9 : a.eval (.tmp 9) = .slice Al1 l1.length cl1), -⟩ := hf
          exact sg_plain rfl rfl (or_len tu24 f_9 rfl)
        refine steps_cons (fun own a wx hf hsl hE => ?_) ?_
        · obtain ⟨(f_8 : a.eval (.tmp 8) = .int .i64 x453), (f_10 : a.eval (.tmp 10) = .int .i64 (l1.length : Int)), -⟩ := hf
          exact sg_plain rfl rfl (or_geq f_8 f_10 rfl)
        exact steps_nil
      intro own541 a541 w541 hd541 hz541 hk541 hf541 hE541
      have e541_0 : a541.eval (.tmp 0) = .slice Al1 l1.length cl1 := (hk541 0 rfl).trans e538_0
      have e541_3 : a541.eval (.tmp 3) = .pointer (some ⟨g332, 0, none⟩) := (hk541 3 rfl).trans e538_3
      have e541_5 : a541.eval (.tmp 5) = .slice A448 out450.length c449 := (hk541 5 rfl).trans e538_5
      have e541_7 : a541.eval (.tmp 7) = .int .i64 x453 := (hk541 7 rfl).trans e538_7
      obtain ⟨(f_11 : a541.eval (.tmp 11) = .bool (decide ((l1.length : Int) ≤ x453))), -⟩ := hf541 [3] rfl
      have e541_11 := f_11
      have hX541 := Evo.step hE538 (fun _ => Nat.le_refl 0) hE541 rfl
      have b541_Al1 := RdO.evo rfl hE541 b538_Al1
      have b541_g332 := BlkO.evo (by decide) hE541 b538_g332
      have b541_A448 := RwN.evo rfl hE541 b538_A448
      refine fl_cond e541_11 hs (fun c542 hs => ?_) (fun c542 hs => ?_)
      · refine rg_plain_seq (n := 56) (rs := []) (own0 := own541) (K := [])
            (bs := [0, 1])
            (ds := [⟨[], [5], [], Fct.val 12 (.slice A448 out450.length c449)⟩,
            ⟨[0], [], [], Fct.val 4 (.slice A448 out450.length c449)⟩]) (by kernel_rfl) hz541 hd541 (fun _ h => nomatch h) ?_ ?_
        · refine steps_cons (fun own a wx hf hsl hE => ?_) ?_
          · obtain ⟨s_5, -⟩ := hsl
            exact sg_plain rfl rfl (or_move (s_5.trans e541_5))
          refine steps_cons (fun own a wx hf hsl hE => ?_) ?_
          · obtain ⟨(f_12 : a.eval (.tmp 12) = .slice A448 out450.length c449), -⟩ := hf
            exact sg_plain rfl rfl (or_assign f_12)
          exact steps_nil
        intro own543 a543 w543 hd543 hz543 hk543 hf543 hE543
        obtain ⟨(f_4 : a543.eval (.tmp 4) = .slice A448 out450.length c449), -⟩ := hf543 [1] rfl
        have e543_4 := f_4
        have hX543 := Evo.step hX541 (fun _ => Nat.le_refl 0) hE543 rfl
        have b543_A448 := RwN.evo rfl hE543 b541_A448
        refine fl_ret ?_
        refine hp540 _ _ _ rfl ?_
        replace hs := hz537 _ hs
        refine hp537.leaves _ _ _ rfl ?_
        obtain rfl := (osome hs).symm
        exact hret _ _ _ _ (.inl rfl) hd543 (results1_ rfl (RVal.tmp_ e543_4)) ⟨(rl [(451, 1), (452, 2)] own543), (A448, c449), rfl, (Evo.rl_ hX543 (fun _ => Nat.le_refl 0) rfl), (RwO.rl_ (mm := [(451, 1), (452, 2)]) (RwN.rw_ b543_A448 (by decide)))⟩
      refine fl_skip ?_
      refine hn540 _ _ ?_
      refine rg_plain_seq (n := 56) (rs := []) (own0 := own541) (K := [])
          (bs := [0, 1, 3])
          (ds := [⟨[], [7], [], Fct.val 13 (.int .i64 x453)⟩,
          ⟨[0], [], [], Fct.val 14 (.int .i64 (sb x453 1))⟩,
          ⟨[1], [], [], Fct.val 6 (.int .i64 (sb x453 1))⟩]) (by kernel_rfl) hz541 hd541 (fun _ h => nomatch h) ?_ ?_
      · refine steps_cons (fun own a wx hf hsl hE => ?_) ?_
        · obtain ⟨s_7, -⟩ := hsl
          exact sg_plain rfl rfl (or_move (s_7.trans e541_7))
        refine steps_cons (fun own a wx hf hsl hE => ?_) ?_
        · obtain ⟨(f_13 : a.eval (.tmp 13) = .int .i64 x453), -⟩ := hf
          exact sg_plain rfl rfl (or_sub f_13 rfl rfl)
        refine steps_cons (fun own a wx hf hsl hE => ?_) ?_
        · obtain ⟨(f_14 : a.eval (.tmp 14) = .int .i64 (sb x453 1)), -⟩ := hf
          exact sg_plain rfl rfl (or_assign f_14)
        exact steps_nil
      intro own544 a544 w544 hd544 hz544 hk544 hf544 hE544
      have e544_0 : a544.eval (.tmp 0) = .slice Al1 l1.length cl1 := (hk544 0 rfl).trans e541_0
      have e544_3 : a544.eval (.tmp 3) = .pointer (some ⟨g332, 0, none⟩) := (hk544 3 rfl).trans e541_3
      have e544_5 : a544.eval (.tmp 5) = .slice A448 out450.length c449 := (hk544 5 rfl).trans e541_5
      have e544_7 : a544.eval (.tmp 7) = .int .i64 x453 := (hk544 7 rfl).trans e541_7
      obtain ⟨(f_6 : a544.eval (.tmp 6) = .int .i64 (sb x453 1)), -⟩ := hf544 [2] rfl
      have e544_6 := f_6
      have hX544 := Evo.step hX541 (fun _ => Nat.le_refl 0) hE544 rfl
      have b544_Al1 := RdO.evo rfl hE544 b541_Al1
      have b544_g332 := BlkO.evo (by decide) hE544 b541_g332
      have b544_A448 := RwN.evo rfl hE544 b541_A448
      refine fl_seq (fun Q545 hn545 hp545 => ?_)
      obtain ⟨x546, hx546, hs⟩ := obind hs
      obtain ⟨x547, hx547, hs⟩ := obind hs
      obtain ⟨r548, hr548, hs⟩ := obind hs
      refine rg_draw_seq g_mixed (n := 56) (rs := []) (own0 := own544) (K := [])
          (bs := [0, 0, 3, 7, 0, 0, 48, 112, 0, 511, 1023])
          (ds := [⟨[], [0], [], Fct.val 15 (.slice Al1 l1.length cl1)⟩,
          ⟨[], [6], [], Fct.val 16 (.int .i64 (sb x453 1))⟩,
          ⟨[0, 1], [], [], Fct.val 17 (.pointer (some ((adr Al1).add ((sb x453 1 : Int).toNat * R34.s))))⟩,
          ⟨[2], [], [], Fct.val 18 (.agg #[.int .i64 x546.1, .int .i64 x546.2])⟩,
          ⟨[], [0], [], Fct.val 19 (.slice Al1 l1.length cl1)⟩,
          ⟨[], [7], [], Fct.val 20 (.int .i64 x453)⟩,
          ⟨[4, 5], [], [], Fct.val 21 (.pointer (some ((adr Al1).add ((x453 : Int).toNat * R34.s))))⟩,
          ⟨[6], [], [], Fct.val 22 (.agg #[.int .i64 x547.1, .int .i64 x547.2])⟩,
          ⟨[], [3], [], Fct.val 23 (.agg #[.int .i64 b2.1.1, .int .i64 b2.1.2, .int .i64 b2.2.1, .int .i64 b2.2.2])⟩,
          ⟨[3, 7, 8], [], [], Fct.val 24 (.bool r548)⟩,
          ⟨[9], [], [], Fct.val 25 (.bool (!r548))⟩]) (by kernel_rfl) hz544 hd544 (fun _ h => nomatch h) ?_ ?_
      · refine steps_cons (fun own a wx hf hsl hE => ?_) ?_
        · obtain ⟨s_0, -⟩ := hsl
          exact sg_plain rfl rfl (or_move (s_0.trans e544_0))
        refine steps_cons (fun own a wx hf hsl hE => ?_) ?_
        · obtain ⟨s_6, -⟩ := hsl
          exact sg_plain rfl rfl (or_move (s_6.trans e544_6))
        refine steps_cons (fun own a wx hf hsl hE => ?_) ?_
        · obtain ⟨(f_15 : a.eval (.tmp 15) = .slice Al1 l1.length cl1), (f_16 : a.eval (.tmp 16) = .int .i64 (sb x453 1)), -⟩ := hf
          exact sg_plain rfl rfl (or_index (R := R34) (l := l1) tl24 f_15 f_16 (RdO.some_ b544_Al1 hx546) hx546)
        refine steps_cons (fun own a wx hf hsl hE => ?_) ?_
        · obtain ⟨(f_17 : a.eval (.tmp 17) = .pointer (some ((adr Al1).add ((sb x453 1 : Int).toNat * R34.s)))), -⟩ := hf
          exact sg_plain rfl rfl (or_load (l := E34.f x546) ta34 f_17 (RdO.cells (F := E34) (RdO.evo rfl hE b544_Al1) hx546) rfl)
        refine steps_cons (fun own a wx hf hsl hE => ?_) ?_
        · obtain ⟨s_0, -⟩ := hsl
          exact sg_plain rfl rfl (or_move (s_0.trans e544_0))
        refine steps_cons (fun own a wx hf hsl hE => ?_) ?_
        · obtain ⟨s_7, -⟩ := hsl
          exact sg_plain rfl rfl (or_move (s_7.trans e544_7))
        refine steps_cons (fun own a wx hf hsl hE => ?_) ?_
        · obtain ⟨(f_19 : a.eval (.tmp 19) = .slice Al1 l1.length cl1), (f_20 : a.eval (.tmp 20) = .int .i64 x453), -⟩ := hf
          exact sg_plain rfl rfl (or_index (R := R34) (l := l1) tl24 f_19 f_20 (RdO.some_ b544_Al1 hx547) hx547)
        refine steps_cons (fun own a wx hf hsl hE => ?_) ?_
        · obtain ⟨(f_21 : a.eval (.tmp 21) = .pointer (some ((adr Al1).add ((x453 : Int).toNat * R34.s)))), -⟩ := hf
          exact sg_plain rfl rfl (or_load (l := E34.f x547) ta34 f_21 (RdO.cells (F := E34) (RdO.evo rfl hE b544_Al1) hx547) rfl)
        refine steps_cons (fun own a wx hf hsl hE => ?_) ?_
        · obtain ⟨s_3, -⟩ := hsl
          exact sg_plain rfl rfl (or_load (l := [.int .i64 b2.1.1, .int .i64 b2.1.2, .int .i64 b2.2.1, .int .i64 b2.2.2]) ta36 (s_3.trans e544_3) (Blk.cellsFrom (BlkO.evo (by decide) hE b544_g332).2 0 rfl) rfl)
        refine steps_cons (fun own a wx hf hsl hE => ?_) ?_
        · obtain ⟨(f_18 : a.eval (.tmp 18) = .agg #[.int .i64 x546.1, .int .i64 x546.2]), (f_22 : a.eval (.tmp 22) = .agg #[.int .i64 x547.1, .int .i64 x547.2]), (f_23 : a.eval (.tmp 23) = .agg #[.int .i64 b2.1.1, .int .i64 b2.1.2, .int .i64 b2.2.1, .int .i64 b2.2.2]), -⟩ := hf
          exact sg_plain rfl rfl (or_call cf15 (args3 f_18 f_22 f_23) (lineclip_Shown_w _ x546 x547 b2  r548 hr548) post_val)
        refine steps_cons (fun own a wx hf hsl hE => ?_) ?_
        · obtain ⟨(f_24 : a.eval (.tmp 24) = .bool r548), -⟩ := hf
          exact sg_plain rfl rfl (or_not f_24 rfl)
        exact steps_nil
      intro own549 a549 w549 hd549 hz549 hk549 hf549 hE549
      have e549_0 : a549.eval (.tmp 0) = .slice Al1 l1.length cl1 := (hk549 0 rfl).trans e544_0
      have e549_3 : a549.eval (.tmp 3) = .pointer (some ⟨g332, 0, none⟩) := (hk549 3 rfl).trans e544_3
      have e549_5 : a549.eval (.tmp 5) = .slice A448 out450.length c449 := (hk549 5 rfl).trans e544_5
      have e549_6 : a549.eval (.tmp 6) = .int .i64 (sb x453 1) := (hk549 6 rfl).trans e544_6
      have e549_7 : a549.eval (.tmp 7) = .int .i64 x453 := (hk549 7 rfl).trans e544_7
      obtain ⟨(f_25 : a549.eval (.tmp 25) = .bool (!r548)), -⟩ := hf549 [10] rfl
      have e549_25 := f_25
      have hX549 := Evo.step hX544 (fun _ => Nat.le_refl 0) hE549 rfl
      have b549_Al1 := RdO.evo rfl hE549 b544_Al1
      have b549_g332 := BlkO.evo (by decide) hE549 b544_g332
      have b549_A448 := RwN.evo rfl hE549 b544_A448
      refine fl_cond e549_25 hs (fun c550 hs => ?_) (fun c550 hs => ?_)
      · refine rg_plain_seq (n := 56) (rs := []) (own0 := own549) (K := [])
            (bs := [0, 1, 3])
            (ds := [⟨[], [7], [], Fct.val 26 (.int .i64 x453)⟩,
            ⟨[0], [], [], Fct.val 27 (.int .i64 (ad x453 1))⟩,
            ⟨[1], [], [], Fct.val 7 (.int .i64 (ad x453 1))⟩]) (by kernel_rfl) hz549 hd549 (fun _ h => nomatch h) ?_ ?_
        · refine steps_cons (fun own a wx hf hsl hE => ?_) ?_
          · obtain ⟨s_7, -⟩ := hsl
            exact sg_plain rfl rfl (or_move (s_7.trans e549_7))
          refine steps_cons (fun own a wx hf hsl hE => ?_) ?_
          · obtain ⟨(f_26 : a.eval (.tmp 26) = .int .i64 x453), -⟩ := hf
            exact sg_plain rfl rfl (or_add f_26 rfl rfl)
          refine steps_cons (fun own a wx hf hsl hE => ?_) ?_
          · obtain ⟨(f_27 : a.eval (.tmp 27) = .int .i64 (ad x453 1)), -⟩ := hf
            exact sg_plain rfl rfl (or_assign f_27)
          exact steps_nil
        intro own551 a551 w551 hd551 hz551 hk551 hf551 hE551
        have e551_0 : a551.eval (.tmp 0) = .slice Al1 l1.length cl1 := (hk551 0 rfl).trans e549_0
        have e551_3 : a551.eval (.tmp 3) = .pointer (some ⟨g332, 0, none⟩) := (hk551 3 rfl).trans e549_3
        have e551_5 : a551.eval (.tmp 5) = .slice A448 out450.length c449 := (hk551 5 rfl).trans e549_5
        obtain ⟨(f_7 : a551.eval (.tmp 7) = .int .i64 (ad x453 1)), -⟩ := hf551 [2] rfl
        have e551_7 := f_7
        have hX551 := Evo.step hX549 (fun _ => Nat.le_refl 0) hE551 rfl
        have b551_Al1 := RdO.evo rfl hE551 b549_Al1
        have b551_g332 := BlkO.evo (by decide) hE551 b549_g332
        have b551_A448 := RwN.evo rfl hE551 b549_A448
        refine fl_goto ?_
        refine hp545 _ _ _ rfl ?_
        exact hj537 (Sum.inl (out450, ad x453 1)) _ _ hs ⟨own551, A448, c449, hd551, hz551, e551_0, e551_3, e551_5, e551_7, hX551, b551_Al1, b551_g332, b551_A448⟩
      refine fl_skip ?_
      refine hn545 _ _ ?_
      refine fl_seq (fun Q552 hn552 hp552 => ?_)
      refine fl_label ?_
      refine hn552 _ _ ?_
      refine rg_plain_seq (n := 56) (rs := []) (own0 := own549) (K := [])
          (bs := [0, 1, 3])
          (ds := [⟨[], [7], [], Fct.val 28 (.int .i64 x453)⟩,
          ⟨[0], [], [], Fct.val 29 (.int .i64 (ad x453 1))⟩,
          ⟨[1], [], [], Fct.val 7 (.int .i64 (ad x453 1))⟩]) (by kernel_rfl) hz549 hd549 (fun _ h => nomatch h) ?_ ?_
      · refine steps_cons (fun own a wx hf hsl hE => ?_) ?_
        · obtain ⟨s_7, -⟩ := hsl
          exact sg_plain rfl rfl (or_move (s_7.trans e549_7))
        refine steps_cons (fun own a wx hf hsl hE => ?_) ?_
        · obtain ⟨(f_28 : a.eval (.tmp 28) = .int .i64 x453), -⟩ := hf
          exact sg_plain rfl rfl (or_add f_28 rfl rfl)
        refine steps_cons (fun own a wx hf hsl hE => ?_) ?_
        · obtain ⟨(f_29 : a.eval (.tmp 29) = .int .i64 (ad x453 1)), -⟩ := hf
          exact sg_plain rfl rfl (or_assign f_29)
        exact steps_nil
      intro own553 a553 w553 hd553 hz553 hk553 hf553 hE553
      have e553_0 : a553.eval (.tmp 0) = .slice Al1 l1.length cl1 := (hk553 0 rfl).trans e549_0
      have e553_3 : a553.eval (.tmp 3) = .pointer (some ⟨g332, 0, none⟩) := (hk553 3 rfl).trans e549_3
      have e553_5 : a553.eval (.tmp 5) = .slice A448 out450.length c449 := (hk553 5 rfl).trans e549_5
      have e553_6 : a553.eval (.tmp 6) = .int .i64 (sb x453 1) := (hk553 6 rfl).trans e549_6
      obtain ⟨(f_7 : a553.eval (.tmp 7) = .int .i64 (ad x453 1)), -⟩ := hf553 [2] rfl
      have e553_7 := f_7
      have hX553 := Evo.step hX549 (fun _ => Nat.le_refl 0) hE553 rfl
      have b553_Al1 := RdO.evo rfl hE553 b549_Al1
      have b553_g332 := BlkO.evo (by decide) hE553 b549_g332
      have b553_A448 := RwN.evo rfl hE553 b549_A448
      refine fl_seq (fun Q554 hn554 hp554 => ?_)
      obtain ⟨x555, hx555, hs⟩ := obind hs
      obtain ⟨x556, hx556, hs⟩ := obind hs
      obtain ⟨r557, hr557, hs⟩ := obind hs
      obtain ⟨x558, hx558, hs⟩ := obind hs
      refine rg_draw_seq g_mixed (n := 56) (rs := []) (own0 := own553) (K := [])
          (bs := [0, 0, 2, 7, 15, 31, 31, 95, 255, 511, 31, 31, 3103, 7199, 31, 32767, 65535])
          (ds := [⟨[], [7], [], Fct.val 30 (.int .i64 (ad x453 1))⟩,
          ⟨[], [0], [], Fct.val 31 (.slice Al1 l1.length cl1)⟩,
          ⟨[1], [], [], Fct.val 32 (.int .i64 (l1.length : Int))⟩,
          ⟨[0, 2], [], [], Fct.val 33 (.bool (decide ((ad x453 1) < (l1.length : Int))))⟩,
          ⟨[3], [], [], Fct.val 34 (.bool (decide ((ad x453 1) < (l1.length : Int))))⟩,
          ⟨[4], [0], [], Fct.cond (decide ((ad x453 1) < (l1.length : Int))) (some 35) (Fct.val 35 (.slice Al1 l1.length cl1))⟩,
          ⟨[4], [7], [], Fct.cond (decide ((ad x453 1) < (l1.length : Int))) (some 36) (Fct.val 36 (.int .i64 (ad x453 1)))⟩,
          ⟨[4, 6], [], [], Fct.cond (decide ((ad x453 1) < (l1.length : Int))) (some 37) (Fct.val 37 (.int .i64 (sb (ad x453 1) 1)))⟩,
          ⟨[4, 5, 7], [], [], Fct.cond (decide ((ad x453 1) < (l1.length : Int))) (some 38) (Fct.val 38 (.pointer (some ((adr Al1).add ((sb (ad x453 1) 1 : Int).toNat * R34.s)))))⟩,
          ⟨[4, 8], [], [], Fct.cond (decide ((ad x453 1) < (l1.length : Int))) (some 39) (Fct.val 39 (.agg #[.int .i64 x555.1, .int .i64 x555.2]))⟩,
          ⟨[4], [0], [], Fct.cond (decide ((ad x453 1) < (l1.length : Int))) (some 40) (Fct.val 40 (.slice Al1 l1.length cl1))⟩,
          ⟨[4], [7], [], Fct.cond (decide ((ad x453 1) < (l1.length : Int))) (some 41) (Fct.val 41 (.int .i64 (ad x453 1)))⟩,
          ⟨[4, 10, 11], [], [], Fct.cond (decide ((ad x453 1) < (l1.length : Int))) (some 42) (Fct.val 42 (.pointer (some ((adr Al1).add ((ad x453 1 : Int).toNat * R34.s)))))⟩,
          ⟨[4, 12], [], [], Fct.cond (decide ((ad x453 1) < (l1.length : Int))) (some 43) (Fct.val 43 (.agg #[.int .i64 x556.1, .int .i64 x556.2]))⟩,
          ⟨[4], [3], [], Fct.cond (decide ((ad x453 1) < (l1.length : Int))) (some 44) (Fct.val 44 (.agg #[.int .i64 b2.1.1, .int .i64 b2.1.2, .int .i64 b2.2.1, .int .i64 b2.2.2]))⟩,
          ⟨[4, 9, 13, 14], [], [], Fct.cond (decide ((ad x453 1) < (l1.length : Int))) (some 45) (Fct.val 45 (.bool r557))⟩,
          ⟨[4, 15], [], [], Fct.val 46 (.bool x558)⟩]) (by kernel_rfl) hz553 hd553 (fun _ h => nomatch h) ?_ ?_
      · refine steps_cons (fun own a wx hf hsl hE => ?_) ?_
        · obtain ⟨s_7, -⟩ := hsl
          exact sg_plain rfl rfl (or_move (s_7.trans e553_7))
        refine steps_cons (fun own a wx hf hsl hE => ?_) ?_
        · obtain ⟨s_0, -⟩ := hsl
          exact sg_plain rfl rfl (or_move (s_0.trans e553_0))
        refine steps_cons (fun own a wx hf hsl hE => ?_) ?_
        · obtain ⟨(f_31 : a.eval (.tmp 31) = .slice Al1 l1.length cl1), -⟩ := hf
          exact sg_plain rfl rfl (or_len tu24 f_31 rfl)
        refine steps_cons (fun own a wx hf hsl hE => ?_) ?_
        · obtain ⟨(f_30 : a.eval (.tmp 30) = .int .i64 (ad x453 1)), (f_32 : a.eval (.tmp 32) = .int .i64 (l1.length : Int)), -⟩ := hf
          exact sg_plain rfl rfl (or_lss f_30 f_32 rfl)
        refine steps_cons (fun own a wx hf hsl hE => ?_) ?_
        · obtain ⟨(f_33 : a.eval (.tmp 33) = .bool (decide ((ad x453 1) < (l1.length : Int)))), -⟩ := hf
          exact sg_plain rfl rfl (or_move f_33)
        refine steps_cons (fun own a wx hf hsl hE => ?_) ?_
        · obtain ⟨(f_34 : a.eval (.tmp 34) = .bool (decide ((ad x453 1) < (l1.length : Int)))), -⟩ := hf
          obtain ⟨s_0, -⟩ := hsl
          refine sg_t rfl rfl rfl f_34 (fun hg => ?_)
          exact or_move (s_0.trans e553_0)
        refine steps_cons (fun own a wx hf hsl hE => ?_) ?_
        · obtain ⟨(f_34 : a.eval (.tmp 34) = .bool (decide ((ad x453 1) < (l1.length : Int)))), -⟩ := hf
          obtain ⟨s_7, -⟩ := hsl
          refine sg_t rfl rfl rfl f_34 (fun hg => ?_)
          exact or_move (s_7.trans e553_7)
        refine steps_cons (fun own a wx hf hsl hE => ?_) ?_
        · obtain ⟨(f_34 : a.eval (.tmp 34) = .bool (decide ((ad x453 1) < (l1.length : Int)))), c_36, -⟩ := hf
          refine sg_t rfl rfl rfl f_34 (fun hg => ?_)
          have f_36 : a.eval (.tmp 36) = .int .i64 (ad x453 1) := c_36.1 hg
          exact or_sub f_36 rfl rfl
        refine steps_cons (fun own a wx hf hsl hE => ?_) ?_
        · obtain ⟨(f_34 : a.eval (.tmp 34) = .bool (decide ((ad x453 1) < (l1.length : Int)))), c_35, c_37, -⟩ := hf
          refine sg_t rfl rfl rfl f_34 (fun hg => ?_)
          have f_35 : a.eval (.tmp 35) = .slice Al1 l1.length cl1 := c_35.1 hg
          have f_37 : a.eval (.tmp 37) = .int .i64 (sb (ad x453 1) 1) := c_37.1 hg
          exact or_index (R := R34) (l := l1) tl24 f_35 f_37 (RdO.some_ b553_Al1 (gd_t hx555 hg)) (gd_t hx555 hg)
        refine steps_cons (fun own a wx hf hsl hE => ?_) ?_
        · obtain ⟨(f_34 : a.eval (.tmp 34) = .bool (decide ((ad x453 1) < (l1.length : Int)))), c_38, -⟩ := hf
          refine sg_t rfl rfl rfl f_34 (fun hg => ?_)
          have f_38 : a.eval (.tmp 38) = .pointer (some ((adr Al1).add ((sb (ad x453 1) 1 : Int).toNat * R34.s))) := c_38.1 hg
          exact or_load (l := E34.f x555) ta34 f_38 (RdO.cells (F := E34) (RdO.evo rfl hE b553_Al1) (gd_t hx555 hg)) rfl
        refine steps_cons (fun own a wx hf hsl hE => ?_) ?_
        · obtain ⟨(f_34 : a.eval (.tmp 34) = .bool (decide ((ad x453 1) < (l1.length : Int)))), -⟩ := hf
          obtain ⟨s_0, -⟩ := hsl
          refine sg_t rfl rfl rfl f_34 (fun hg => ?_)
          exact or_move (s_0.trans e553_0)
        refine steps_cons (fun own a wx hf hsl hE => ?_) ?_
        · obtain ⟨(f_34 : a.eval (.tmp 34) = .bool (decide ((ad x453 1) < (l1.length : Int)))), -⟩ := hf
          obtain ⟨s_7, -⟩ := hsl
          refine sg_t rfl rfl rfl f_34 (fun hg => ?_)
          exact or_move (s_7.trans e553_7)
        refine steps_cons (fun own a wx hf hsl hE => ?_) ?_
        · obtain ⟨(f_34 : a.eval (.tmp 34) = .bool (decide ((ad x453 1) < (l1.length : Int)))), c_40, c_41, -⟩ := hf
          refine sg_t rfl rfl rfl f_34 (fun hg => ?_)
          have f_40 : a.eval (.tmp 40) = .slice Al1 l1.length cl1 := c_40.1 hg
          have f_41 : a.eval (.tmp 41) = .int .i64 (ad x453 1) := c_41.1 hg
          exact or_index (R := R34) (l := l1) tl24 f_40 f_41 (RdO.some_ b553_Al1 (gd_t hx556 hg)) (gd_t hx556 hg)
        refine steps_cons (fun own a wx hf hsl hE => ?_) ?_
        · obtain ⟨(f_34 : a.eval (.tmp 34) = .bool (decide ((ad x453 1) < (l1.length : Int)))), c_42, -⟩ := hf
          refine sg_t rfl rfl rfl f_34 (fun hg => ?_)
          have f_42 : a.eval (.tmp 42) = .pointer (some ((adr Al1).add ((ad x453 1 : Int).toNat * R34.s))) := c_42.1 hg
          exact or_load (l := E34.f x556) ta34 f_42 (RdO.cells (F := E34) (RdO.evo rfl hE b553_Al1) (gd_t hx556 hg)) rfl
        refine steps_cons (fun own a wx hf hsl hE => ?_) ?_
        · obtain ⟨(f_34 : a.eval (.tmp 34) = .bool (decide ((ad x453 1) < (l1.length : Int)))), -⟩ := hf
          obtain ⟨s_3, -⟩ := hsl
          refine sg_t rfl rfl rfl f_34 (fun hg => ?_)
          exact or_load (l := [.int .i64 b2.1.1, .int .i64 b2.1.2, .int .i64 b2.2.1, .int .i64 b2.2.2]) ta36 (s_3.trans e553_3) (Blk.cellsFrom (BlkO.evo (by decide) hE b553_g332).2 0 rfl) rfl
        refine steps_cons (fun own a wx hf hsl hE => ?_) ?_
        · obtain ⟨(f_34 : a.eval (.tmp 34) = .bool (decide ((ad x453 1) < (l1.length : Int)))), c_39, c_43, c_44, -⟩ := hf
          refine sg_t rfl rfl rfl f_34 (fun hg => ?_)
          have f_39 : a.eval (.tmp 39) = .agg #[.int .i64 x555.1, .int .i64 x555.2] := c_39.1 hg
          have f_43 : a.eval (.tmp 43) = .agg #[.int .i64 x556.1, .int .i64 x556.2] := c_43.1 hg
          have f_44 : a.eval (.tmp 44) = .agg #[.int .i64 b2.1.1, .int .i64 b2.1.2, .int .i64 b2.2.1, .int .i64 b2.2.2] := c_44.1 hg
          exact or_call cf15 (args3 f_39 f_43 f_44) (lineclip_Shown_w _ x555 x556 b2  r557 (gd_t hr557 hg)) post_val
        refine steps_cons (fun own a wx hf hsl hE => ?_) ?_
        · obtain ⟨(f_34 : a.eval (.tmp 34) = .bool (decide ((ad x453 1) < (l1.length : Int)))), c_45, -⟩ := hf
          exact sg_plain rfl rfl (or_and f_34 (fun hx => c_45.1 hx) rfl (osome hx558).symm)
        exact steps_nil
      intro own559 a559 w559 hd559 hz559 hk559 hf559 hE559
      have e559_0 : a559.eval (.tmp 0) = .slice Al1 l1.length cl1 := (hk559 0 rfl).trans e553_0
      have e559_3 : a559.eval (.tmp 3) = .pointer (some ⟨g332, 0, none⟩) := (hk559 3 rfl).trans e553_3
      have e559_5 : a559.eval (.tmp 5) = .slice A448 out450.length c449 := (hk559 5 rfl).trans e553_5
      have e559_6 : a559.eval (.tmp 6) = .int .i64 (sb x453 1) := (hk559 6 rfl).trans e553_6
      have e559_7 : a559.eval (.tmp 7) = .int .i64 (ad x453 1) := (hk559 7 rfl).trans e553_7
      obtain ⟨(f_46 : a559.eval (.tmp 46) = .bool x558), -⟩ := hf559 [16] rfl
      have e559_46 := f_46
      have hX559 := Evo.step hX553 (fun _ => Nat.le_refl 0) hE559 rfl
      have b559_Al1 := RdO.evo rfl hE559 b553_Al1
      have b559_g332 := BlkO.evo (by decide) hE559 b553_g332
      have b559_A448 := RwN.evo rfl hE559 b553_A448
      refine fl_cond e559_46 hs (fun c560 hs => ?_) (fun c560 hs => ?_)
      · refine fl_goto ?_
        refine hp554 _ _ _ rfl ?_
        exact hj537 (Sum.inr (out450, sb x453 1, ad x453 1)) _ _ hs ⟨(rl [(451, 457), (452, 458)] own559), A448, c449, hd559, hz559, e559_0, e559_3, e559_5, e559_6, e559_7, (Evo.rl_ hX559 (fun _ => Nat.le_refl 0) rfl), (RdO.rl_ (mm := [(451, 457), (452, 458)]) b559_Al1), (BlkO.rl_ (mm := [(451, 457), (452, 458)]) b559_g332), (RwN.rl_ (mm := [(451, 457), (452, 458)]) b559_A448)⟩
      refine fl_skip ?_
      refine hn554 _ _ ?_
      obtain ⟨x569, hx569, hs⟩ := obind hs
      obtain ⟨x572, hx572, hs⟩ := obind hs
      obtain ⟨x577, hx577, hs⟩ := obind hs
      refine rg_plain_seq (n := 56) (rs := [Fct.rownAt 451 452 [] 24 34 R34 A448 c449 out450]) (own0 := own559) (K := [571, 451, 452, 573])
          (bs := [0, 0, 0, 0, 0, 30, 62, 126, 255, 511])
          (ds := [⟨[], [5], [], Fct.val 47 (.slice A448 out450.length c449)⟩,
          ⟨[], [0], [], Fct.val 48 (.slice Al1 l1.length cl1)⟩,
          ⟨[], [6], [], Fct.val 49 (.int .i64 (sb x453 1))⟩,
          ⟨[], [7], [], Fct.val 50 (.int .i64 (ad x453 1))⟩,
          ⟨[], [7], [], Fct.val 51 (.int .i64 (ad x453 1))⟩,
          ⟨[1, 2, 3, 4], [], [], Fct.view [0] 52 R34 x569⟩,
          ⟨[5], [], [571], Fct.row 573 [] 53 34 R34 x572⟩,
          ⟨[6], [], [], Fct.rown 576 573 [] 54 24 34 R34 [x572]⟩,
          ⟨[0, 7, 10], [], [451, 452, 573], Fct.rown 578 579 [] 55 24 34 R34 x577⟩,
          ⟨[8], [], [], Fct.rel [5, 55] (fun l => ∀ (A580 : Option Addr) (cA580 : Nat), l.getD 1 undef = .slice A580 x577.length cA580 → l.getD 0 undef = .slice A580 x577.length cA580)⟩]) (by kernel_rfl) hz559 hd559 (by simp only [List.forall_mem_cons]; exact ⟨b559_A448, fun _ h => nomatch h⟩) ?_ ?_
      · refine steps_cons (fun own a wx hf hsl hE => ?_) ?_
        · obtain ⟨s_5, -⟩ := hsl
          exact sg_plain rfl rfl (or_move (s_5.trans e559_5))
        refine steps_cons (fun own a wx hf hsl hE => ?_) ?_
        · obtain ⟨s_0, -⟩ := hsl
          exact sg_plain rfl rfl (or_move (s_0.trans e559_0))
        refine steps_cons (fun own a wx hf hsl hE => ?_) ?_
        · obtain ⟨s_6, -⟩ := hsl
          exact sg_plain rfl rfl (or_move (s_6.trans e559_6))
        refine steps_cons (fun own a wx hf hsl hE => ?_) ?_
        · obtain ⟨s_7, -⟩ := hsl
          exact sg_plain rfl rfl (or_move (s_7.trans e559_7))
        refine steps_cons (fun own a wx hf hsl hE => ?_) ?_
        · obtain ⟨s_7, -⟩ := hsl
          exact sg_plain rfl rfl (or_move (s_7.trans e559_7))
        refine steps_cons (fun own a wx hf hsl hE => ?_) ?_
        · obtain ⟨(f_48 : a.eval (.tmp 48) = .slice Al1 l1.length cl1), (f_49 : a.eval (.tmp 49) = .int .i64 (sb x453 1)), (f_50 : a.eval (.tmp 50) = .int .i64 (ad x453 1)), (f_51 : a.eval (.tmp 51) = .int .i64 (ad x453 1)), -⟩ := hf
          exact sg_plain rfl rfl (or_view (R := R34) (l := l1) (L := [0]) tu24 ts34 f_48 (Bnd.some_ f_49) (Bnd.some_ f_50) (Bnd.some_ f_51) (RdO.evo rfl hE b559_Al1) hx569 (.inr rfl) (by simp))
        refine steps_cons (fun own a wx hf hsl hE => ?_) ?_
        · obtain ⟨⟨⟨A570, cA570⟩, (f_52 : a.eval (.tmp 52) = .slice A570 x569.length cA570), (b_A570 : RdO own [0] wx R34 A570 cA570 x569)⟩, -⟩ := hf
          exact sg_plain rfl rfl (or_append (R := R34) (lab := 571) (lab2 := 573) (L := []) (L3 := []) tp24 rfl RwO.nil_ (by decide) f_52 b_A570 hx572 (by decide) (by decide) (mem_of rfl) (.inl (Rep.fl_flat _)))
        refine steps_cons (fun own a wx hf hsl hE => ?_) ?_
        · obtain ⟨⟨⟨A574, cA574⟩, (f_53 : a.eval (.tmp 53) = .slice A574 x572.length cA574), (b_A574 : RwO own 573 [] wx 34 R34 A574 cA574 x572)⟩, -⟩ := hf
          exact sg_plain rfl rfl (or_litO (R := R34) (lab := 576) (labE := 573) (L := []) (e := 24) (e2 := 34) (xl := x572) [(53, .slice A574 x572.length cA574)] rfl rfl ⟨f_53, trivial⟩ (by kernel_rfl) rfl b_A574 rfl)
        refine steps_cons (fun own a wx hf hsl hE => ?_) ?_
        · obtain ⟨(f_47 : a.eval (.tmp 47) = .slice A448 out450.length c449), ⟨⟨A575, cA575⟩, (f_54 : a.eval (.tmp 54) = .slice A575 [x572].length cA575), (b_A575 : RwN own 576 573 [] wx 24 34 R34 A575 cA575 [x572])⟩, (b_A448 : RwN own 451 452 [] wx 24 34 R34 A448 c449 out450), -⟩ := hf
          exact sg_plain rfl rfl (or_appendO (R := R34) (lab := 451) (labE := 452) (lab2 := 578) (lab3 := 579) (L := []) (L3 := []) tp22 f_47 b_A448 f_54 b_A575 hx577 (by decide) (by decide) (mem_of rfl) (mem_of rfl) (mem_of rfl) (by decide) (by decide) (by decide) (by decide) (by decide) (by decide) (by decide) rfl (by decide) (by decide))
        refine steps_cons (fun own a wx hf hsl hE => ?_) ?_
        · obtain ⟨⟨⟨A580, cA580⟩, (f_55 : a.eval (.tmp 55) = .slice A580 x577.length cA580), (b_A580 : RwN own 578 579 [] wx 24 34 R34 A580 cA580 x577)⟩, -⟩ := hf
          exact sg_plain rfl rfl (or_mono (f := Fct.val 5 (.slice A580 x577.length cA580)) (or_assign f_55) (fun own' a' w' v' hp h => fun _ _ h0' => by cases (f_55.symm.trans ((hp.2 55 (by decide)).symm.trans h0')); exact h))
        exact steps_nil
      intro own581 a581 w581 hd581 hz581 hk581 hf581 hE581
      have e581_0 : a581.eval (.tmp 0) = .slice Al1 l1.length cl1 := (hk581 0 rfl).trans e559_0
      have e581_3 : a581.eval (.tmp 3) = .pointer (some ⟨g332, 0, none⟩) := (hk581 3 rfl).trans e559_3
      have e581_7 : a581.eval (.tmp 7) = .int .i64 (ad x453 1) := (hk581 7 rfl).trans e559_7
      obtain ⟨⟨⟨A580, cA580⟩, (f_55 : a581.eval (.tmp 55) = .slice A580 x577.length cA580), (b_A580 : RwN own581 578 579 [] w581 24 34 R34 A580 cA580 x577)⟩, (q_5 : ∀ (A580 : Option Addr) (cA580 : Nat), a581.eval (.tmp 55) = .slice A580 x577.length cA580 → a581.eval (.tmp 5) = .slice A580 x577.length cA580), -⟩ := hf581 [8, 9] rfl
      have f_5 := q_5 _ _ f_55
      have e581_5 := f_5
      have hX581 := Evo.step hX559 (fun _ => Nat.le_refl 0) hE581 rfl
      have b581_Al1 := RdO.evo rfl hE581 b559_Al1
      have b581_g332 := BlkO.evo (by decide) hE581 b559_g332
      have b581_A580 := b_A580
      refine fl_goto ?_
      exact hj537 (Sum.inl (x577, ad x453 1)) _ _ hs ⟨(rl [(578, 451), (579, 452)] own581), A580, cA580, hd581, hz581, e581_0, e581_3, e581_5, e581_7, (Evo.rl_ hX581 (fun _ => Nat.le_refl 0) rfl), (RdO.rl_ (mm := [(578, 451), (579, 452)]) b581_Al1), (BlkO.rl_ (mm := [(578, 451), (579, 452)]) b581_g332), (RwN.rl_ (mm := [(578, 451), (579, 452)]) b581_A580)⟩
    · rintro zz536 a582 w582 ⟨own582, A454, c455, hd583, hz583, e583_0, e583_3, e583_5, e583_6, e583_7, hE583, b583_Al1, b583_g332, b583_A454⟩ hs Q582 hj582 hp582 hz582
      have hs : lineclip_Parts_b1_1 l1 b2 out456 x459 x460 = some zz536 := hs
      conv => arg 4; whnf
      refine fl_seq (fun Q584 hn584 hp584 => ?_)
      refine fl_skip ?_
      refine hn584 _ _ ?_
      refine rg_plain_seq (n := 56) (rs := []) (own0 := own582) (K := [])
          (bs := [0, 1, 3])
          (ds := [⟨[], [7], [], Fct.val 28 (.int .i64 x460)⟩,
          ⟨[0], [], [], Fct.val 29 (.int .i64 (ad x460 1))⟩,
          ⟨[1], [], [], Fct.val 7 (.int .i64 (ad x460 1))⟩]) (by kernel_rfl) hz583 hd583 (fun _ h => nomatch h) ?_ ?_
      · refine steps_cons (fun own a wx hf hsl hE => ?_) ?_
        · obtain ⟨s_7, -⟩ := hsl
          exact sg_plain rfl rfl (or_move (s_7.trans e583_7))
        refine steps_cons (fun own a wx hf hsl hE => ?_) ?_
        · obtain ⟨(f_28 : a.eval (.tmp 28) = .int .i64 x460), -⟩ := hf
          exact sg_plain rfl rfl (or_add f_28 rfl rfl)
        refine steps_cons (fun own a wx hf hsl hE => ?_) ?_
        · obtain ⟨(f_29 : a.eval (.tmp 29) = .int .i64 (ad x460 1)), -⟩ := hf
          exact sg_plain rfl rfl (or_assign f_29)
        exact steps_nil
      intro own585 a585 w585 hd585 hz585 hk585 hf585 hE585
      have e585_0 : a585.eval (.tmp 0) = .slice Al1 l1.length cl1 := (hk585 0 rfl).trans e583_0
      have e585_3 : a585.eval (.tmp 3) = .pointer (some ⟨g332, 0, none⟩) := (hk585 3 rfl).trans e583_3
      have e585_5 : a585.eval (.tmp 5) = .slice A454 out456.length c455 := (hk585 5 rfl).trans e583_5
      have e585_6 : a585.eval (.tmp 6) = .int .i64 x459 := (hk585 6 rfl).trans e583_6
      obtain ⟨(f_7 : a585.eval (.tmp 7) = .int .i64 (ad x460 1)), -⟩ := hf585 [2] rfl
      have e585_7 := f_7
      have hX585 := Evo.step hE583 (fun _ => Nat.le_refl 0) hE585 rfl
      have b585_Al1 := RdO.evo rfl hE585 b583_Al1
      have b585_g332 := BlkO.evo (by decide) hE585 b583_g332
      have b585_A454 := RwN.evo rfl hE585 b583_A454
      refine fl_seq (fun Q586 hn586 hp586 => ?_)
      obtain ⟨x587, hx587, hs⟩ := obind hs
      obtain ⟨x588, hx588, hs⟩ := obind hs
      obtain ⟨r589, hr589, hs⟩ := obind hs
      obtain ⟨x590, hx590, hs⟩ := obind hs
      refine rg_draw_seq g_mixed (n := 56) (rs := []) (own0 := own585) (K := [])
          (bs := [0, 0, 2, 7, 15, 31, 31, 95, 255, 511, 31, 31, 3103, 7199, 31, 32767, 65535])
          (ds := [⟨[], [7], [], Fct.val 30 (.int .i64 (ad x460 1))⟩,
          ⟨[], [0], [], Fct.val 31 (.slice Al1 l1.length cl1)⟩,
          ⟨[1], [], [], Fct.val 32 (.int .i64 (l1.length : Int))⟩,
          ⟨[0, 2], [], [], Fct.val 33 (.bool (decide ((ad x460 1) < (l1.length : Int))))⟩,
          ⟨[3], [], [], Fct.val 34 (.bool (decide ((ad x460 1) < (l1.length : Int))))⟩,
          ⟨[4], [0], [], Fct.cond (decide ((ad x460 1) < (l1.length : Int))) (some 35) (Fct.val 35 (.slice Al1 l1.length cl1))⟩,
          ⟨[4], [7], [], Fct.cond (decide ((ad x460 1) < (l1.length : Int))) (some 36) (Fct.val 36 (.int .i64 (ad x460 1)))⟩,
          ⟨[4, 6], [], [], Fct.cond (decide ((ad x460 1) < (l1.length : Int))) (some 37) (Fct.val 37 (.int .i64 (sb (ad x460 1) 1)))⟩,
          ⟨[4, 5, 7], [], [], Fct.cond (decide ((ad x460 1) < (l1.length : Int))) (some 38) (Fct.val 38 (.pointer (some ((adr Al1).add ((sb (ad x460 1) 1 : Int).toNat * R34.s)))))⟩,
          ⟨[4, 8], [], [], Fct.cond (decide ((ad x460 1) < (l1.length : Int))) (some 39) (Fct.val 39 (.agg #[.int .i64 x587.1, .int .i64 x587.2]))⟩,
          ⟨[4], [0], [], Fct.cond (decide ((ad x460 1) < (l1.length : Int))) (some 40) (Fct.val 40 (.slice Al1 l1.length cl1))⟩,
          ⟨[4], [7], [], Fct.cond (decide ((ad x460 1) < (l1.length : Int))) (some 41) (Fct.val 41 (.int .i64 (ad x460 1)))⟩,
          ⟨[4, 10, 11], [], [], Fct.cond (decide ((ad x460 1) < (l1.length : Int))) (some 42) (Fct.val 42 (.pointer (some ((adr Al1).add ((ad x460 1 : Int).toNat * R34.s)))))⟩,
          ⟨[4, 12], [], [], Fct.cond (decide ((ad x460 1) < (l1.length : Int))) (some 43) (Fct.val 43 (.agg #[.int .i64 x588.1, .int .i64 x588.2]))⟩,
          ⟨[4], [3], [], Fct.cond (decide ((ad x460 1) < (l1.length : Int))) (some 44) (Fct.val 44 (.agg #[.int .i64 b2.1.1, .int .i64 b2.1.2, .int .i64 b2.2.1, .int .i64 b2.2.2]))⟩,
          ⟨[4, 9, 13, 14], [], [], Fct.cond (decide ((ad x460 1) < (l1.length : Int))) (some 45) (Fct.val 45 (.bool r589))⟩,
          ⟨[4, 15], [], [], Fct.val 46 (.bool x590)⟩]) (by kernel_rfl) hz585 hd585 (fun _ h => nomatch h) ?_ ?_
      · refine steps_cons (fun own a wx hf hsl hE => ?_) ?_
        · obtain ⟨s_7, -⟩ := hsl
          exact sg_plain rfl rfl (or_move (s_7.trans e585_7))
        refine steps_cons (fun own a wx hf hsl hE => ?_) ?_
        · obtain ⟨s_0, -⟩ := hsl
          exact sg_plain rfl rfl (or_move (s_0.trans e585_0))
        refine steps_cons (fun own a wx hf hsl hE => ?_) ?_
        · obtain ⟨(f_31 : a.eval (.tmp 31) = .slice Al1 l1.length cl1), -⟩ := hf
          exact sg_plain rfl rfl (or_len tu24 f_31 rfl)
        refine steps_cons (fun own a wx hf hsl hE => ?_) ?_
        · obtain ⟨(f_30 : a.eval (.tmp 30) = .int .i64 (ad x460 1)), (f_32 : a.eval (.tmp 32) = .int .i64 (l1.length : Int)), -⟩ := hf
          exact sg_plain rfl rfl (or_lss f_30 f_32 rfl)
        refine steps_cons (fun own a wx hf hsl hE => ?_) ?_
        · obtain ⟨(f_33 : a.eval (.tmp 33) = .bool (decide ((ad x460 1) < (l1.length : Int)))), -⟩ := hf
          exact sg_plain rfl rfl (or_move f_33)
        refine steps_cons (fun own a wx hf hsl hE => ?_) ?_
        · obtain ⟨(f_34 : a.eval (.tmp 34) = .bool (decide ((ad x460 1) < (l1.length : Int)))), -⟩ := hf
          obtain ⟨s_0, -⟩ := hsl
          refine sg_t rfl rfl rfl f_34 (fun hg => ?_)
          exact or_move (s_0.trans e585_0)
        refine steps_cons (fun own a wx hf hsl hE => ?_) ?_
        · obtain ⟨(f_34 : a.eval (.tmp 34) = .bool (decide ((ad x460 1) < (l1.length : Int)))), -⟩ := hf
          obtain ⟨s_7, -⟩ := hsl
          refine sg_t rfl rfl rfl f_34 (fun hg => ?_)
          exact or_move (s_7.trans e585_7)
        refine steps_cons (fun own a wx hf hsl hE => ?_) ?_
        · obtain ⟨(f_34 : a.eval (.tmp 34) = .bool (decide ((ad x460 1) < (l1.length : Int)))), c_36, -⟩ := hf
          refine sg_t rfl rfl rfl f_34 (fun hg => ?_)
          have f_36 : a.eval (.tmp 36) = .int .i64 (ad x460 1) := c_36.1 hg
          exact or_sub f_36 rfl rfl
        refine steps_cons (fun own a wx hf hsl hE => ?_) ?_
        · obtain ⟨(f_34 : a.eval (.tmp 34) = .bool (decide ((ad x460 1) < (l1.length : Int)))), c_35, c_37, -⟩ := hf
          refine sg_t rfl rfl rfl f_34 (fun hg => ?_)
          have f_35 : a.eval (.tmp 35) = .slice Al1 l1.length cl1 := c_35.1 hg
          have f_37 : a.eval (.tmp 37) = .int .i64 (sb (ad x460 1) 1) := c_37.1 hg
          exact or_index (R := R34) (l := l1) tl24 f_35 f_37 (RdO.some_ b585_Al1 (gd_t hx587 hg)) (gd_t hx587 hg)
        refine steps_cons (fun own a wx hf hsl hE => ?_) ?_
        · obtain ⟨(f_34 : a.eval (.tmp 34) = .bool (decide ((ad x460 1) < (l1.length : Int)))), c_38, -⟩ := hf
          refine sg_t rfl rfl rfl f_34 (fun hg => ?_)
          have f_38 : a.eval (.tmp 38) = .pointer (some ((adr Al1).add ((sb (ad x460 1) 1 : Int).toNat * R34.s))) := c_38.1 hg
          exact or_load (l := E34.f x587) ta34 f_38 (RdO.cells (F := E34) (RdO.evo rfl hE b585_Al1) (gd_t hx587 hg)) rfl
        refine steps_cons (fun own a wx hf hsl hE => ?_) ?_
        · obtain ⟨(f_34 : a.eval (.tmp 34) = .bool (decide ((ad x460 1) < (l1.length : Int)))), -⟩ := hf
          obtain ⟨s_0, -⟩ := hsl
          refine sg_t rfl rfl rfl f_34 (fun hg => ?_)
          exact or_move (s_0.trans e585_0)
        refine steps_cons (fun own a wx hf hsl hE => ?_) ?_
        · obtain ⟨(f_34 : a.eval (.tmp 34) = .bool (decide ((ad x460 1) < (l1.length : Int)))), -⟩ := hf
          obtain ⟨s_7, -⟩ := hsl
          refine sg_t rfl rfl rfl f_34 (fun hg => ?_)
          exact or_move (s_7.trans e585_7)
        refine steps_cons (fun own a wx hf hsl hE => ?_) ?_
        · obtain ⟨(f_34 : a.eval (.tmp 34) = .bool (decide ((ad x460 1) < (l1.length : Int)))), c_40, c_41, -⟩ := hf
          refine sg_t rfl rfl rfl f_34 (fun hg => ?_)
          have f_40 : a.eval (.tmp 40) = .slice Al1 l1.length cl1 := c_40.1 hg
          have f_41 : a.eval (.tmp 41) = .int .i64 (ad x460 1) := c_41.1 hg
          exact or_index (R := R34) (l := l1) tl24 f_40 f_41 (RdO.some_ b585_Al1 (gd_t hx588 hg)) (gd_t hx588 hg)
        refine steps_cons (fun own a wx hf hsl hE => ?_) ?_
        · obtain ⟨(f_34 : a.eval (.tmp 34) = .bool (decide ((ad x460 1) < (l1.length : Int)))), c_42, -⟩ := hf
          refine sg_t rfl rfl rfl f_34 (fun hg => ?_)
          have f_42 : a.eval (.tmp 42) = .pointer (some ((adr Al1).add ((ad x460 1 : Int).toNat * R34.s))) := c_42.1 hg
          exact or_load (l := E34.f x588) ta34 f_42 (RdO.cells (F := E34) (RdO.evo rfl hE b585_Al1) (gd_t hx588 hg)) rfl
        refine steps_cons (fun own a wx hf hsl hE => ?_) ?_
        · obtain ⟨(f_34 : a.eval (.tmp 34) = .bool (decide ((ad x460 1) < (l1.length : Int)))), -⟩ := hf
          obtain ⟨s_3, -⟩ := hsl
          refine sg_t rfl rfl rfl f_34 (fun hg => ?_)
          exact or_load (l := [.int .i64 b2.1.1, .int .i64 b2.1.2, .int .i64 b2.2.1, .int .i64 b2.2.2]) ta36 (s_3.trans e585_3) (Blk.cellsFrom (BlkO.evo (by decide) hE b585_g332).2 0 rfl) rfl
        refine steps_cons (fun own a wx hf hsl hE => ?_) ?_
        · obtain ⟨(f_34 : a.eval (.tmp 34) = .bool (decide ((ad x460 1) < (l1.length : Int)))), c_39, c_43, c_44, -⟩ := hf
          refine sg_t rfl rfl rfl f_34 (fun hg => ?_)
          have f_39 : a.eval (.tmp 39) = .agg #[.int .i64 x587.1, .int .i64 x587.2] := c_39.1 hg
          have f_43 : a.eval (.tmp 43) = .agg #[.int .i64 x588.1, .int .i64 x588.2] := c_43.1 hg
          have f_44 : a.eval (.tmp 44) = .agg #[.int .i64 b2.1.1, .int .i64 b2.1.2, .int .i64 b2.2.1, .int .i64 b2.2.2] := c_44.1 hg
          exact or_call cf15 (args3 f_39 f_43 f_44) (lineclip_Shown_w _ x587 x588 b2  r589 (gd_t hr589 hg)) post_val
        refine steps_cons (fun own a wx hf hsl hE => ?_) ?_
        · obtain ⟨(f_34 : a.eval (.tmp 34) = .bool (decide ((ad x460 1) < (l1.length : Int)))), c_45, -⟩ := hf
          exact sg_plain rfl rfl (or_and f_34 (fun hx => c_45.1 hx) rfl (osome hx590).symm)
        exact steps_nil
      intro own591 a591 w591 hd591 hz591 hk591 hf591 hE591
      have e591_0 : a591.eval (.tmp 0) = .slice Al1 l1.length cl1 := (hk591 0 rfl).trans e585_0
      have e591_3 : a591.eval (.tmp 3) = .pointer (some ⟨g332, 0, none⟩) := (hk591 3 rfl).trans e585_3
      have e591_5 : a591.eval (.tmp 5) = .slice A454 out456.length c455 := (hk591 5 rfl).trans e585_5
      have e591_6 : a591.eval (.tmp 6) = .int .i64 x459 := (hk591 6 rfl).trans e585_6
      have e591_7 : a591.eval (.tmp 7) = .int .i64 (ad x460 1) := (hk591 7 rfl).trans e585_7
      obtain ⟨(f_46 : a591.eval (.tmp 46) = .bool x590), -⟩ := hf591 [16] rfl
      have e591_46 := f_46
      have hX591 := Evo.step hX585 (fun _ => Nat.le_refl 0) hE591 rfl
      have b591_Al1 := RdO.evo rfl hE591 b585_Al1
      have b591_g332 := BlkO.evo (by decide) hE591 b585_g332
      have b591_A454 := RwN.evo rfl hE591 b585_A454
      refine fl_cond e591_46 hs (fun c592 hs => ?_) (fun c592 hs => ?_)
      · refine fl_goto ?_
        refine hp586 _ _ _ rfl ?_
        exact hj582 (Sum.inr (out456, x459, ad x460 1)) _ _ hs ⟨own591, A454, c455, hd591, hz591, e591_0, e591_3, e591_5, e591_6, e591_7, hX591, b591_Al1, b591_g332, b591_A454⟩
      refine fl_skip ?_
      refine hn586 _ _ ?_
      obtain ⟨x601, hx601, hs⟩ := obind hs
      obtain ⟨x604, hx604, hs⟩ := obind hs
      obtain ⟨x609, hx609, hs⟩ := obind hs
      refine rg_plain_seq (n := 56) (rs := [Fct.rownAt 457 458 [] 24 34 R34 A454 c455 out456]) (own0 := own591) (K := [603, 457, 458, 605])
          (bs := [0, 0, 0, 0, 0, 30, 62, 126, 255, 511])
          (ds := [⟨[], [5], [], Fct.val 47 (.slice A454 out456.length c455)⟩,
          ⟨[], [0], [], Fct.val 48 (.slice Al1 l1.length cl1)⟩,
          ⟨[], [6], [], Fct.val 49 (.int .i64 x459)⟩,
          ⟨[], [7], [], Fct.val 50 (.int .i64 (ad x460 1))⟩,
          ⟨[], [7], [], Fct.val 51 (.int .i64 (ad x460 1))⟩,
          ⟨[1, 2, 3, 4], [], [], Fct.view [0] 52 R34 x601⟩,
          ⟨[5], [], [603], Fct.row 605 [] 53 34 R34 x604⟩,
          ⟨[6], [], [], Fct.rown 608 605 [] 54 24 34 R34 [x604]⟩,
          ⟨[0, 7, 10], [], [457, 458, 605], Fct.rown 610 611 [] 55 24 34 R34 x609⟩,
          ⟨[8], [], [], Fct.rel [5, 55] (fun l => ∀ (A612 : Option Addr) (cA612 : Nat), l.getD 1 undef = .slice A612 x609.length cA612 → l.getD 0 undef = .slice A612 x609.length cA612)⟩]) (by kernel_rfl) hz591 hd591 (by simp only [List.forall_mem_cons]; exact ⟨b591_A454, fun _ h => nomatch h⟩) ?_ ?_
      · refine steps_cons (fun own a wx hf hsl hE => ?_) ?_
        · obtain ⟨s_5, -⟩ := hsl
          exact sg_plain rfl rfl (or_move (s_5.trans e591_5))
        refine steps_cons (fun own a wx hf hsl hE => ?_) ?_
        · obtain ⟨s_0, -⟩ := hsl
          exact sg_plain rfl rfl (or_move (s_0.trans e591_0))
        refine steps_cons (fun own a wx hf hsl hE => ?_) ?_
        · obtain ⟨s_6, -⟩ := hsl
          exact sg_plain rfl rfl (or_move (s_6.trans e591_6))
        refine steps_cons (fun own a wx hf hsl hE => ?_) ?_
        · obtain ⟨s_7, -⟩ := hsl
          exact sg_plain rfl rfl (or_move (s_7.trans e591_7))
        refine steps_cons (fun own a wx hf hsl hE => ?_) ?_
        · obtain ⟨s_7, -⟩ := hsl
          exact sg_plain rfl rfl (or_move (s_7.trans e591_7))
        refine steps_cons (fun own a wx hf hsl hE => ?_) ?_
        · obtain ⟨(f_48 : a.eval (.tmp 48) = .slice Al1 l1.length cl1), (f_49 : a.eval (.tmp 49) = .int .i64 x459), (f_50 : a.eval (.tmp 50) = .int .i64 (ad x460 1)), (f_51 : a.eval (.tmp 51) = .int .i64 (ad x460 1)), -⟩ := hf
          exact sg_plain rfl rfl (or_view (R := R34) (l := l1) (L := [0]) tu24 ts34 f_48 (Bnd.some_ f_49) (Bnd.some_ f_50) (Bnd.some_ f_51) (RdO.evo rfl hE b591_Al1) hx601 (.inr rfl) (by simp))
        refine steps_cons (fun own a wx hf hsl hE => ?_) ?_
        · obtain ⟨⟨⟨A602, cA602⟩, (f_52 : a.eval (.tmp 52) = .slice A602 x601.length cA602), (b_A602 : RdO own [0] wx R34 A602 cA602 x601)⟩, -⟩ := hf
          exact sg_plain rfl rfl (or_append (R := R34) (lab := 603) (lab2 := 605) (L := []) (L3 := []) tp24 rfl RwO.nil_ (by decide) f_52 b_A602 hx604 (by decide) (by decide) (mem_of rfl) (.inl (Rep.fl_flat _)))
        refine steps_cons (fun own a wx hf hsl hE => ?_) ?_
        · obtain ⟨⟨⟨A606, cA606⟩, (f_53 : a.eval (.tmp 53) = .slice A606 x604.length cA606), (b_A606 : RwO own 605 [] wx 34 R34 A606 cA606 x604)⟩, -⟩ := hf
          exact sg_plain rfl rfl (or_litO (R := R34) (lab := 608) (labE := 605) (L := []) (e := 24) (e2 := 34) (xl := x604) [(53, .slice A606 x604.length cA606)] rfl rfl ⟨f_53, trivial⟩ (by kernel_rfl) rfl b_A606 rfl)
        refine steps_cons (fun own a wx hf hsl hE => ?_) ?_
        · obtain ⟨(f_47 : a.eval (.tmp 47) = .slice A454 out456.length c455), ⟨⟨A607, cA607⟩, (f_54 : a.eval (.tmp 54) = .slice A607 [x604].length cA607), (b_A607 : RwN own 608 605 [] wx 24 34 R34 A607 cA607 [x604])⟩, (b_A454 : RwN own 457 458 [] wx 24 34 R34 A454 c455 out456), -⟩ := hf
          exact sg_plain rfl rfl (or_appendO (R := R34) (lab := 457) (labE := 458) (lab2 := 610) (lab3 := 611) (L := []) (L3 := []) tp22 f_47 b_A454 f_54 b_A607 hx609 (by decide) (by decide) (mem_of rfl) (mem_of rfl) (mem_of rfl) (by decide) (by decide) (by decide) (by decide) (by decide) (by decide) (by decide) rfl (by decide) (by decide))
        refine steps_cons (fun own a wx hf hsl hE => ?_) ?_
        · obtain ⟨⟨⟨A612, cA612⟩, (f_55 : a.eval (.tmp 55) = .slice A612 x609.length cA612), (b_A612 : RwN own 610 611 [] wx 24 34 R34 A612 cA612 x609)⟩, -⟩ := hf
          exact sg_plain rfl rfl (or_mono (f := Fct.val 5 (.slice A612 x609.length cA612)) (or_assign f_55) (fun own' a' w' v' hp h => fun _ _ h0' => by cases (f_55.symm.trans ((hp.2 55 (by decide)).symm.trans h0')); exact h))
        exact steps_nil
      intro own613 a613 w613 hd613 hz613 hk613 hf613 hE613
      have e613_0 : a613.eval (.tmp 0) = .slice Al1 l1.length cl1 := (hk613 0 rfl).trans e591_0
      have e613_3 : a613.eval (.tmp 3) = .pointer (some ⟨g332, 0, none⟩) := (hk613 3 rfl).trans e591_3
      have e613_7 : a613.eval (.tmp 7) = .int .i64 (ad x460 1) := (hk613 7 rfl).trans e591_7
      obtain ⟨⟨⟨A612, cA612⟩, (f_55 : a613.eval (.tmp 55) = .slice A612 x609.length cA612), (b_A612 : RwN own613 610 611 [] w613 24 34 R34 A612 cA612 x609)⟩, (q_5 : ∀ (A612 : Option Addr) (cA612 : Nat), a613.eval (.tmp 55) = .slice A612 x609.length cA612 → a613.eval (.tmp 5) = .slice A612 x609.length cA612), -⟩ := hf613 [8, 9] rfl
      have f_5 := q_5 _ _ f_55
      have e613_5 := f_5
      have hX613 := Evo.step hX591 (fun _ => Nat.le_refl 0) hE613 rfl
      have b613_Al1 := RdO.evo rfl hE613 b591_Al1
      have b613_g332 := BlkO.evo (by decide) hE613 b591_g332
      have b613_A612 := b_A612
      refine fl_goto ?_
      exact hj582 (Sum.inl (x609, ad x460 1)) _ _ hs ⟨(rl [(610, 451), (611, 452)] own613), A612, cA612, hd613, hz613, e613_0, e613_3, e613_5, e613_7, (Evo.rl_ hX613 (fun _ => Nat.le_refl 0) rfl), (RdO.rl_ (mm := [(610, 451), (611, 452)]) b613_Al1), (BlkO.rl_ (mm := [(610, 451), (611, 452)]) b613_g332), (RwN.rl_ (mm := [(610, 451), (611, 452)]) b613_A612)⟩

end Go.Proofs.Ythjcpojcpafbjaa
