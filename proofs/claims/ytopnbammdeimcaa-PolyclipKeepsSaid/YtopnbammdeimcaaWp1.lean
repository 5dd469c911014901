import Derived.Test.YtopnbammdeimcaaBase
import Derived.Test.YtopnbammdeimcaaTy
import Derived.Test.YtopnbammdeimcaaSp1
namespace Go.Proofs.Ytopnbammdeimcaa
open Go.RowKit
set_option linter.unusedVariables false
set_option maxRecDepth 10000
theorem law03_Cut_w (w : World) (own : Own) (l1 : List (Int × Int)) (Al1 : Option Addr) (cl1 : Nat) (hown : ∀ b, own b ≤ 1) (hl1 : RdO own [1] w R25 Al1 cl1 l1) (r : List (Int × Int)) (hs : law03_Cut l1 = some r) :
    Calls Try.prog 6 #[.slice Al1 l1.length cl1] w fun e w' => ∃ (own' : Own) (x : Option Addr × Nat), e = .returned (.slice x.1 r.length x.2) ∧ Evo [] own own' w w' ∧ RdO own' [1, 2] w' R25 x.1 x.2 r := by
  refine fl_enter (n := 8) rfl rfl rfl (Nat.le_of_ble_eq_true rfl) ?_
  intro a0 Q hd0 hz0 harg hret
  have ha0 := harg 0 _ rfl
  clear harg
  have hE0 : Evo [] own own w w := Evo.refl _ _ _
  refine rg0_seq 8 own (bz 1) [⟨[], [], [], Fct.val 2 (.slice none 0 0)⟩] hz0 hd0 (by kernel_rfl) ?_ ?_
  · refine sc (fun _ _ _ _ _ _ => px (or_assign rfl)) ?_
    exact steps_nil
  intro own16 a16 w16 hd16 hz16 hk16 hf16 hE16
  have e16_0 := (hk16 0 rfl).trans ha0
  have hX16 := Evo.step hE0 hown hE16 rfl
  have b16_Al1 := RdO.evo rfl hE16 hl1
  obtain ⟨x17, hx17, hs⟩ := obind hs
  refine rg0_seq 8 own16 [0, 0, 2, 6, 15, 31] [⟨[], [0], [], Fct.val 3 (.slice Al1 l1.length cl1)⟩, ⟨[], [0], [], Fct.val 4 (.slice Al1 l1.length cl1)⟩, ⟨[1], [], [], Fct.val 5 (.int .i64 (l1.length : Int))⟩, ⟨[2], [], [], Fct.val 6 (.int .i64 (mn (l1.length : Int) 40))⟩, ⟨[0, 3], [], [], Fct.view [1] 7 R25 x17⟩, ⟨[4], [], [], Fct.rel [2, 7] (fun l => ∀ (A18 : Option Addr) (cA18 : Nat), l.getD 1 undef = .slice A18 x17.length cA18 → l.getD 0 undef = .slice A18 x17.length cA18)⟩] hz16 hd16 (by kernel_rfl) ?_ ?_
  · refine sc (fun _ _ _ _ s _ => px (or_move (s.1.trans e16_0))) ?_
    refine sc (fun _ _ _ _ s _ => px (or_move (s.1.trans e16_0))) ?_
    refine sc (fun _ _ _ f _ _ => px (or_len tu22 f.1 rfl)) ?_
    refine sc (fun _ _ _ f _ _ => px (or_min f.1 rfl)) ?_
    refine sc (fun _ _ _ f _ hE => px (or_view (R := R25) (l := l1) (L := [1]) tu22 ts25 f.1 Bnd.none_ (Bnd.some_ f.2.1) Bnd.none_ (RdO.evo rfl hE b16_Al1) hx17 (.inl rfl) (by simp))) ?_
    refine sc (fun own a wx hf hsl hE => ?_) ?_
    · obtain ⟨⟨⟨A18, cA18⟩, (f_7 : a.eval (.tmp 7) = .slice A18 x17.length cA18), b_A18⟩, -⟩ := hf
      exact px (or_mono (f := Fct.val 2 (.slice A18 x17.length cA18)) (or_assign f_7) (fun own' a' w' v' hp h => fun _ _ h0' => by cases (f_7.symm.trans ((hp.2 7 (by decide)).symm.trans h0')); exact h))
    exact steps_nil
  intro own19 a19 w19 hd19 hz19 hk19 hf19 hE19
  obtain ⟨⟨⟨A18, cA18⟩, (f_7 : a19.eval (.tmp 7) = .slice A18 x17.length cA18), (b19_A18 : RdO own19 [1] w19 R25 A18 cA18 x17)⟩, (q_2 : ∀ (A18 : Option Addr) (cA18 : Nat), a19.eval (.tmp 7) = .slice A18 x17.length cA18 → a19.eval (.tmp 2) = .slice A18 x17.length cA18), -⟩ := hf19 [4, 5] rfl
  have e19_2 := q_2 _ _ f_7
  have hX19 := Evo.step hX16 hown hE19 rfl
  refine fl_ret ?_
  obtain rfl := (osome hs).symm
  exact hret _ _ _ _ (.inl rfl) hd19 (results1_ rfl (RVal.tmp_ e19_2)) ⟨own19, (A18, cA18), rfl, hX19, (RdO.more b19_A18 (by decide))⟩
theorem exact_within_w (w : World) (n1 : Int) (least2 : Int) (greatest3 : Int) (r : Bool) (hs : exact_within n1 least2 greatest3 = some r) :
    Calls Try.prog 38 #[.int .i64 n1, .int .i64 least2, .int .i64 greatest3] w fun e w' => ∃ own' : Own, e = .returned (.bool r) ∧ Evo [] (fun _ => 0) own' w w' := by
  refine fl_enter (n := 15) rfl rfl rfl (Nat.le_of_ble_eq_true rfl) ?_
  intro a0 Q hd0 hz0 harg hret
  have ha0 := harg 0 _ rfl
  have ha1 := harg 1 _ rfl
  have ha2 := harg 2 _ rfl
  clear harg
  have hE0 : Evo [] (fun _ => 0) (fun _ => 0) w w := Evo.refl _ _ _
  refine rg0_seq 15 (fun _ => 0) (bz 1) [⟨[], [], [], Fct.val 6 (.bool false)⟩] hz0 hd0 (by kernel_rfl) ?_ ?_
  · refine sc (fun _ _ _ _ _ _ => px (or_assign rfl)) ?_
    exact steps_nil
  intro own14 a14 w14 hd14 hz14 hk14 hf14 hE14
  have e14_0 := (hk14 0 rfl).trans ha0
  have e14_1 := (hk14 1 rfl).trans ha1
  have e14_2 := (hk14 2 rfl).trans ha2
  have hX14 := es_ hE0 hE14
  obtain ⟨x15, hx15, hs⟩ := obind hs
  refine rg0_seq 15 own14 [0, 0, 3, 7, 15, 15, 63, 127, 255] [⟨[], [1], [], Fct.val 7 (.int .i64 least2)⟩, ⟨[], [0], [], Fct.val 8 (.int .i64 n1)⟩, ⟨[0, 1], [], [], Fct.val 9 (.bool (decide (least2 ≤ n1)))⟩, ⟨[2], [], [], Fct.val 10 (.bool (decide (least2 ≤ n1)))⟩, ⟨[3], [0], [], Fct.cond (decide (least2 ≤ n1)) (some 11) (Fct.val 11 (.int .i64 n1))⟩, ⟨[3], [2], [], Fct.cond (decide (least2 ≤ n1)) (some 12) (Fct.val 12 (.int .i64 greatest3))⟩, ⟨[3, 4, 5], [], [], Fct.cond (decide (least2 ≤ n1)) (some 13) (Fct.val 13 (.bool (decide (n1 ≤ greatest3))))⟩, ⟨[3, 6], [], [], Fct.val 14 (.bool x15)⟩, ⟨[7], [], [], Fct.val 6 (.bool x15)⟩] hz14 hd14 (by kernel_rfl) ?_ ?_
  · refine sc (fun _ _ _ _ s _ => px (or_move (s.1.trans e14_1))) ?_
    refine sc (fun _ _ _ _ s _ => px (or_move (s.1.trans e14_0))) ?_
    refine sc (fun _ _ _ f _ _ => px (or_leq f.1 f.2.1 rfl)) ?_
    refine sc (fun _ _ _ f _ _ => px (or_move f.1)) ?_
    refine sc (fun _ _ _ f s _ => sg_t rfl rfl rfl f.1 (fun hg => or_move (s.1.trans e14_0))) ?_
    refine sc (fun _ _ _ f s _ => sg_t rfl rfl rfl f.1 (fun hg => or_move (s.1.trans e14_2))) ?_
    refine sc (fun _ _ _ f _ _ => sg_t rfl rfl rfl f.1 (fun hg => or_leq (f.2.1.1 hg) (f.2.2.1.1 hg) rfl)) ?_
    refine sc (fun _ _ _ f _ _ => px (or_and f.1 (fun hx => f.2.1.1 hx) rfl (osome hx15).symm)) ?_
    refine sc (fun _ _ _ f _ _ => px (or_assign f.1)) ?_
    exact steps_nil
  intro own16 a16 w16 hd16 hz16 hk16 hf16 hE16
  obtain ⟨(e16_6 : a16.eval (.tmp 6) = .bool x15), -⟩ := hf16 [8] rfl
  have hX16 := es_ hX14 hE16
  refine fl_ret ?_
  obtain rfl := (osome hs).symm
  exact hret _ _ _ _ (.inl rfl) hd16 (results1_ rfl (RVal.tmp_ e16_6)) ⟨own16, rfl, hX16⟩
theorem exact_Right_w (w : World) (l1 : List (Int × Int)) (Al1 : Option Addr) (cl1 : Nat) (hl1 : RdO (fun _ => 0) [0] w R25 Al1 cl1 l1) (r : Bool) (hs : exact_Right l1 = some r) :
    Calls Try.prog 24 #[.slice Al1 l1.length cl1] w fun e w' => ∃ own' : Own, e = .returned (.bool r) ∧ Evo [] (fun _ => 0) own' w w' := by
  refine fl_enter (n := 22) rfl rfl rfl (Nat.le_of_ble_eq_true rfl) ?_
  intro a0 Q hd0 hz0 harg hret
  have ha0 := harg 0 _ rfl
  clear harg
  have hE0 : Evo [] (fun _ => 0) (fun _ => 0) w w := Evo.refl _ _ _
  refine rg0_seq 22 (fun _ => 0) (bz 1) [⟨[], [], [], Fct.val 2 (.bool false)⟩] hz0 hd0 (by kernel_rfl) ?_ ?_
  · refine sc (fun _ _ _ _ _ _ => px (or_assign rfl)) ?_
    exact steps_nil
  intro own69 a69 w69 hd69 hz69 hk69 hf69 hE69
  have e69_0 := (hk69 0 rfl).trans ha0
  have hX69 := es_ hE0 hE69
  have b69_Al1 := RdO.evo rfl hE69 hl1
  refine fl_seq (fun Q70 hn70 hp70 => ?_)
  refine rg0_seq 22 own69 [0, 1, 0] [⟨[], [0], [], Fct.val 5 (.slice Al1 l1.length cl1)⟩, ⟨[0], [], [], Fct.val 6 (.int .i64 (l1.length : Int))⟩, ⟨[], [], [], Fct.val 7 (.int .i64 0)⟩] hz69 hd69 (by kernel_rfl) ?_ ?_
  · refine sc (fun _ _ _ _ s _ => px (or_move (s.1.trans e69_0))) ?_
    refine sc (fun _ _ _ f _ _ => px (or_len tu22 f.1 rfl)) ?_
    refine sc (fun _ _ _ _ _ _ => px (or_move rfl)) ?_
    exact steps_nil
  intro own71 a71 w71 hd71 hz71 hk71 hf71 hE71
  obtain ⟨(e71_5 : a71.eval (.tmp 5) = .slice Al1 l1.length cl1), (e71_6 : a71.eval (.tmp 6) = .int .i64 (l1.length : Int)), (e71_7 : a71.eval (.tmp 7) = .int .i64 0), -⟩ := hf71 [0, 1, 2] rfl
  have hX71 := es_ hX69 hE71
  have b71_Al1 := RdO.evo rfl hE71 b69_Al1
  refine fl_block (fun Q72 hn72 hx72 hp72 => ?_)
  refine fl_loop (body := (fun s => exact_Right_b1 l1 s)) (z := r) (show loopO _ _ = _ from hs) (fun (x90 : Int) a wx => ∃ (ox : Own), a.defers = [] ∧ a.tmps.size = 22 ∧ a.eval (.tmp 5) = .slice Al1 l1.length cl1 ∧ a.eval (.tmp 6) = .int .i64 (l1.length : Int) ∧ a.eval (.tmp 7) = .int .i64 x90 ∧ Evo [] (fun _ => 0) ox w wx ∧ RdO ox [0] wx R25 Al1 cl1 l1) ?_ ?_
  · exact ⟨own71, hd71, hz71, e71_5, e71_6, e71_7, hX71, b71_Al1⟩
  · rintro x90 zz108 a108 w108 ⟨own108, hd109, hz109, e109_5, e109_6, e109_7, hE109, b109_Al1⟩ hs Q108 hn108 hp108 hz108
    have hs : exact_Right_b1 l1 x90 = some zz108 := hs
    refine rg0_seq 22 own108 (bz 1) [⟨[], [7, 6], [], Fct.val 8 (.bool (decide (x90 < (l1.length : Int))))⟩] hz109 hd109 (by kernel_rfl) ?_ ?_
    · refine sc (fun _ _ _ _ s _ => px (or_lss (s.1.trans e109_7) (s.2.1.trans e109_6) rfl)) ?_
      exact steps_nil
    intro own110 a110 w110 hd110 hz110 hk110 hf110 hE110
    have e110_5 := (hk110 5 rfl).trans e109_5
    have e110_6 := (hk110 6 rfl).trans e109_6
    have e110_7 := (hk110 7 rfl).trans e109_7
    obtain ⟨(e110_8 : a110.eval (.tmp 8) = .bool (decide (x90 < (l1.length : Int)))), -⟩ := hf110 [0] rfl
    have hX110 := es_ hE109 hE110
    have b110_Al1 := RdO.evo rfl hE110 b109_Al1
    refine fl_seq (fun Q111 hn111 hp111 => ?_)
    refine fl_cond e110_8 hs (fun c112 hs => ?_) (fun c112 hs => ?_)
    · refine fl_skip ?_
      refine hn111 _ _ ?_
      refine fl_seq (fun Q113 hn113 hp113 => ?_)
      refine fl_block (fun Q114 hn114 hx114 hp114 => ?_)
      obtain ⟨x115, hx115, hs⟩ := obind hs
      refine rg_plain_seq (n := 22) (rs := []) (own0 := own110) (K := [117]) (bs := [0, 1, 0, 7]) (ds := [⟨[], [5, 7], [], Fct.val 9 (.pointer (some ((adr Al1).add ((x90 : Int).toNat * R25.s))))⟩, ⟨[0], [], [], Fct.val 10 (.agg #[.int .i64 x115.1, .int .i64 x115.2])⟩, ⟨[], [], [], Fct.blk 117 4 (fun g => .pointer (some ⟨g, 0, none⟩)) 25 #[.int .i64 0, .int .i64 0]⟩, ⟨[2, 1], [], [117], Fct.blk 118 4 (fun g => .pointer (some ⟨g, 0, none⟩)) 25 #[.int .i64 x115.1, .int .i64 x115.2]⟩]) (by kernel_rfl) hz110 hd110 nm_ ?_ ?_
      · refine sc (fun _ _ _ _ s _ => px (or_index (R := R25) (l := l1) tl22 (s.1.trans e110_5) (s.2.1.trans e110_7) (RdO.some_ b110_Al1 hx115) hx115)) ?_
        refine sc (fun _ _ _ f _ hE => px (or_load (l := E25.f x115) ta25 f.1 (RdO.cells (F := E25) (RdO.evo rfl hE b110_Al1) hx115) rfl)) ?_
        refine sc (fun _ _ _ _ _ _ => px (or_new [] rfl rfl trivial (by kernel_rfl))) ?_
        refine sc (fun own a wx hf hsl hE => ?_) ?_
        · obtain ⟨⟨g116, f_4, b_g116⟩, f_10, -⟩ := hf
          exact px (or_store (l := #[.int .i64 x115.1, .int .i64 x115.2]) (lab := 117) (lab2 := 118) ts25 f_4 f_10 b_g116 (by simp) (by kernel_rfl) (mem_of rfl) (by decide) (by kernel_rfl) (fun own' a' w' ha hb => ⟨_, (ha 4).trans f_4, hb⟩))
        exact steps_nil
      intro own119 a119 w119 hd119 hz119 hk119 hf119 hE119
      have e119_5 := (hk119 5 rfl).trans e110_5
      have e119_6 := (hk119 6 rfl).trans e110_6
      have e119_7 := (hk119 7 rfl).trans e110_7
      obtain ⟨⟨g116, (e119_4 : a119.eval (.tmp 4) = .pointer (some ⟨g116, 0, none⟩)), (b119_g116 : BlkO own119 118 w119 g116 25 #[.int .i64 x115.1, .int .i64 x115.2])⟩, -⟩ := hf119 [3] rfl
      have hX119 := es_ hX110 hE119
      have b119_Al1 := RdO.evo rfl hE119 b110_Al1
      obtain ⟨r120, hr120, hs⟩ := obind hs
      obtain ⟨r121, hr121, hs⟩ := obind hs
      refine rg0_seq 22 own119 (bz 10) [⟨[], [4], [], Fct.val 11 (.pointer (some ⟨g116, 0, none⟩))⟩, ⟨[0], [], [], Fct.val 12 (.int .i64 x115.1)⟩, ⟨[1], [], [], Fct.val 13 (.bool r120)⟩, ⟨[2], [], [], Fct.val 14 (.bool (!r120))⟩, ⟨[3], [], [], Fct.val 15 (.bool (!r120))⟩, ⟨[4], [4], [], Fct.cond (!(!r120)) (some 16) (Fct.val 16 (.pointer (some ⟨g116, 1, none⟩)))⟩, ⟨[4, 5], [], [], Fct.cond (!(!r120)) (some 17) (Fct.val 17 (.int .i64 x115.2))⟩, ⟨[4, 6], [], [], Fct.cond (!(!r120)) (some 18) (Fct.val 18 (.bool r121))⟩, ⟨[4, 7], [], [], Fct.cond (!(!r120)) (some 19) (Fct.val 19 (.bool (!r121)))⟩, ⟨[4, 8], [], [], Fct.val 20 (.bool ((!r120) || (!r121)))⟩] hz119 hd119 (by kernel_rfl) ?_ ?_
      · refine sc (fun _ _ _ _ s _ => px (or_field fo25_0 (s.1.trans e119_4) (by rfl))) ?_
        refine sc (fun _ _ _ f _ hE => px (or_load1 to3 f.1 (Blk.at_ (be_ hE b119_g116).2 0 rfl))) ?_
        refine sc (fun _ _ _ f _ _ => px (or_call cf38 (args3 f.1 rfl rfl) (exact_within_w _ x115.1 (-16777216) 16777216  r120 hr120) post_val)) ?_
        refine sc (fun _ _ _ f _ _ => px (or_not f.1 rfl)) ?_
        refine sc (fun _ _ _ f _ _ => px (or_move f.1)) ?_
        refine sc (fun _ _ _ f s _ => sg_f rfl rfl rfl f.1 (fun hg => or_field fo25_1 (s.1.trans e119_4) (by rfl))) ?_
        refine sc (fun _ _ _ f _ hE => sg_f rfl rfl rfl f.1 (fun hg => or_load1 to3 (f.2.1.1 hg) (Blk.at_ (be_ hE b119_g116).2 1 rfl))) ?_
        refine sc (fun _ _ _ f _ _ => sg_f rfl rfl rfl f.1 (fun hg => or_call cf38 (args3 (f.2.1.1 hg) rfl rfl) (exact_within_w _ x115.2 (-16777216) 16777216  r121 (gd_t hr121 hg)) post_val)) ?_
        refine sc (fun _ _ _ f _ _ => sg_f rfl rfl rfl f.1 (fun hg => or_not (f.2.1.1 hg) rfl)) ?_
        refine sc (fun _ _ _ f _ _ => px (or_or f.1 rfl (fun hx => f.2.1.1 hx) rfl)) ?_
        exact steps_nil
      intro own122 a122 w122 hd122 hz122 hk122 hf122 hE122
      have e122_5 := (hk122 5 rfl).trans e119_5
      have e122_6 := (hk122 6 rfl).trans e119_6
      have e122_7 := (hk122 7 rfl).trans e119_7
      obtain ⟨(e122_20 : a122.eval (.tmp 20) = .bool ((!r120) || (!r121))), -⟩ := hf122 [9] rfl
      have hX122 := es_ hX119 hE122
      have b122_Al1 := RdO.evo rfl hE122 b119_Al1
      refine fl_cond e122_20 hs (fun c123 hs => ?_) (fun c123 hs => ?_)
      · refine rg0_seq 22 own122 (bz 1) [⟨[], [], [], Fct.val 2 (.bool false)⟩] hz122 hd122 (by kernel_rfl) ?_ ?_
        · refine sc (fun _ _ _ _ _ _ => px (or_assign rfl)) ?_
          exact steps_nil
        intro own124 a124 w124 hd124 hz124 hk124 hf124 hE124
        obtain ⟨(e124_2 : a124.eval (.tmp 2) = .bool false), -⟩ := hf124 [0] rfl
        have hX124 := es_ hX122 hE124
        refine fl_ret ?_
        refine hp114 _ _ _ rfl ?_
        refine hp113 _ _ _ rfl ?_
        replace hs := hz108 _ hs
        refine hp108 _ _ _ rfl ?_
        refine hp72 _ _ _ rfl ?_
        refine hp70 _ _ _ rfl ?_
        obtain rfl := osome hs
        exact hret _ _ _ _ (.inl rfl) hd124 (results1_ rfl (RVal.tmp_ e124_2)) ⟨own124, rfl, hX124⟩
      refine fl_skip ?_
      refine hn114 _ _ ?_
      refine hn113 _ _ ?_
      refine rg0 22 own122 (bz 2) [⟨[], [7], [], Fct.val 21 (.int .i64 (ad x90 1))⟩, ⟨[0], [], [], Fct.val 7 (.int .i64 (ad x90 1))⟩] hz122 hd122 (by kernel_rfl) ?_ ?_
      · refine sc (fun _ _ _ _ s _ => px (or_add (s.1.trans e122_7) rfl rfl)) ?_
        refine sc (fun _ _ _ f _ _ => px (or_move f.1)) ?_
        exact steps_nil
      intro own125 a125 w125 hd125 hz125 hk125 hf125 hE125
      have e125_5 := (hk125 5 rfl).trans e122_5
      have e125_6 := (hk125 6 rfl).trans e122_6
      obtain ⟨(e125_7 : a125.eval (.tmp 7) = .int .i64 (ad x90 1)), -⟩ := hf125 [1] rfl
      have hX125 := es_ hX122 hE125
      have b125_Al1 := RdO.evo rfl hE125 b122_Al1
      exact hn108 _ _ _ hs ⟨own125, hd125, hz125, e125_5, e125_6, e125_7, hX125, b125_Al1⟩
    refine fl_exit ?_
    refine hp111 _ _ _ rfl ?_
    replace hs := hz108 _ hs
    refine hp108 _ _ _ rfl ?_
    refine hx72 _ _ ?_
    refine hn70 _ _ ?_
    refine rg0_seq 22 own110 (bz 1) [⟨[], [], [], Fct.val 2 (.bool true)⟩] hz110 hd110 (by kernel_rfl) ?_ ?_
    · refine sc (fun _ _ _ _ _ _ => px (or_assign rfl)) ?_
      exact steps_nil
    intro own126 a126 w126 hd126 hz126 hk126 hf126 hE126
    obtain ⟨(e126_2 : a126.eval (.tmp 2) = .bool true), -⟩ := hf126 [0] rfl
    have hX126 := es_ hX110 hE126
    refine fl_ret ?_
    obtain rfl := osome hs
    exact hret _ _ _ _ (.inl rfl) hd126 (results1_ rfl (RVal.tmp_ e126_2)) ⟨own126, rfl, hX126⟩
theorem exact_Floor_w (w : World) (n1 : Int) (d2 : Int) (r : Int × Bool) (hs : exact_Floor n1 d2 = some r) :
    Calls Try.prog 45 #[.int .i64 n1, .int .i64 d2] w fun e w' => ∃ own' : Own, e = .returned (.tuple #[.int .i64 r.1, .bool r.2]) ∧ Evo [] (fun _ => 0) own' w w' := by
  refine fl_enter (n := 25) rfl rfl rfl (Nat.le_of_ble_eq_true rfl) ?_
  intro a0 Q hd0 hz0 harg hret
  have ha0 := harg 0 _ rfl
  have ha1 := harg 1 _ rfl
  clear harg
  have hE0 : Evo [] (fun _ => 0) (fun _ => 0) w w := Evo.refl _ _ _
  refine rg0_seq 25 (fun _ => 0) (bz 2) [⟨[], [], [], Fct.val 4 (.int .i64 0)⟩, ⟨[], [], [], Fct.val 5 (.bool false)⟩] hz0 hd0 (by kernel_rfl) ?_ ?_
  · refine sc (fun _ _ _ _ _ _ => px (or_assign rfl)) ?_
    refine sc (fun _ _ _ _ _ _ => px (or_assign rfl)) ?_
    exact steps_nil
  intro own49 a49 w49 hd49 hz49 hk49 hf49 hE49
  have e49_0 := (hk49 0 rfl).trans ha0
  have e49_1 := (hk49 1 rfl).trans ha1
  have hX49 := es_ hE0 hE49
  refine fl_fwd (l := 0) rfl ?_
  intro Q50 hj50 hp50
  have K67 : ∀ (a67 : Act) (w67 : World) (own67 : Own) (q66 : Int), a67.defers = [] → a67.tmps.size = 25 → a67.eval (.tmp 6) = .int .i64 q66 → Evo [] (fun _ => 0) own67 w w67 → exact_Floor_k1 q66 = some r → Q50 (.goto 0) a67 w67 := by
    intro a67 w67 own67 q66 hd68 hz68 e68_6 hE68 hs
    refine hj50 _ _ (fun Q69 hp69 => ?_)
    refine fl_seq (fun Q70 hn70 hp70 => ?_)
    refine fl_skip ?_
    refine hn70 _ _ ?_
    refine rg0_seq 25 own67 (bz 3) [⟨[], [6], [], Fct.val 24 (.int .i64 q66)⟩, ⟨[0], [], [], Fct.val 4 (.int .i64 q66)⟩, ⟨[], [], [], Fct.val 5 (.bool true)⟩] hz68 hd68 (by kernel_rfl) ?_ ?_
    · refine sc (fun _ _ _ _ s _ => px (or_move (s.1.trans e68_6))) ?_
      refine sc (fun _ _ _ f _ _ => px (or_assign f.1)) ?_
      refine sc (fun _ _ _ _ _ _ => px (or_assign rfl)) ?_
      exact steps_nil
    intro own71 a71 w71 hd71 hz71 hk71 hf71 hE71
    obtain ⟨(e71_4 : a71.eval (.tmp 4) = .int .i64 q66), (e71_5 : a71.eval (.tmp 5) = .bool true), -⟩ := hf71 [1, 2] rfl
    have hX71 := es_ hE68 hE71
    refine fl_ret ?_
    refine hp69.leaves _ _ _ rfl ?_
    obtain rfl := osome hs
    exact hret _ _ _ _ (.inl rfl) hd71 (results2_ rfl (RVal.tmp_ e71_4) (RVal.tmp_ e71_5)) ⟨own71, rfl, hX71⟩
  refine fl_seq (fun Q72 hn72 hp72 => ?_)
  obtain ⟨r73, hr73, hs⟩ := obind hs
  obtain ⟨r74, hr74, hs⟩ := obind hs
  refine rg0_seq 25 own49 (bz 8) [⟨[], [1], [], Fct.val 7 (.int .i64 d2)⟩, ⟨[0], [], [], Fct.val 8 (.bool r73)⟩, ⟨[1], [], [], Fct.val 9 (.bool (!r73))⟩, ⟨[2], [], [], Fct.val 10 (.bool (!r73))⟩, ⟨[3], [0], [], Fct.cond (!(!r73)) (some 11) (Fct.val 11 (.int .i64 n1))⟩, ⟨[3, 4], [], [], Fct.cond (!(!r73)) (some 12) (Fct.val 12 (.bool r74))⟩, ⟨[3, 5], [], [], Fct.cond (!(!r73)) (some 13) (Fct.val 13 (.bool (!r74)))⟩, ⟨[3, 6], [], [], Fct.val 14 (.bool ((!r73) || (!r74)))⟩] hz49 hd49 (by kernel_rfl) ?_ ?_
  · refine sc (fun _ _ _ _ s _ => px (or_move (s.1.trans e49_1))) ?_
    refine sc (fun _ _ _ f _ _ => px (or_call cf38 (args3 f.1 rfl rfl) (exact_within_w _ d2 1 1152921504606846976  r73 hr73) post_val)) ?_
    refine sc (fun _ _ _ f _ _ => px (or_not f.1 rfl)) ?_
    refine sc (fun _ _ _ f _ _ => px (or_move f.1)) ?_
    refine sc (fun _ _ _ f s _ => sg_f rfl rfl rfl f.1 (fun hg => or_move (s.1.trans e49_0))) ?_
    refine sc (fun _ _ _ f _ _ => sg_f rfl rfl rfl f.1 (fun hg => or_call cf38 (args3 (f.2.1.1 hg) rfl rfl) (exact_within_w _ n1 (-1152921504606846976) 1152921504606846976  r74 (gd_t hr74 hg)) post_val)) ?_
    refine sc (fun _ _ _ f _ _ => sg_f rfl rfl rfl f.1 (fun hg => or_not (f.2.1.1 hg) rfl)) ?_
    refine sc (fun _ _ _ f _ _ => px (or_or f.1 rfl (fun hx => f.2.1.1 hx) rfl)) ?_
    exact steps_nil
  intro own75 a75 w75 hd75 hz75 hk75 hf75 hE75
  have e75_0 := (hk75 0 rfl).trans e49_0
  have e75_1 := (hk75 1 rfl).trans e49_1
  obtain ⟨(e75_14 : a75.eval (.tmp 14) = .bool ((!r73) || (!r74))), -⟩ := hf75 [7] rfl
  have hX75 := es_ hX49 hE75
  refine fl_cond e75_14 hs (fun c76 hs => ?_) (fun c76 hs => ?_)
  · refine rg0_seq 25 own75 (bz 2) [⟨[], [], [], Fct.val 4 (.int .i64 0)⟩, ⟨[], [], [], Fct.val 5 (.bool false)⟩] hz75 hd75 (by kernel_rfl) ?_ ?_
    · refine sc (fun _ _ _ _ _ _ => px (or_assign rfl)) ?_
      refine sc (fun _ _ _ _ _ _ => px (or_assign rfl)) ?_
      exact steps_nil
    intro own77 a77 w77 hd77 hz77 hk77 hf77 hE77
    obtain ⟨(e77_4 : a77.eval (.tmp 4) = .int .i64 0), (e77_5 : a77.eval (.tmp 5) = .bool false), -⟩ := hf77 [0, 1] rfl
    have hX77 := es_ hX75 hE77
    refine fl_ret ?_
    refine hp72 _ _ _ rfl ?_
    refine hp50.leaves _ _ _ rfl ?_
    obtain rfl := osome hs
    exact hret _ _ _ _ (.inl rfl) hd77 (results2_ rfl (RVal.tmp_ e77_4) (RVal.tmp_ e77_5)) ⟨own77, rfl, hX77⟩
  refine fl_skip ?_
  refine hn72 _ _ ?_
  obtain ⟨x78, hx78, hs⟩ := obind hs
  refine rg0_seq 25 own75 [0, 0, 3, 7] [⟨[], [0], [], Fct.val 15 (.int .i64 n1)⟩, ⟨[], [1], [], Fct.val 16 (.int .i64 d2)⟩, ⟨[0, 1], [], [], Fct.val 17 (.int .i64 x78)⟩, ⟨[2], [], [], Fct.val 6 (.int .i64 x78)⟩] hz75 hd75 (by kernel_rfl) ?_ ?_
  · refine sc (fun _ _ _ _ s _ => px (or_move (s.1.trans e75_0))) ?_
    refine sc (fun _ _ _ _ s _ => px (or_move (s.1.trans e75_1))) ?_
    refine sc (fun _ _ _ f _ _ => px (or_quo f.1 f.2.1 hx78)) ?_
    refine sc (fun _ _ _ f _ _ => px (or_assign f.1)) ?_
    exact steps_nil
  intro own79 a79 w79 hd79 hz79 hk79 hf79 hE79
  have e79_0 := (hk79 0 rfl).trans e75_0
  have e79_1 := (hk79 1 rfl).trans e75_1
  obtain ⟨(e79_6 : a79.eval (.tmp 6) = .int .i64 x78), -⟩ := hf79 [3] rfl
  have hX79 := es_ hX75 hE79
  refine fl_seq (fun Q80 hn80 hp80 => ?_)
  obtain ⟨x81, hx81, hs⟩ := obind hs
  refine rg0_seq 25 own79 [0, 0, 3, 7] [⟨[], [0], [], Fct.val 18 (.int .i64 n1)⟩, ⟨[], [1], [], Fct.val 19 (.int .i64 d2)⟩, ⟨[0, 1], [], [], Fct.val 20 (.int .i64 x81)⟩, ⟨[2], [], [], Fct.val 21 (.bool (decide (0 ≤ x81)))⟩] hz79 hd79 (by kernel_rfl) ?_ ?_
  · refine sc (fun _ _ _ _ s _ => px (or_move (s.1.trans e79_0))) ?_
    refine sc (fun _ _ _ _ s _ => px (or_move (s.1.trans e79_1))) ?_
    refine sc (fun _ _ _ f _ _ => px (or_rem f.1 f.2.1 hx81)) ?_
    refine sc (fun _ _ _ f _ _ => px (or_geq f.1 rfl rfl)) ?_
    exact steps_nil
  intro own82 a82 w82 hd82 hz82 hk82 hf82 hE82
  have e82_6 := (hk82 6 rfl).trans e79_6
  obtain ⟨(e82_21 : a82.eval (.tmp 21) = .bool (decide (0 ≤ x81))), -⟩ := hf82 [3] rfl
  have hX82 := es_ hX79 hE82
  refine fl_cond e82_21 hs (fun c83 hs => ?_) (fun c83 hs => ?_)
  · refine fl_goto ?_
    refine hp80 _ _ _ rfl ?_
    exact (K67 _ _ own82 _ hd82 hz82 e82_6 hX82 hs)
  refine fl_skip ?_
  refine hn80 _ _ ?_
  refine rg0_seq 25 own82 (bz 3) [⟨[], [6], [], Fct.val 22 (.int .i64 x78)⟩, ⟨[0], [], [], Fct.val 23 (.int .i64 (sb x78 1))⟩, ⟨[1], [], [], Fct.val 6 (.int .i64 (sb x78 1))⟩] hz82 hd82 (by kernel_rfl) ?_ ?_
  · refine sc (fun _ _ _ _ s _ => px (or_move (s.1.trans e82_6))) ?_
    refine sc (fun _ _ _ f _ _ => px (or_sub f.1 rfl rfl)) ?_
    refine sc (fun _ _ _ f _ _ => px (or_assign f.1)) ?_
    exact steps_nil
  intro own84 a84 w84 hd84 hz84 hk84 hf84 hE84
  obtain ⟨(e84_6 : a84.eval (.tmp 6) = .int .i64 (sb x78 1)), -⟩ := hf84 [2] rfl
  have hX84 := es_ hX82 hE84
  refine fl_seq (fun Q85 hn85 hp85 => ?_)
  refine fl_label ?_
  refine hn85 _ _ ?_
  refine rg0_seq 25 own84 (bz 3) [⟨[], [6], [], Fct.val 24 (.int .i64 (sb x78 1))⟩, ⟨[0], [], [], Fct.val 4 (.int .i64 (sb x78 1))⟩, ⟨[], [], [], Fct.val 5 (.bool true)⟩] hz84 hd84 (by kernel_rfl) ?_ ?_
  · refine sc (fun _ _ _ _ s _ => px (or_move (s.1.trans e84_6))) ?_
    refine sc (fun _ _ _ f _ _ => px (or_assign f.1)) ?_
    refine sc (fun _ _ _ _ _ _ => px (or_assign rfl)) ?_
    exact steps_nil
  intro own86 a86 w86 hd86 hz86 hk86 hf86 hE86
  obtain ⟨(e86_4 : a86.eval (.tmp 4) = .int .i64 (sb x78 1)), (e86_5 : a86.eval (.tmp 5) = .bool true), -⟩ := hf86 [1, 2] rfl
  have hX86 := es_ hX84 hE86
  refine fl_ret ?_
  refine hp50.leaves _ _ _ rfl ?_
  obtain rfl := osome hs
  exact hret _ _ _ _ (.inl rfl) hd86 (results2_ rfl (RVal.tmp_ e86_4) (RVal.tmp_ e86_5)) ⟨own86, rfl, hX86⟩
theorem exact_Round_w (w : World) (n1 : Int) (d2 : Int) (r : Int × Bool) (hs : exact_Round n1 d2 = some r) :
    Calls Try.prog 43 #[.int .i64 n1, .int .i64 d2] w fun e w' => ∃ own' : Own, e = .returned (.tuple #[.int .i64 r.1, .bool r.2]) ∧ Evo [] (fun _ => 0) own' w w' := by
  refine fl_enter (n := 30) rfl rfl rfl (Nat.le_of_ble_eq_true rfl) ?_
  intro a0 Q hd0 hz0 harg hret
  have ha0 := harg 0 _ rfl
  have ha1 := harg 1 _ rfl
  clear harg
  have hE0 : Evo [] (fun _ => 0) (fun _ => 0) w w := Evo.refl _ _ _
  refine rg0_seq 30 (fun _ => 0) (bz 2) [⟨[], [], [], Fct.val 4 (.int .i64 0)⟩, ⟨[], [], [], Fct.val 5 (.bool false)⟩] hz0 hd0 (by kernel_rfl) ?_ ?_
  · refine sc (fun _ _ _ _ _ _ => px (or_assign rfl)) ?_
    refine sc (fun _ _ _ _ _ _ => px (or_assign rfl)) ?_
    exact steps_nil
  intro own30 a30 w30 hd30 hz30 hk30 hf30 hE30
  have e30_0 := (hk30 0 rfl).trans ha0
  have e30_1 := (hk30 1 rfl).trans ha1
  have hX30 := es_ hE0 hE30
  obtain ⟨r31, hr31, hs⟩ := obind hs
  refine rg0_seq 30 own30 [0, 0, 3, 7, 15, 15, 31, 127] [⟨[], [0], [], Fct.val 10 (.int .i64 n1)⟩, ⟨[], [1], [], Fct.val 11 (.int .i64 d2)⟩, ⟨[0, 1], [], [], Fct.val 12 (.tuple #[.int .i64 r31.1, .bool r31.2])⟩, ⟨[2], [], [], Fct.val 9 (.tuple #[.int .i64 r31.1, .bool r31.2])⟩, ⟨[3], [], [], Fct.val 13 (.int .i64 r31.1)⟩, ⟨[3], [], [], Fct.val 14 (.bool r31.2)⟩, ⟨[4], [], [], Fct.val 6 (.int .i64 r31.1)⟩, ⟨[5], [], [], Fct.val 7 (.bool r31.2)⟩] hz30 hd30 (by kernel_rfl) ?_ ?_
  · refine sc (fun _ _ _ _ s _ => px (or_move (s.1.trans e30_0))) ?_
    refine sc (fun _ _ _ _ s _ => px (or_move (s.1.trans e30_1))) ?_
    refine sc (fun _ _ _ f _ _ => px (or_call cf45 (args2 f.1 f.2.1) (exact_Floor_w _ n1 d2  r31 hr31) post_val)) ?_
    refine sc (fun _ _ _ f _ _ => px (or_move f.1)) ?_
    refine sc (fun _ _ _ f _ _ => px (or_k [(9, .tuple #[.int .i64 r31.1, .bool r31.2])] rfl rfl ⟨f.1, trivial⟩ (by kernel_rfl))) ?_
    refine sc (fun _ _ _ f _ _ => px (or_k [(9, .tuple #[.int .i64 r31.1, .bool r31.2])] rfl rfl ⟨f.1, trivial⟩ (by kernel_rfl))) ?_
    refine sc (fun _ _ _ f _ _ => px (or_assign f.1)) ?_
    refine sc (fun _ _ _ f _ _ => px (or_assign f.1)) ?_
    exact steps_nil
  intro own32 a32 w32 hd32 hz32 hk32 hf32 hE32
  have e32_0 := (hk32 0 rfl).trans e30_0
  have e32_1 := (hk32 1 rfl).trans e30_1
  obtain ⟨(e32_6 : a32.eval (.tmp 6) = .int .i64 r31.1), (e32_7 : a32.eval (.tmp 7) = .bool r31.2), -⟩ := hf32 [6, 7] rfl
  have hX32 := es_ hX30 hE32
  refine fl_seq (fun Q33 hn33 hp33 => ?_)
  refine rg0_seq 30 own32 (bz 2) [⟨[], [7], [], Fct.val 15 (.bool r31.2)⟩, ⟨[0], [], [], Fct.val 16 (.bool (!r31.2))⟩] hz32 hd32 (by kernel_rfl) ?_ ?_
  · refine sc (fun _ _ _ _ s _ => px (or_move (s.1.trans e32_7))) ?_
    refine sc (fun _ _ _ f _ _ => px (or_not f.1 rfl)) ?_
    exact steps_nil
  intro own34 a34 w34 hd34 hz34 hk34 hf34 hE34
  have e34_0 := (hk34 0 rfl).trans e32_0
  have e34_1 := (hk34 1 rfl).trans e32_1
  have e34_6 := (hk34 6 rfl).trans e32_6
  obtain ⟨(e34_16 : a34.eval (.tmp 16) = .bool (!r31.2)), -⟩ := hf34 [1] rfl
  have hX34 := es_ hX32 hE34
  refine fl_cond e34_16 hs (fun c35 hs => ?_) (fun c35 hs => ?_)
  · refine rg0_seq 30 own34 (bz 2) [⟨[], [], [], Fct.val 4 (.int .i64 0)⟩, ⟨[], [], [], Fct.val 5 (.bool false)⟩] hz34 hd34 (by kernel_rfl) ?_ ?_
    · refine sc (fun _ _ _ _ _ _ => px (or_assign rfl)) ?_
      refine sc (fun _ _ _ _ _ _ => px (or_assign rfl)) ?_
      exact steps_nil
    intro own36 a36 w36 hd36 hz36 hk36 hf36 hE36
    obtain ⟨(e36_4 : a36.eval (.tmp 4) = .int .i64 0), (e36_5 : a36.eval (.tmp 5) = .bool false), -⟩ := hf36 [0, 1] rfl
    have hX36 := es_ hX34 hE36
    refine fl_ret ?_
    refine hp33 _ _ _ rfl ?_
    obtain rfl := osome hs
    exact hret _ _ _ _ (.inl rfl) hd36 (results2_ rfl (RVal.tmp_ e36_4) (RVal.tmp_ e36_5)) ⟨own36, rfl, hX36⟩
  refine fl_skip ?_
  refine hn33 _ _ ?_
  refine rg0_seq 30 own34 [0, 0, 0, 6, 15, 31] [⟨[], [0], [], Fct.val 17 (.int .i64 n1)⟩, ⟨[], [6], [], Fct.val 18 (.int .i64 r31.1)⟩, ⟨[], [1], [], Fct.val 19 (.int .i64 d2)⟩, ⟨[1, 2], [], [], Fct.val 20 (.int .i64 (ml r31.1 d2))⟩, ⟨[0, 3], [], [], Fct.val 21 (.int .i64 (sb n1 (ml r31.1 d2)))⟩, ⟨[4], [], [], Fct.val 8 (.int .i64 (sb n1 (ml r31.1 d2)))⟩] hz34 hd34 (by kernel_rfl) ?_ ?_
  · refine sc (fun _ _ _ _ s _ => px (or_move (s.1.trans e34_0))) ?_
    refine sc (fun _ _ _ _ s _ => px (or_move (s.1.trans e34_6))) ?_
    refine sc (fun _ _ _ _ s _ => px (or_move (s.1.trans e34_1))) ?_
    refine sc (fun _ _ _ f _ _ => px (or_mul f.1 f.2.1 rfl)) ?_
    refine sc (fun _ _ _ f _ _ => px (or_sub f.1 f.2.1 rfl)) ?_
    refine sc (fun _ _ _ f _ _ => px (or_assign f.1)) ?_
    exact steps_nil
  intro own37 a37 w37 hd37 hz37 hk37 hf37 hE37
  have e37_1 := (hk37 1 rfl).trans e34_1
  have e37_6 := (hk37 6 rfl).trans e34_6
  obtain ⟨(e37_8 : a37.eval (.tmp 8) = .int .i64 (sb n1 (ml r31.1 d2))), -⟩ := hf37 [5] rfl
  have hX37 := es_ hX34 hE37
  refine fl_seq (fun Q38 hn38 hp38 => ?_)
  have K43 : ∀ (a43 : Act) (w43 : World) (own43 : Own) (q42 : Int), a43.defers = [] → a43.tmps.size = 30 → a43.eval (.tmp 6) = .int .i64 q42 → Evo [] (fun _ => 0) own43 w w43 → exact_Round_k1 q42 = some r → Q38 .normal a43 w43 := by
    intro a43 w43 own43 q42 hd44 hz44 e44_6 hE44 hs
    refine hn38 _ _ ?_
    refine rg0_seq 30 own43 (bz 3) [⟨[], [6], [], Fct.val 29 (.int .i64 q42)⟩, ⟨[0], [], [], Fct.val 4 (.int .i64 q42)⟩, ⟨[], [], [], Fct.val 5 (.bool true)⟩] hz44 hd44 (by kernel_rfl) ?_ ?_
    · refine sc (fun _ _ _ _ s _ => px (or_move (s.1.trans e44_6))) ?_
      refine sc (fun _ _ _ f _ _ => px (or_assign f.1)) ?_
      refine sc (fun _ _ _ _ _ _ => px (or_assign rfl)) ?_
      exact steps_nil
    intro own45 a45 w45 hd45 hz45 hk45 hf45 hE45
    obtain ⟨(e45_4 : a45.eval (.tmp 4) = .int .i64 q42), (e45_5 : a45.eval (.tmp 5) = .bool true), -⟩ := hf45 [1, 2] rfl
    have hX45 := es_ hE44 hE45
    refine fl_ret ?_
    obtain rfl := osome hs
    exact hret _ _ _ _ (.inl rfl) hd45 (results2_ rfl (RVal.tmp_ e45_4) (RVal.tmp_ e45_5)) ⟨own45, rfl, hX45⟩
  refine rg0_seq 30 own37 [0, 0, 0, 6, 15] [⟨[], [8], [], Fct.val 22 (.int .i64 (sb n1 (ml r31.1 d2)))⟩, ⟨[], [1], [], Fct.val 23 (.int .i64 d2)⟩, ⟨[], [8], [], Fct.val 24 (.int .i64 (sb n1 (ml r31.1 d2)))⟩, ⟨[1, 2], [], [], Fct.val 25 (.int .i64 (sb d2 (sb n1 (ml r31.1 d2))))⟩, ⟨[0, 3], [], [], Fct.val 26 (.bool (decide ((sb d2 (sb n1 (ml r31.1 d2))) ≤ (sb n1 (ml r31.1 d2)))))⟩] hz37 hd37 (by kernel_rfl) ?_ ?_
  · refine sc (fun _ _ _ _ s _ => px (or_move (s.1.trans e37_8))) ?_
    refine sc (fun _ _ _ _ s _ => px (or_move (s.1.trans e37_1))) ?_
    refine sc (fun _ _ _ _ s _ => px (or_move (s.1.trans e37_8))) ?_
    refine sc (fun _ _ _ f _ _ => px (or_sub f.1 f.2.1 rfl)) ?_
    refine sc (fun _ _ _ f _ _ => px (or_geq f.1 f.2.1 rfl)) ?_
    exact steps_nil
  intro own46 a46 w46 hd46 hz46 hk46 hf46 hE46
  have e46_6 := (hk46 6 rfl).trans e37_6
  obtain ⟨(e46_26 : a46.eval (.tmp 26) = .bool (decide ((sb d2 (sb n1 (ml r31.1 d2))) ≤ (sb n1 (ml r31.1 d2))))), -⟩ := hf46 [4] rfl
  have hX46 := es_ hX37 hE46
  refine fl_cond e46_26 hs (fun c47 hs => ?_) (fun c47 hs => ?_)
  · refine rg0 30 own46 (bz 3) [⟨[], [6], [], Fct.val 27 (.int .i64 r31.1)⟩, ⟨[0], [], [], Fct.val 28 (.int .i64 (ad r31.1 1))⟩, ⟨[1], [], [], Fct.val 6 (.int .i64 (ad r31.1 1))⟩] hz46 hd46 (by kernel_rfl) ?_ ?_
    · refine sc (fun _ _ _ _ s _ => px (or_move (s.1.trans e46_6))) ?_
      refine sc (fun _ _ _ f _ _ => px (or_add f.1 rfl rfl)) ?_
      refine sc (fun _ _ _ f _ _ => px (or_assign f.1)) ?_
      exact steps_nil
    intro own48 a48 w48 hd48 hz48 hk48 hf48 hE48
    obtain ⟨(e48_6 : a48.eval (.tmp 6) = .int .i64 (ad r31.1 1)), -⟩ := hf48 [2] rfl
    have hX48 := es_ hX46 hE48
    exact (K43 _ _ own48 _ hd48 hz48 e48_6 hX48 hs)
  refine fl_skip ?_
  exact (K43 _ _ own46 _ hd46 hz46 e46_6 hX46 hs)
theorem seg_AtX_w (w : World) (x1 : Int × Int) (b2 : Int × Int) (c3 : Int) (r : Int × Bool) (hs : seg_AtX x1 b2 c3 = some r) :
    Calls Try.prog 37 #[.agg #[.int .i64 x1.1, .int .i64 x1.2], .agg #[.int .i64 b2.1, .int .i64 b2.2], .int .i64 c3] w fun e w' => ∃ own' : Own, e = .returned (.tuple #[.int .i64 r.1, .bool r.2]) ∧ Evo [] (fun _ => 0) own' w w' := by
  refine fl_enter (n := 57) rfl rfl rfl (Nat.le_of_ble_eq_true rfl) ?_
  intro a0 Q hd0 hz0 harg hret
  have ha0 := harg 0 _ rfl
  have ha1 := harg 1 _ rfl
  have ha2 := harg 2 _ rfl
  clear harg
  have hE0 : Evo [] (fun _ => 0) (fun _ => 0) w w := Evo.refl _ _ _
  refine rg0_seq 57 (fun _ => 0) [0, 0, 0, 4] [⟨[], [0], [], Fct.blk 48 3 (fun g => .pointer (some ⟨g, 0, none⟩)) 25 #[.int .i64 x1.1, .int .i64 x1.2]⟩, ⟨[], [1], [], Fct.blk 50 4 (fun g => .pointer (some ⟨g, 0, none⟩)) 25 #[.int .i64 b2.1, .int .i64 b2.2]⟩, ⟨[], [], [], Fct.val 6 (.int .i64 0)⟩, ⟨[], [], [], Fct.val 7 (.bool false)⟩] hz0 hd0 (by kernel_rfl) ?_ ?_
  · refine sc (fun _ _ _ _ s _ => px (or_new [(0, .agg #[.int .i64 x1.1, .int .i64 x1.2])] rfl rfl ⟨(s.1.trans ha0), trivial⟩ (by kernel_rfl))) ?_
    refine sc (fun _ _ _ _ s _ => px (or_new [(1, .agg #[.int .i64 b2.1, .int .i64 b2.2])] rfl rfl ⟨(s.1.trans ha1), trivial⟩ (by kernel_rfl))) ?_
    refine sc (fun _ _ _ _ _ _ => px (or_assign rfl)) ?_
    refine sc (fun _ _ _ _ _ _ => px (or_assign rfl)) ?_
    exact steps_nil
  intro own51 a51 w51 hd51 hz51 hk51 hf51 hE51
  have e51_2 := (hk51 2 rfl).trans ha2
  obtain ⟨⟨g47, (e51_3 : a51.eval (.tmp 3) = .pointer (some ⟨g47, 0, none⟩)), (b51_g47 : BlkO own51 48 w51 g47 25 #[.int .i64 x1.1, .int .i64 x1.2])⟩, ⟨g49, (e51_4 : a51.eval (.tmp 4) = .pointer (some ⟨g49, 0, none⟩)), (b51_g49 : BlkO own51 50 w51 g49 25 #[.int .i64 b2.1, .int .i64 b2.2])⟩, -⟩ := hf51 [0, 1] rfl
  have hX51 := es_ hE0 hE51
  refine fl_seq (fun Q52 hn52 hp52 => ?_)
  have K63 : ∀ (a63 : Act) (w63 : World) (own63 : Own) (x60 : Int × Int) (b62 : Int × Int), a63.defers = [] → a63.tmps.size = 57 → a63.eval (.tmp 2) = .int .i64 c3 → a63.eval (.tmp 3) = .pointer (some ⟨g47, 0, none⟩) → a63.eval (.tmp 4) = .pointer (some ⟨g49, 0, none⟩) → Evo [] (fun _ => 0) own63 w w63 → BlkO own63 59 w63 g47 25 #[.int .i64 x60.1, .int .i64 x60.2] → BlkO own63 61 w63 g49 25 #[.int .i64 b62.1, .int .i64 b62.2] → seg_AtX_k1 c3 x60 b62 = some r → Q52 .normal a63 w63 := by
    intro a63 w63 own63 x60 b62 hd64 hz64 e64_2 e64_3 e64_4 hE64 b64_g47 b64_g49 hs
    refine hn52 _ _ ?_
    refine fl_seq (fun Q65 hn65 hp65 => ?_)
    obtain ⟨r68, hr68, hs⟩ := obind hs
    obtain ⟨x69, hx69, hs⟩ := obind hs
    refine rg0_seq 57 own63 [0, 0, 3, 7, 15, 31, 63, 63, 191, 511, 1023, 2047, 4095, 4095, 12287, 32767, 65535] [⟨[], [3], [], Fct.val 16 (.agg #[.int .i64 x60.1, .int .i64 x60.2])⟩, ⟨[], [4], [], Fct.val 17 (.agg #[.int .i64 b62.1, .int .i64 b62.2])⟩, ⟨[0, 1], [], [], Fct.row 67 [] 18 25 R25 [x60, b62]⟩, ⟨[2], [], [], Fct.val 19 (.bool r68)⟩, ⟨[3], [], [], Fct.val 20 (.bool (!r68))⟩, ⟨[4], [], [], Fct.val 21 (.bool (!r68))⟩, ⟨[5], [2], [], Fct.cond (!(!r68)) (some 22) (Fct.val 22 (.int .i64 c3))⟩, ⟨[5], [3], [], Fct.cond (!(!r68)) (some 23) (Fct.val 23 (.pointer (some ⟨g47, 0, none⟩)))⟩, ⟨[5, 7], [], [], Fct.cond (!(!r68)) (some 24) (Fct.val 24 (.int .i64 x60.1))⟩, ⟨[5, 6, 8], [], [], Fct.cond (!(!r68)) (some 25) (Fct.val 25 (.bool (decide (c3 ≤ x60.1))))⟩, ⟨[5, 9], [], [], Fct.val 26 (.bool ((!r68) || (decide (c3 ≤ x60.1))))⟩, ⟨[10], [], [], Fct.val 27 (.bool ((!r68) || (decide (c3 ≤ x60.1))))⟩, ⟨[11], [2], [], Fct.cond (!((!r68) || (decide (c3 ≤ x60.1)))) (some 28) (Fct.val 28 (.int .i64 c3))⟩, ⟨[11], [4], [], Fct.cond (!((!r68) || (decide (c3 ≤ x60.1)))) (some 29) (Fct.val 29 (.pointer (some ⟨g49, 0, none⟩)))⟩, ⟨[11, 13], [], [], Fct.cond (!((!r68) || (decide (c3 ≤ x60.1)))) (some 30) (Fct.val 30 (.int .i64 b62.1))⟩, ⟨[11, 12, 14], [], [], Fct.cond (!((!r68) || (decide (c3 ≤ x60.1)))) (some 31) (Fct.val 31 (.bool (decide (b62.1 ≤ c3))))⟩, ⟨[11, 15], [], [], Fct.val 32 (.bool x69)⟩] hz64 hd64 (by kernel_rfl) ?_ ?_
    · refine sc (fun _ _ _ _ s hE => px (or_load (l := [.int .i64 x60.1, .int .i64 x60.2]) ta25 (s.1.trans e64_3) (Blk.cellsFrom (be_ hE b64_g47).2 0 rfl) rfl)) ?_
      refine sc (fun _ _ _ _ s hE => px (or_load (l := [.int .i64 b62.1, .int .i64 b62.2]) ta25 (s.1.trans e64_4) (Blk.cellsFrom (be_ hE b64_g49).2 0 rfl) rfl)) ?_
      refine sc (fun _ _ _ f _ _ => px (or_lit (lab := 67) (e := 25) (cs := #[.int .i64 x60.1, .int .i64 x60.2, .int .i64 b62.1, .int .i64 b62.2]) (F := E25) (or_new [(16, .agg #[.int .i64 x60.1, .int .i64 x60.2]), (17, .agg #[.int .i64 b62.1, .int .i64 b62.2])] rfl rfl ⟨f.1, f.2.1, trivial⟩ (by kernel_rfl)) rfl rfl (show 2 ≤ maxLen by decide))) ?_
      refine sc (fun own a wx hf hsl hE => ?_) ?_
      · obtain ⟨⟨⟨A66, cA66⟩, f_18, b_A66⟩, -⟩ := hf
        exact px (or_call cf24 (args1 f_18) (exact_Right_w _ [x60, b62] A66 cA66 (RdO.zero (RwO.rd b_A66)) r68 hr68) post_val)
      refine sc (fun _ _ _ f _ _ => px (or_not f.1 rfl)) ?_
      refine sc (fun _ _ _ f _ _ => px (or_move f.1)) ?_
      refine sc (fun _ _ _ f s _ => sg_f rfl rfl rfl f.1 (fun hg => or_move (s.1.trans e64_2))) ?_
      refine sc (fun _ _ _ f s _ => sg_f rfl rfl rfl f.1 (fun hg => or_field fo25_0 (s.1.trans e64_3) (by rfl))) ?_
      refine sc (fun _ _ _ f _ hE => sg_f rfl rfl rfl f.1 (fun hg => or_load1 to3 (f.2.1.1 hg) (Blk.at_ (be_ hE b64_g47).2 0 rfl))) ?_
      refine sc (fun _ _ _ f _ _ => sg_f rfl rfl rfl f.1 (fun hg => or_leq (f.2.1.1 hg) (f.2.2.1.1 hg) rfl)) ?_
      refine sc (fun _ _ _ f _ _ => px (or_or f.1 rfl (fun hx => f.2.1.1 hx) rfl)) ?_
      refine sc (fun _ _ _ f _ _ => px (or_move f.1)) ?_
      refine sc (fun _ _ _ f s _ => sg_f rfl rfl rfl f.1 (fun hg => or_move (s.1.trans e64_2))) ?_
      refine sc (fun _ _ _ f s _ => sg_f rfl rfl rfl f.1 (fun hg => or_field fo25_0 (s.1.trans e64_4) (by rfl))) ?_
      refine sc (fun _ _ _ f _ hE => sg_f rfl rfl rfl f.1 (fun hg => or_load1 to3 (f.2.1.1 hg) (Blk.at_ (be_ hE b64_g49).2 0 rfl))) ?_
      refine sc (fun _ _ _ f _ _ => sg_f rfl rfl rfl f.1 (fun hg => or_geq (f.2.1.1 hg) (f.2.2.1.1 hg) rfl)) ?_
      refine sc (fun _ _ _ f _ _ => px (or_or f.1 rfl (fun hx => f.2.1.1 hx) (osome hx69).symm)) ?_
      exact steps_nil
    intro own70 a70 w70 hd70 hz70 hk70 hf70 hE70
    have e70_2 := (hk70 2 rfl).trans e64_2
    have e70_3 := (hk70 3 rfl).trans e64_3
    have e70_4 := (hk70 4 rfl).trans e64_4
    obtain ⟨(e70_32 : a70.eval (.tmp 32) = .bool x69), -⟩ := hf70 [16] rfl
    have hX70 := es_ hE64 hE70
    have b70_g47 := be_ hE70 b64_g47
    have b70_g49 := be_ hE70 b64_g49
    refine fl_cond e70_32 hs (fun c71 hs => ?_) (fun c71 hs => ?_)
    · refine rg0_seq 57 own70 (bz 2) [⟨[], [], [], Fct.val 6 (.int .i64 0)⟩, ⟨[], [], [], Fct.val 7 (.bool false)⟩] hz70 hd70 (by kernel_rfl) ?_ ?_
      · refine sc (fun _ _ _ _ _ _ => px (or_assign rfl)) ?_
        refine sc (fun _ _ _ _ _ _ => px (or_assign rfl)) ?_
        exact steps_nil
      intro own72 a72 w72 hd72 hz72 hk72 hf72 hE72
      obtain ⟨(e72_6 : a72.eval (.tmp 6) = .int .i64 0), (e72_7 : a72.eval (.tmp 7) = .bool false), -⟩ := hf72 [0, 1] rfl
      have hX72 := es_ hX70 hE72
      refine fl_ret ?_
      refine hp65 _ _ _ rfl ?_
      obtain rfl := osome hs
      exact hret _ _ _ _ (.inl rfl) hd72 (results2_ rfl (RVal.tmp_ e72_6) (RVal.tmp_ e72_7)) ⟨own72, rfl, hX72⟩
    refine fl_skip ?_
    refine hn65 _ _ ?_
    refine rg0_seq 57 own70 [0, 1, 0, 4, 15, 31] [⟨[], [4], [], Fct.val 33 (.pointer (some ⟨g49, 0, none⟩))⟩, ⟨[0], [], [], Fct.val 34 (.int .i64 b62.1)⟩, ⟨[], [3], [], Fct.val 35 (.pointer (some ⟨g47, 0, none⟩))⟩, ⟨[2], [], [], Fct.val 36 (.int .i64 x60.1)⟩, ⟨[1, 3], [], [], Fct.val 37 (.int .i64 (sb b62.1 x60.1))⟩, ⟨[4], [], [], Fct.val 8 (.int .i64 (sb b62.1 x60.1))⟩] hz70 hd70 (by kernel_rfl) ?_ ?_
    · refine sc (fun _ _ _ _ s _ => px (or_field fo25_0 (s.1.trans e70_4) (by rfl))) ?_
      refine sc (fun _ _ _ f _ hE => px (or_load1 to3 f.1 (Blk.at_ (be_ hE b70_g49).2 0 rfl))) ?_
      refine sc (fun _ _ _ _ s _ => px (or_field fo25_0 (s.1.trans e70_3) (by rfl))) ?_
      refine sc (fun _ _ _ f _ hE => px (or_load1 to3 f.1 (Blk.at_ (be_ hE b70_g47).2 0 rfl))) ?_
      refine sc (fun _ _ _ f _ _ => px (or_sub f.1 f.2.1 rfl)) ?_
      refine sc (fun _ _ _ f _ _ => px (or_assign f.1)) ?_
      exact steps_nil
    intro own73 a73 w73 hd73 hz73 hk73 hf73 hE73
    have e73_2 := (hk73 2 rfl).trans e70_2
    have e73_3 := (hk73 3 rfl).trans e70_3
    have e73_4 := (hk73 4 rfl).trans e70_4
    obtain ⟨(e73_8 : a73.eval (.tmp 8) = .int .i64 (sb b62.1 x60.1)), -⟩ := hf73 [5] rfl
    have hX73 := es_ hX70 hE73
    have b73_g47 := be_ hE73 b70_g47
    have b73_g49 := be_ hE73 b70_g49
    obtain ⟨x74, hx74, hs⟩ := obind hs
    obtain ⟨r75, hr75, hs⟩ := obind hs
    refine rg0_seq 57 own73 [0, 1, 0, 7, 0, 16, 0, 64, 240, 0, 0, 1024, 3584, 8176, 16383, 0, 65535, 131071, 131071, 524287, 1048575] [⟨[], [3], [], Fct.val 38 (.pointer (some ⟨g47, 1, none⟩))⟩, ⟨[0], [], [], Fct.val 39 (.int .i64 x60.2)⟩, ⟨[], [8], [], Fct.val 40 (.int .i64 (sb b62.1 x60.1))⟩, ⟨[1, 2], [], [], Fct.val 41 (.int .i64 (ml x60.2 (sb b62.1 x60.1)))⟩, ⟨[], [4], [], Fct.val 42 (.pointer (some ⟨g49, 1, none⟩))⟩, ⟨[4], [], [], Fct.val 43 (.int .i64 b62.2)⟩, ⟨[], [3], [], Fct.val 44 (.pointer (some ⟨g47, 1, none⟩))⟩, ⟨[6], [], [], Fct.val 45 (.int .i64 x60.2)⟩, ⟨[5, 7], [], [], Fct.val 46 (.int .i64 (sb b62.2 x60.2))⟩, ⟨[], [2], [], Fct.val 47 (.int .i64 c3)⟩, ⟨[], [3], [], Fct.val 48 (.pointer (some ⟨g47, 0, none⟩))⟩, ⟨[10], [], [], Fct.val 49 (.int .i64 x60.1)⟩, ⟨[9, 11], [], [], Fct.val 50 (.int .i64 (sb c3 x60.1))⟩, ⟨[8, 12], [], [], Fct.val 51 (.int .i64 (ml (sb b62.2 x60.2) (sb c3 x60.1)))⟩, ⟨[3, 13], [], [], Fct.val 52 (.int .i64 x74)⟩, ⟨[], [8], [], Fct.val 53 (.int .i64 (sb b62.1 x60.1))⟩, ⟨[14, 15], [], [], Fct.val 54 (.tuple #[.int .i64 r75.1, .bool r75.2])⟩, ⟨[16], [], [], Fct.val 55 (.int .i64 r75.1)⟩, ⟨[16], [], [], Fct.val 56 (.bool r75.2)⟩, ⟨[17], [], [], Fct.val 6 (.int .i64 r75.1)⟩, ⟨[18], [], [], Fct.val 7 (.bool r75.2)⟩] hz73 hd73 (by kernel_rfl) ?_ ?_
    · refine sc (fun _ _ _ _ s _ => px (or_field fo25_1 (s.1.trans e73_3) (by rfl))) ?_
      refine sc (fun _ _ _ f _ hE => px (or_load1 to3 f.1 (Blk.at_ (be_ hE b73_g47).2 1 rfl))) ?_
      refine sc (fun _ _ _ _ s _ => px (or_move (s.1.trans e73_8))) ?_
      refine sc (fun _ _ _ f _ _ => px (or_mul f.1 f.2.1 rfl)) ?_
      refine sc (fun _ _ _ _ s _ => px (or_field fo25_1 (s.1.trans e73_4) (by rfl))) ?_
      refine sc (fun _ _ _ f _ hE => px (or_load1 to3 f.1 (Blk.at_ (be_ hE b73_g49).2 1 rfl))) ?_
      refine sc (fun _ _ _ _ s _ => px (or_field fo25_1 (s.1.trans e73_3) (by rfl))) ?_
      refine sc (fun _ _ _ f _ hE => px (or_load1 to3 f.1 (Blk.at_ (be_ hE b73_g47).2 1 rfl))) ?_
      refine sc (fun _ _ _ f _ _ => px (or_sub f.1 f.2.1 rfl)) ?_
      refine sc (fun _ _ _ _ s _ => px (or_move (s.1.trans e73_2))) ?_
      refine sc (fun _ _ _ _ s _ => px (or_field fo25_0 (s.1.trans e73_3) (by rfl))) ?_
      refine sc (fun _ _ _ f _ hE => px (or_load1 to3 f.1 (Blk.at_ (be_ hE b73_g47).2 0 rfl))) ?_
      refine sc (fun _ _ _ f _ _ => px (or_sub f.1 f.2.1 rfl)) ?_
      refine sc (fun _ _ _ f _ _ => px (or_mul f.1 f.2.1 rfl)) ?_
      refine sc (fun _ _ _ f _ _ => px (or_add f.1 f.2.1 (osome hx74).symm)) ?_
      refine sc (fun _ _ _ _ s _ => px (or_move (s.1.trans e73_8))) ?_
      refine sc (fun _ _ _ f _ _ => px (or_call cf43 (args2 f.1 f.2.1) (exact_Round_w _ x74 (sb b62.1 x60.1)  r75 hr75) post_val)) ?_
      refine sc (fun _ _ _ f _ _ => px (or_k [(54, .tuple #[.int .i64 r75.1, .bool r75.2])] rfl rfl ⟨f.1, trivial⟩ (by kernel_rfl))) ?_
      refine sc (fun _ _ _ f _ _ => px (or_k [(54, .tuple #[.int .i64 r75.1, .bool r75.2])] rfl rfl ⟨f.1, trivial⟩ (by kernel_rfl))) ?_
      refine sc (fun _ _ _ f _ _ => px (or_assign f.1)) ?_
      refine sc (fun _ _ _ f _ _ => px (or_assign f.1)) ?_
      exact steps_nil
    intro own76 a76 w76 hd76 hz76 hk76 hf76 hE76
    obtain ⟨(e76_6 : a76.eval (.tmp 6) = .int .i64 r75.1), (e76_7 : a76.eval (.tmp 7) = .bool r75.2), -⟩ := hf76 [19, 20] rfl
    have hX76 := es_ hX73 hE76
    refine fl_ret ?_
    obtain rfl := osome hs
    exact hret _ _ _ _ (.inl rfl) hd76 (results2_ rfl (RVal.tmp_ e76_6) (RVal.tmp_ e76_7)) ⟨own76, rfl, hX76⟩
  refine rg0_seq 57 own51 [0, 1, 0, 4, 15] [⟨[], [3], [], Fct.val 9 (.pointer (some ⟨g47, 0, none⟩))⟩, ⟨[0], [], [], Fct.val 10 (.int .i64 x1.1)⟩, ⟨[], [4], [], Fct.val 11 (.pointer (some ⟨g49, 0, none⟩))⟩, ⟨[2], [], [], Fct.val 12 (.int .i64 b2.1)⟩, ⟨[1, 3], [], [], Fct.val 13 (.bool (decide (b2.1 < x1.1)))⟩] hz51 hd51 (by kernel_rfl) ?_ ?_
  · refine sc (fun _ _ _ _ s _ => px (or_field fo25_0 (s.1.trans e51_3) (by rfl))) ?_
    refine sc (fun _ _ _ f _ hE => px (or_load1 to3 f.1 (Blk.at_ (be_ hE b51_g47).2 0 rfl))) ?_
    refine sc (fun _ _ _ _ s _ => px (or_field fo25_0 (s.1.trans e51_4) (by rfl))) ?_
    refine sc (fun _ _ _ f _ hE => px (or_load1 to3 f.1 (Blk.at_ (be_ hE b51_g49).2 0 rfl))) ?_
    refine sc (fun _ _ _ f _ _ => px (or_gtr f.1 f.2.1 rfl)) ?_
    exact steps_nil
  intro own77 a77 w77 hd77 hz77 hk77 hf77 hE77
  have e77_2 := (hk77 2 rfl).trans e51_2
  have e77_3 := (hk77 3 rfl).trans e51_3
  have e77_4 := (hk77 4 rfl).trans e51_4
  obtain ⟨(e77_13 : a77.eval (.tmp 13) = .bool (decide (b2.1 < x1.1))), -⟩ := hf77 [4] rfl
  have hX77 := es_ hX51 hE77
  have b77_g47 := be_ hE77 b51_g47
  have b77_g49 := be_ hE77 b51_g49
  refine fl_cond e77_13 hs (fun c78 hs => ?_) (fun c78 hs => ?_)
  · refine rg_plain (n := 57) (rs := [Fct.at_ 48 g47 25 #[.int .i64 x1.1, .int .i64 x1.2], Fct.at_ 50 g49 25 #[.int .i64 b2.1, .int .i64 b2.2]]) (own0 := own77) (K := [48, 50]) (bs := [0, 0, 3, 7]) (ds := [⟨[5], [4], [], Fct.val 14 (.agg #[.int .i64 b2.1, .int .i64 b2.2])⟩, ⟨[4], [3], [], Fct.val 15 (.agg #[.int .i64 x1.1, .int .i64 x1.2])⟩, ⟨[0, 4], [3], [48], Fct.at_ 80 g47 25 #[.int .i64 b2.1, .int .i64 b2.2]⟩, ⟨[1, 5], [4], [50], Fct.at_ 81 g49 25 #[.int .i64 x1.1, .int .i64 x1.2]⟩]) (by kernel_rfl) hz77 hd77 (by simp only [List.forall_mem_cons]; exact ⟨b77_g47, b77_g49, fun _ h => nomatch h⟩) ?_ ?_
    · refine sc (fun own a wx hf hsl hE => ?_) ?_
      · obtain ⟨(b_g49 : BlkO own 50 wx g49 25 #[.int .i64 b2.1, .int .i64 b2.2]), -⟩ := hf
        obtain ⟨s_4, -⟩ := hsl
        exact px (or_load (l := [.int .i64 b2.1, .int .i64 b2.2]) ta25 (s_4.trans e77_4) (Blk.cellsFrom b_g49.2 0 rfl) rfl)
      refine sc (fun own a wx hf hsl hE => ?_) ?_
      · obtain ⟨(b_g47 : BlkO own 48 wx g47 25 #[.int .i64 x1.1, .int .i64 x1.2]), -⟩ := hf
        obtain ⟨s_3, -⟩ := hsl
        exact px (or_load (l := [.int .i64 x1.1, .int .i64 x1.2]) ta25 (s_3.trans e77_3) (Blk.cellsFrom b_g47.2 0 rfl) rfl)
      refine sc (fun own a wx hf hsl hE => ?_) ?_
      · obtain ⟨f_14, b_g47, -⟩ := hf
        obtain ⟨s_3, -⟩ := hsl
        exact px (or_store (l := #[.int .i64 b2.1, .int .i64 b2.2]) (lab := 48) (lab2 := 80) ts25 (s_3.trans e77_3) f_14 b_g47 (by simp) (by kernel_rfl) (mem_of rfl) (by decide) (by kernel_rfl) (fun own' a' w' ha hb => hb))
      refine sc (fun own a wx hf hsl hE => ?_) ?_
      · obtain ⟨f_15, b_g49, -⟩ := hf
        obtain ⟨s_4, -⟩ := hsl
        exact px (or_store (l := #[.int .i64 x1.1, .int .i64 x1.2]) (lab := 50) (lab2 := 81) ts25 (s_4.trans e77_4) f_15 b_g49 (by simp) (by kernel_rfl) (mem_of rfl) (by decide) (by kernel_rfl) (fun own' a' w' ha hb => hb))
      exact steps_nil
    intro own82 a82 w82 hd82 hz82 hk82 hf82 hE82
    have e82_2 := (hk82 2 rfl).trans e77_2
    have e82_3 := (hk82 3 rfl).trans e77_3
    have e82_4 := (hk82 4 rfl).trans e77_4
    obtain ⟨(b82_g47 : BlkO own82 80 w82 g47 25 #[.int .i64 b2.1, .int .i64 b2.2]), (b82_g49 : BlkO own82 81 w82 g49 25 #[.int .i64 x1.1, .int .i64 x1.2]), -⟩ := hf82 [2, 3] rfl
    have hX82 := es_ hX77 hE82
    exact (K63 _ _ (rl [(80, 59), (81, 61)] own82) b2 x1 hd82 hz82 e82_2 e82_3 e82_4 (Evo.rl_ hX82 (fun _ => Nat.le_refl 0) rfl) (BlkO.rl_ (mm := [(80, 59), (81, 61)]) b82_g47) (BlkO.rl_ (mm := [(80, 59), (81, 61)]) b82_g49) hs)
  refine fl_skip ?_
  exact (K63 _ _ (rl [(48, 59), (50, 61)] own77) x1 b2 hd77 hz77 e77_2 e77_3 e77_4 (Evo.rl_ hX77 (fun _ => Nat.le_refl 0) rfl) (BlkO.rl_ (mm := [(48, 59), (50, 61)]) b77_g47) (BlkO.rl_ (mm := [(48, 59), (50, 61)]) b77_g49) hs)
theorem seg_flip_w (w : World) (p1 : Int × Int) (r : Int × Int) (hs : seg_flip p1 = some r) :
    Calls Try.prog 42 #[.agg #[.int .i64 p1.1, .int .i64 p1.2]] w fun e w' => ∃ own' : Own, e = .returned (.agg #[.int .i64 r.1, .int .i64 r.2]) ∧ Evo [] (fun _ => 0) own' w w' := by
  refine fl_enter (n := 8) rfl rfl rfl (Nat.le_of_ble_eq_true rfl) ?_
  intro a0 Q hd0 hz0 harg hret
  have ha0 := harg 0 _ rfl
  clear harg
  have hE0 : Evo [] (fun _ => 0) (fun _ => 0) w w := Evo.refl _ _ _
  refine rg0_seq 8 (fun _ => 0) [0, 0] [⟨[], [0], [], Fct.blk 19 1 (fun g => .pointer (some ⟨g, 0, none⟩)) 25 #[.int .i64 p1.1, .int .i64 p1.2]⟩, ⟨[], [], [], Fct.blk 21 2 (fun g => .pointer (some ⟨g, 0, none⟩)) 25 #[.int .i64 0, .int .i64 0]⟩] hz0 hd0 (by kernel_rfl) ?_ ?_
  · refine sc (fun _ _ _ _ s _ => px (or_new [(0, .agg #[.int .i64 p1.1, .int .i64 p1.2])] rfl rfl ⟨(s.1.trans ha0), trivial⟩ (by kernel_rfl))) ?_
    refine sc (fun _ _ _ _ _ _ => px (or_new [] rfl rfl trivial (by kernel_rfl))) ?_
    exact steps_nil
  intro own22 a22 w22 hd22 hz22 hk22 hf22 hE22
  obtain ⟨⟨g18, (e22_1 : a22.eval (.tmp 1) = .pointer (some ⟨g18, 0, none⟩)), (b22_g18 : BlkO own22 19 w22 g18 25 #[.int .i64 p1.1, .int .i64 p1.2])⟩, ⟨g20, (e22_2 : a22.eval (.tmp 2) = .pointer (some ⟨g20, 0, none⟩)), (b22_g20 : BlkO own22 21 w22 g20 25 #[.int .i64 0, .int .i64 0])⟩, -⟩ := hf22 [0, 1] rfl
  have hX22 := es_ hE0 hE22
  refine rg_plain_seq (n := 8) (rs := [Fct.at_ 21 g20 25 #[.int .i64 0, .int .i64 0]]) (own0 := own22) (K := [21]) (bs := [0, 1, 0, 4, 15, 31]) (ds := [⟨[], [1], [], Fct.val 3 (.pointer (some ⟨g18, 1, none⟩))⟩, ⟨[0], [], [], Fct.val 4 (.int .i64 p1.2)⟩, ⟨[], [1], [], Fct.val 5 (.pointer (some ⟨g18, 0, none⟩))⟩, ⟨[2], [], [], Fct.val 6 (.int .i64 p1.1)⟩, ⟨[1, 3], [], [], Fct.val 7 (.agg #[.int .i64 p1.2, .int .i64 p1.1])⟩, ⟨[4, 6], [2], [21], Fct.at_ 23 g20 25 #[.int .i64 p1.2, .int .i64 p1.1]⟩]) (by kernel_rfl) hz22 hd22 (by simp only [List.forall_mem_cons]; exact ⟨b22_g20, fun _ h => nomatch h⟩) ?_ ?_
  · refine sc (fun _ _ _ _ s _ => px (or_field fo25_1 (s.1.trans e22_1) (by rfl))) ?_
    refine sc (fun _ _ _ f _ hE => px (or_load1 to3 f.1 (Blk.at_ (be_ hE b22_g18).2 1 rfl))) ?_
    refine sc (fun _ _ _ _ s _ => px (or_field fo25_0 (s.1.trans e22_1) (by rfl))) ?_
    refine sc (fun _ _ _ f _ hE => px (or_load1 to3 f.1 (Blk.at_ (be_ hE b22_g18).2 0 rfl))) ?_
    refine sc (fun _ _ _ f _ _ => px (or_k [(4, .int .i64 p1.2), (6, .int .i64 p1.1)] rfl rfl ⟨f.1, f.2.1, trivial⟩ (by kernel_rfl))) ?_
    refine sc (fun own a wx hf hsl hE => ?_) ?_
    · obtain ⟨f_7, b_g20, -⟩ := hf
      obtain ⟨s_2, -⟩ := hsl
      exact px (or_store (l := #[.int .i64 p1.2, .int .i64 p1.1]) (lab := 21) (lab2 := 23) ts25 (s_2.trans e22_2) f_7 b_g20 (by simp) (by kernel_rfl) (mem_of rfl) (by decide) (by kernel_rfl) (fun own' a' w' ha hb => hb))
    exact steps_nil
  intro own24 a24 w24 hd24 hz24 hk24 hf24 hE24
  have e24_2 := (hk24 2 rfl).trans e22_2
  obtain ⟨(b24_g20 : BlkO own24 23 w24 g20 25 #[.int .i64 p1.2, .int .i64 p1.1]), -⟩ := hf24 [5] rfl
  have hX24 := es_ hX22 hE24
  refine fl_ret ?_
  obtain rfl := osome hs
  exact hret _ _ _ _ (.inl rfl) hd24 (results1_ rfl (RVal.cell_ e24_2 (run_loadVarAgg (l := [.int .i64 p1.2, .int .i64 p1.1]) ta25 (Blk.cellsFrom b24_g20.2 0 rfl) rfl))) ⟨own24, rfl, hX24⟩
theorem seg_AtY_w (w : World) (x1 : Int × Int) (b2 : Int × Int) (c3 : Int) (r : Int × Bool) (hs : seg_AtY x1 b2 c3 = some r) :
    Calls Try.prog 36 #[.agg #[.int .i64 x1.1, .int .i64 x1.2], .agg #[.int .i64 b2.1, .int .i64 b2.2], .int .i64 c3] w fun e w' => ∃ own' : Own, e = .returned (.tuple #[.int .i64 r.1, .bool r.2]) ∧ Evo [] (fun _ => 0) own' w w' := by
  refine fl_enter (n := 16) rfl rfl rfl (Nat.le_of_ble_eq_true rfl) ?_
  intro a0 Q hd0 hz0 harg hret
  have ha0 := harg 0 _ rfl
  have ha1 := harg 1 _ rfl
  have ha2 := harg 2 _ rfl
  clear harg
  have hE0 : Evo [] (fun _ => 0) (fun _ => 0) w w := Evo.refl _ _ _
  refine rg0_seq 16 (fun _ => 0) [0, 0, 0, 4] [⟨[], [0], [], Fct.blk 21 3 (fun g => .pointer (some ⟨g, 0, none⟩)) 25 #[.int .i64 x1.1, .int .i64 x1.2]⟩, ⟨[], [1], [], Fct.blk 23 4 (fun g => .pointer (some ⟨g, 0, none⟩)) 25 #[.int .i64 b2.1, .int .i64 b2.2]⟩, ⟨[], [], [], Fct.val 6 (.int .i64 0)⟩, ⟨[], [], [], Fct.val 7 (.bool false)⟩] hz0 hd0 (by kernel_rfl) ?_ ?_
  · refine sc (fun _ _ _ _ s _ => px (or_new [(0, .agg #[.int .i64 x1.1, .int .i64 x1.2])] rfl rfl ⟨(s.1.trans ha0), trivial⟩ (by kernel_rfl))) ?_
    refine sc (fun _ _ _ _ s _ => px (or_new [(1, .agg #[.int .i64 b2.1, .int .i64 b2.2])] rfl rfl ⟨(s.1.trans ha1), trivial⟩ (by kernel_rfl))) ?_
    refine sc (fun _ _ _ _ _ _ => px (or_assign rfl)) ?_
    refine sc (fun _ _ _ _ _ _ => px (or_assign rfl)) ?_
    exact steps_nil
  intro own24 a24 w24 hd24 hz24 hk24 hf24 hE24
  have e24_2 := (hk24 2 rfl).trans ha2
  obtain ⟨⟨g20, (e24_3 : a24.eval (.tmp 3) = .pointer (some ⟨g20, 0, none⟩)), (b24_g20 : BlkO own24 21 w24 g20 25 #[.int .i64 x1.1, .int .i64 x1.2])⟩, ⟨g22, (e24_4 : a24.eval (.tmp 4) = .pointer (some ⟨g22, 0, none⟩)), (b24_g22 : BlkO own24 23 w24 g22 25 #[.int .i64 b2.1, .int .i64 b2.2])⟩, -⟩ := hf24 [0, 1] rfl
  have hX24 := es_ hE0 hE24
  obtain ⟨r25, hr25, hs⟩ := obind hs
  obtain ⟨r26, hr26, hs⟩ := obind hs
  obtain ⟨r27, hr27, hs⟩ := obind hs
  refine rg_draw_seq g_mixed (n := 16) (rs := []) (own0 := own24) (K := []) (bs := [0, 1, 0, 7, 0, 31, 63, 63, 255, 511]) (ds := [⟨[], [3], [], Fct.val 8 (.agg #[.int .i64 x1.1, .int .i64 x1.2])⟩, ⟨[0], [], [], Fct.val 9 (.agg #[.int .i64 r25.1, .int .i64 r25.2])⟩, ⟨[], [4], [], Fct.val 10 (.agg #[.int .i64 b2.1, .int .i64 b2.2])⟩, ⟨[2], [], [], Fct.val 11 (.agg #[.int .i64 r26.1, .int .i64 r26.2])⟩, ⟨[], [2], [], Fct.val 12 (.int .i64 c3)⟩, ⟨[1, 3, 4], [], [], Fct.val 13 (.tuple #[.int .i64 r27.1, .bool r27.2])⟩, ⟨[5], [], [], Fct.val 14 (.int .i64 r27.1)⟩, ⟨[5], [], [], Fct.val 15 (.bool r27.2)⟩, ⟨[6], [], [], Fct.val 6 (.int .i64 r27.1)⟩, ⟨[7], [], [], Fct.val 7 (.bool r27.2)⟩]) (by kernel_rfl) hz24 hd24 nm_ ?_ ?_
  · refine sc (fun _ _ _ _ s hE => px (or_load (l := [.int .i64 x1.1, .int .i64 x1.2]) ta25 (s.1.trans e24_3) (Blk.cellsFrom (be_ hE b24_g20).2 0 rfl) rfl)) ?_
    refine sc (fun _ _ _ f _ _ => px (or_call cf42 (args1 f.1) (seg_flip_w _ x1  r25 hr25) post_val)) ?_
    refine sc (fun _ _ _ _ s hE => px (or_load (l := [.int .i64 b2.1, .int .i64 b2.2]) ta25 (s.1.trans e24_4) (Blk.cellsFrom (be_ hE b24_g22).2 0 rfl) rfl)) ?_
    refine sc (fun _ _ _ f _ _ => px (or_call cf42 (args1 f.1) (seg_flip_w _ b2  r26 hr26) post_val)) ?_
    refine sc (fun _ _ _ _ s _ => px (or_move (s.1.trans e24_2))) ?_
    refine sc (fun _ _ _ f _ _ => px (or_call cf37 (args3 f.1 f.2.1 f.2.2.1) (seg_AtX_w _ r25 r26 c3  r27 hr27) post_val)) ?_
    refine sc (fun _ _ _ f _ _ => px (or_k [(13, .tuple #[.int .i64 r27.1, .bool r27.2])] rfl rfl ⟨f.1, trivial⟩ (by kernel_rfl))) ?_
    refine sc (fun _ _ _ f _ _ => px (or_k [(13, .tuple #[.int .i64 r27.1, .bool r27.2])] rfl rfl ⟨f.1, trivial⟩ (by kernel_rfl))) ?_
    refine sc (fun _ _ _ f _ _ => px (or_assign f.1)) ?_
    refine sc (fun _ _ _ f _ _ => px (or_assign f.1)) ?_
    exact steps_nil
  intro own28 a28 w28 hd28 hz28 hk28 hf28 hE28
  obtain ⟨(e28_6 : a28.eval (.tmp 6) = .int .i64 r27.1), (e28_7 : a28.eval (.tmp 7) = .bool r27.2), -⟩ := hf28 [8, 9] rfl
  have hX28 := es_ hX24 hE28
  refine fl_ret ?_
  obtain rfl := osome hs
  exact hret _ _ _ _ (.inl rfl) hd28 (results2_ rfl (RVal.tmp_ e28_6) (RVal.tmp_ e28_7)) ⟨own28, rfl, hX28⟩
theorem polyclip_cut_w (w : World) (x1 : Int × Int) (b2 : Int × Int) (c3 : Int) (y4 : Bool) (r : (Int × Int) × Bool) (hs : polyclip_cut x1 b2 c3 y4 = some r) :
    Calls Try.prog 23 #[.agg #[.int .i64 x1.1, .int .i64 x1.2], .agg #[.int .i64 b2.1, .int .i64 b2.2], .int .i64 c3, .bool y4] w fun e w' => ∃ own' : Own, e = .returned (.tuple #[.agg #[.int .i64 r.1.1, .int .i64 r.1.2], .bool r.2]) ∧ Evo [] (fun _ => 0) own' w w' := by
  refine fl_enter (n := 37) rfl rfl rfl (Nat.le_of_ble_eq_true rfl) ?_
  intro a0 Q hd0 hz0 harg hret
  have ha0 := harg 0 _ rfl
  have ha1 := harg 1 _ rfl
  have ha2 := harg 2 _ rfl
  have ha3 := harg 3 _ rfl
  clear harg
  have hE0 : Evo [] (fun _ => 0) (fun _ => 0) w w := Evo.refl _ _ _
  refine rg0_seq 37 (fun _ => 0) [0, 0, 0, 0] [⟨[], [0], [], Fct.blk 30 4 (fun g => .pointer (some ⟨g, 0, none⟩)) 25 #[.int .i64 x1.1, .int .i64 x1.2]⟩, ⟨[], [1], [], Fct.blk 32 5 (fun g => .pointer (some ⟨g, 0, none⟩)) 25 #[.int .i64 b2.1, .int .i64 b2.2]⟩, ⟨[], [], [], Fct.blk 34 8 (fun g => .pointer (some ⟨g, 0, none⟩)) 25 #[.int .i64 0, .int .i64 0]⟩, ⟨[], [], [], Fct.val 9 (.bool false)⟩] hz0 hd0 (by kernel_rfl) ?_ ?_
  · refine sc (fun _ _ _ _ s _ => px (or_new [(0, .agg #[.int .i64 x1.1, .int .i64 x1.2])] rfl rfl ⟨(s.1.trans ha0), trivial⟩ (by kernel_rfl))) ?_
    refine sc (fun _ _ _ _ s _ => px (or_new [(1, .agg #[.int .i64 b2.1, .int .i64 b2.2])] rfl rfl ⟨(s.1.trans ha1), trivial⟩ (by kernel_rfl))) ?_
    refine sc (fun _ _ _ _ _ _ => px (or_new [] rfl rfl trivial (by kernel_rfl))) ?_
    refine sc (fun _ _ _ _ _ _ => px (or_assign rfl)) ?_
    exact steps_nil
  intro own35 a35 w35 hd35 hz35 hk35 hf35 hE35
  have e35_2 := (hk35 2 rfl).trans ha2
  have e35_3 := (hk35 3 rfl).trans ha3
  obtain ⟨⟨g29, (e35_4 : a35.eval (.tmp 4) = .pointer (some ⟨g29, 0, none⟩)), (b35_g29 : BlkO own35 30 w35 g29 25 #[.int .i64 x1.1, .int .i64 x1.2])⟩, ⟨g31, (e35_5 : a35.eval (.tmp 5) = .pointer (some ⟨g31, 0, none⟩)), (b35_g31 : BlkO own35 32 w35 g31 25 #[.int .i64 b2.1, .int .i64 b2.2])⟩, ⟨g33, (e35_8 : a35.eval (.tmp 8) = .pointer (some ⟨g33, 0, none⟩)), (b35_g33 : BlkO own35 34 w35 g33 25 #[.int .i64 0, .int .i64 0])⟩, -⟩ := hf35 [0, 1, 2] rfl
  have hX35 := es_ hE0 hE35
  refine fl_seq (fun Q36 hn36 hp36 => ?_)
  refine rg0_seq 37 own35 (bz 1) [⟨[], [3], [], Fct.val 14 (.bool y4)⟩] hz35 hd35 (by kernel_rfl) ?_ ?_
  · refine sc (fun _ _ _ _ s _ => px (or_move (s.1.trans e35_3))) ?_
    exact steps_nil
  intro own37 a37 w37 hd37 hz37 hk37 hf37 hE37
  have e37_2 := (hk37 2 rfl).trans e35_2
  have e37_4 := (hk37 4 rfl).trans e35_4
  have e37_5 := (hk37 5 rfl).trans e35_5
  have e37_8 := (hk37 8 rfl).trans e35_8
  obtain ⟨(e37_14 : a37.eval (.tmp 14) = .bool y4), -⟩ := hf37 [0] rfl
  have hX37 := es_ hX35 hE37
  have b37_g29 := be_ hE37 b35_g29
  have b37_g31 := be_ hE37 b35_g31
  have b37_g33 := be_ hE37 b35_g33
  refine fl_cond e37_14 hs (fun c38 hs => ?_) (fun c38 hs => ?_)
  · obtain ⟨r39, hr39, hs⟩ := obind hs
    refine rg0_seq 37 own37 [0, 0, 0, 7, 15, 31, 31, 63, 255] [⟨[], [4], [], Fct.val 16 (.agg #[.int .i64 x1.1, .int .i64 x1.2])⟩, ⟨[], [5], [], Fct.val 17 (.agg #[.int .i64 b2.1, .int .i64 b2.2])⟩, ⟨[], [2], [], Fct.val 18 (.int .i64 c3)⟩, ⟨[0, 1, 2], [], [], Fct.val 19 (.tuple #[.int .i64 r39.1, .bool r39.2])⟩, ⟨[3], [], [], Fct.val 15 (.tuple #[.int .i64 r39.1, .bool r39.2])⟩, ⟨[4], [], [], Fct.val 20 (.int .i64 r39.1)⟩, ⟨[4], [], [], Fct.val 21 (.bool r39.2)⟩, ⟨[5], [], [], Fct.val 10 (.int .i64 r39.1)⟩, ⟨[6], [], [], Fct.val 11 (.bool r39.2)⟩] hz37 hd37 (by kernel_rfl) ?_ ?_
    · refine sc (fun _ _ _ _ s hE => px (or_load (l := [.int .i64 x1.1, .int .i64 x1.2]) ta25 (s.1.trans e37_4) (Blk.cellsFrom (be_ hE b37_g29).2 0 rfl) rfl)) ?_
      refine sc (fun _ _ _ _ s hE => px (or_load (l := [.int .i64 b2.1, .int .i64 b2.2]) ta25 (s.1.trans e37_5) (Blk.cellsFrom (be_ hE b37_g31).2 0 rfl) rfl)) ?_
      refine sc (fun _ _ _ _ s _ => px (or_move (s.1.trans e37_2))) ?_
      refine sc (fun _ _ _ f _ _ => px (or_call cf36 (args3 f.1 f.2.1 f.2.2.1) (seg_AtY_w _ x1 b2 c3  r39 hr39) post_val)) ?_
      refine sc (fun _ _ _ f _ _ => px (or_move f.1)) ?_
      refine sc (fun _ _ _ f _ _ => px (or_k [(15, .tuple #[.int .i64 r39.1, .bool r39.2])] rfl rfl ⟨f.1, trivial⟩ (by kernel_rfl))) ?_
      refine sc (fun _ _ _ f _ _ => px (or_k [(15, .tuple #[.int .i64 r39.1, .bool r39.2])] rfl rfl ⟨f.1, trivial⟩ (by kernel_rfl))) ?_
      refine sc (fun _ _ _ f _ _ => px (or_assign f.1)) ?_
      refine sc (fun _ _ _ f _ _ => px (or_assign f.1)) ?_
      exact steps_nil
    intro own40 a40 w40 hd40 hz40 hk40 hf40 hE40
    have e40_2 := (hk40 2 rfl).trans e37_2
    have e40_8 := (hk40 8 rfl).trans e37_8
    obtain ⟨(e40_10 : a40.eval (.tmp 10) = .int .i64 r39.1), (e40_11 : a40.eval (.tmp 11) = .bool r39.2), -⟩ := hf40 [7, 8] rfl
    have hX40 := es_ hX37 hE40
    have b40_g33 := be_ hE40 b37_g33
    refine rg_plain_seq (n := 37) (rs := [Fct.at_ 34 g33 25 #[.int .i64 0, .int .i64 0]]) (own0 := own40) (K := [34]) (bs := [0, 0, 3, 0, 7, 31]) (ds := [⟨[], [10], [], Fct.val 22 (.int .i64 r39.1)⟩, ⟨[], [2], [], Fct.val 23 (.int .i64 c3)⟩, ⟨[0, 1], [], [], Fct.val 24 (.agg #[.int .i64 r39.1, .int .i64 c3])⟩, ⟨[], [11], [], Fct.val 25 (.bool r39.2)⟩, ⟨[2, 6], [8], [34], Fct.at_ 41 g33 25 #[.int .i64 r39.1, .int .i64 c3]⟩, ⟨[3], [], [], Fct.val 9 (.bool r39.2)⟩]) (by kernel_rfl) hz40 hd40 (by simp only [List.forall_mem_cons]; exact ⟨b40_g33, fun _ h => nomatch h⟩) ?_ ?_
    · refine sc (fun _ _ _ _ s _ => px (or_move (s.1.trans e40_10))) ?_
      refine sc (fun _ _ _ _ s _ => px (or_move (s.1.trans e40_2))) ?_
      refine sc (fun _ _ _ f _ _ => px (or_k [(22, .int .i64 r39.1), (23, .int .i64 c3)] rfl rfl ⟨f.1, f.2.1, trivial⟩ (by kernel_rfl))) ?_
      refine sc (fun _ _ _ _ s _ => px (or_move (s.1.trans e40_11))) ?_
      refine sc (fun own a wx hf hsl hE => ?_) ?_
      · obtain ⟨f_24, b_g33, -⟩ := hf
        obtain ⟨s_8, -⟩ := hsl
        exact px (or_store (l := #[.int .i64 r39.1, .int .i64 c3]) (lab := 34) (lab2 := 41) ts25 (s_8.trans e40_8) f_24 b_g33 (by simp) (by kernel_rfl) (mem_of rfl) (by decide) (by kernel_rfl) (fun own' a' w' ha hb => hb))
      refine sc (fun _ _ _ f _ _ => px (or_assign f.1)) ?_
      exact steps_nil
    intro own42 a42 w42 hd42 hz42 hk42 hf42 hE42
    have e42_8 := (hk42 8 rfl).trans e40_8
    obtain ⟨(e42_9 : a42.eval (.tmp 9) = .bool r39.2), (b42_g33 : BlkO own42 41 w42 g33 25 #[.int .i64 r39.1, .int .i64 c3]), -⟩ := hf42 [5, 4] rfl
    have hX42 := es_ hX40 hE42
    refine fl_ret ?_
    refine hp36 _ _ _ rfl ?_
    obtain rfl := osome hs
    exact hret _ _ _ _ (.inl rfl) hd42 (results2_ rfl (RVal.cell_ e42_8 (run_loadVarAgg (l := [.int .i64 r39.1, .int .i64 c3]) ta25 (Blk.cellsFrom b42_g33.2 0 rfl) rfl)) (RVal.tmp_ e42_9)) ⟨own42, rfl, hX42⟩
  refine fl_skip ?_
  refine hn36 _ _ ?_
  obtain ⟨r43, hr43, hs⟩ := obind hs
  refine rg0_seq 37 own37 [0, 0, 0, 7, 15, 31, 31, 63, 255] [⟨[], [4], [], Fct.val 27 (.agg #[.int .i64 x1.1, .int .i64 x1.2])⟩, ⟨[], [5], [], Fct.val 28 (.agg #[.int .i64 b2.1, .int .i64 b2.2])⟩, ⟨[], [2], [], Fct.val 29 (.int .i64 c3)⟩, ⟨[0, 1, 2], [], [], Fct.val 30 (.tuple #[.int .i64 r43.1, .bool r43.2])⟩, ⟨[3], [], [], Fct.val 26 (.tuple #[.int .i64 r43.1, .bool r43.2])⟩, ⟨[4], [], [], Fct.val 31 (.int .i64 r43.1)⟩, ⟨[4], [], [], Fct.val 32 (.bool r43.2)⟩, ⟨[5], [], [], Fct.val 12 (.int .i64 r43.1)⟩, ⟨[6], [], [], Fct.val 13 (.bool r43.2)⟩] hz37 hd37 (by kernel_rfl) ?_ ?_
  · refine sc (fun _ _ _ _ s hE => px (or_load (l := [.int .i64 x1.1, .int .i64 x1.2]) ta25 (s.1.trans e37_4) (Blk.cellsFrom (be_ hE b37_g29).2 0 rfl) rfl)) ?_
    refine sc (fun _ _ _ _ s hE => px (or_load (l := [.int .i64 b2.1, .int .i64 b2.2]) ta25 (s.1.trans e37_5) (Blk.cellsFrom (be_ hE b37_g31).2 0 rfl) rfl)) ?_
    refine sc (fun _ _ _ _ s _ => px (or_move (s.1.trans e37_2))) ?_
    refine sc (fun _ _ _ f _ _ => px (or_call cf37 (args3 f.1 f.2.1 f.2.2.1) (seg_AtX_w _ x1 b2 c3  r43 hr43) post_val)) ?_
    refine sc (fun _ _ _ f _ _ => px (or_move f.1)) ?_
    refine sc (fun _ _ _ f _ _ => px (or_k [(26, .tuple #[.int .i64 r43.1, .bool r43.2])] rfl rfl ⟨f.1, trivial⟩ (by kernel_rfl))) ?_
    refine sc (fun _ _ _ f _ _ => px (or_k [(26, .tuple #[.int .i64 r43.1, .bool r43.2])] rfl rfl ⟨f.1, trivial⟩ (by kernel_rfl))) ?_
    refine sc (fun _ _ _ f _ _ => px (or_assign f.1)) ?_
    refine sc (fun _ _ _ f _ _ => px (or_assign f.1)) ?_
    exact steps_nil
  intro own44 a44 w44 hd44 hz44 hk44 hf44 hE44
  have e44_2 := (hk44 2 rfl).trans e37_2
  have e44_8 := (hk44 8 rfl).trans e37_8
  obtain ⟨(e44_12 : a44.eval (.tmp 12) = .int .i64 r43.1), (e44_13 : a44.eval (.tmp 13) = .bool r43.2), -⟩ := hf44 [7, 8] rfl
  have hX44 := es_ hX37 hE44
  have b44_g33 := be_ hE44 b37_g33
  refine rg_plain_seq (n := 37) (rs := [Fct.at_ 34 g33 25 #[.int .i64 0, .int .i64 0]]) (own0 := own44) (K := [34]) (bs := [0, 0, 3, 0, 7, 31]) (ds := [⟨[], [2], [], Fct.val 33 (.int .i64 c3)⟩, ⟨[], [12], [], Fct.val 34 (.int .i64 r43.1)⟩, ⟨[0, 1], [], [], Fct.val 35 (.agg #[.int .i64 c3, .int .i64 r43.1])⟩, ⟨[], [13], [], Fct.val 36 (.bool r43.2)⟩, ⟨[2, 6], [8], [34], Fct.at_ 45 g33 25 #[.int .i64 c3, .int .i64 r43.1]⟩, ⟨[3], [], [], Fct.val 9 (.bool r43.2)⟩]) (by kernel_rfl) hz44 hd44 (by simp only [List.forall_mem_cons]; exact ⟨b44_g33, fun _ h => nomatch h⟩) ?_ ?_
  · refine sc (fun _ _ _ _ s _ => px (or_move (s.1.trans e44_2))) ?_
    refine sc (fun _ _ _ _ s _ => px (or_move (s.1.trans e44_12))) ?_
    refine sc (fun _ _ _ f _ _ => px (or_k [(33, .int .i64 c3), (34, .int .i64 r43.1)] rfl rfl ⟨f.1, f.2.1, trivial⟩ (by kernel_rfl))) ?_
    refine sc (fun _ _ _ _ s _ => px (or_move (s.1.trans e44_13))) ?_
    refine sc (fun own a wx hf hsl hE => ?_) ?_
    · obtain ⟨f_35, b_g33, -⟩ := hf
      obtain ⟨s_8, -⟩ := hsl
      exact px (or_store (l := #[.int .i64 c3, .int .i64 r43.1]) (lab := 34) (lab2 := 45) ts25 (s_8.trans e44_8) f_35 b_g33 (by simp) (by kernel_rfl) (mem_of rfl) (by decide) (by kernel_rfl) (fun own' a' w' ha hb => hb))
    refine sc (fun _ _ _ f _ _ => px (or_assign f.1)) ?_
    exact steps_nil
  intro own46 a46 w46 hd46 hz46 hk46 hf46 hE46
  have e46_8 := (hk46 8 rfl).trans e44_8
  obtain ⟨(e46_9 : a46.eval (.tmp 9) = .bool r43.2), (b46_g33 : BlkO own46 45 w46 g33 25 #[.int .i64 c3, .int .i64 r43.1]), -⟩ := hf46 [5, 4] rfl
  have hX46 := es_ hX44 hE46
  refine fl_ret ?_
  obtain rfl := osome hs
  exact hret _ _ _ _ (.inl rfl) hd46 (results2_ rfl (RVal.cell_ e46_8 (run_loadVarAgg (l := [.int .i64 c3, .int .i64 r43.1]) ta25 (Blk.cellsFrom b46_g33.2 0 rfl) rfl)) (RVal.tmp_ e46_9)) ⟨own46, rfl, hX46⟩
theorem polyclip_Half_1_w (w : World) (p1 : Int × Int) (f1 : Bool) (gf1 : Nat) (tf1 : TypeId) (f2 : Int) (gf2 : Nat) (tf2 : TypeId) (f3 : Bool) (gf3 : Nat) (tf3 : TypeId) (hgf1 : BlkO (fun _ => 0) 0 w gf1 tf1 #[.bool f1]) (hgf2 : BlkO (fun _ => 0) 0 w gf2 tf2 #[.int .i64 f2]) (hgf3 : BlkO (fun _ => 0) 0 w gf3 tf3 #[.bool f3]) (r : Int) (hs : polyclip_Half_1 p1 f1 f2 f3 = some r) :
    Calls Try.prog 22 #[.agg #[.int .i64 p1.1, .int .i64 p1.2], .pointer (some ⟨gf1, 0, none⟩), .pointer (some ⟨gf2, 0, none⟩), .pointer (some ⟨gf3, 0, none⟩)] w fun e w' => ∃ own' : Own, e = .returned (.int .i64 r) ∧ Evo [] (fun _ => 0) own' w w' := by
  refine fl_enter (n := 22) rfl rfl rfl (Nat.le_of_ble_eq_true rfl) ?_
  intro a0 Q hd0 hz0 harg hret
  have ha0 := harg 0 _ rfl
  have ha1 := harg 1 _ rfl
  have ha2 := harg 2 _ rfl
  have ha3 := harg 3 _ rfl
  clear harg
  have hE0 : Evo [] (fun _ => 0) (fun _ => 0) w w := Evo.refl _ _ _
  refine rg0_seq 22 (fun _ => 0) [0, 0] [⟨[], [0], [], Fct.blk 35 4 (fun g => .pointer (some ⟨g, 0, none⟩)) 25 #[.int .i64 p1.1, .int .i64 p1.2]⟩, ⟨[], [], [], Fct.val 5 (.int .i64 0)⟩] hz0 hd0 (by kernel_rfl) ?_ ?_
  · refine sc (fun _ _ _ _ s _ => px (or_new [(0, .agg #[.int .i64 p1.1, .int .i64 p1.2])] rfl rfl ⟨(s.1.trans ha0), trivial⟩ (by kernel_rfl))) ?_
    refine sc (fun _ _ _ _ _ _ => px (or_assign rfl)) ?_
    exact steps_nil
  intro own36 a36 w36 hd36 hz36 hk36 hf36 hE36
  have e36_1 := (hk36 1 rfl).trans ha1
  have e36_2 := (hk36 2 rfl).trans ha2
  have e36_3 := (hk36 3 rfl).trans ha3
  obtain ⟨⟨g34, (e36_4 : a36.eval (.tmp 4) = .pointer (some ⟨g34, 0, none⟩)), (b36_g34 : BlkO own36 35 w36 g34 25 #[.int .i64 p1.1, .int .i64 p1.2])⟩, -⟩ := hf36 [0] rfl
  have hX36 := es_ hE0 hE36
  have b36_gf1 := be_ hE36 hgf1
  have b36_gf2 := be_ hE36 hgf2
  have b36_gf3 := be_ hE36 hgf3
  refine rg0_seq 22 own36 (bz 3) [⟨[], [4], [], Fct.val 7 (.pointer (some ⟨g34, 0, none⟩))⟩, ⟨[0], [], [], Fct.val 8 (.int .i64 p1.1)⟩, ⟨[1], [], [], Fct.val 6 (.int .i64 p1.1)⟩] hz36 hd36 (by kernel_rfl) ?_ ?_
  · refine sc (fun _ _ _ _ s _ => px (or_field fo25_0 (s.1.trans e36_4) (by rfl))) ?_
    refine sc (fun _ _ _ f _ hE => px (or_load1 to3 f.1 (Blk.at_ (be_ hE b36_g34).2 0 rfl))) ?_
    refine sc (fun _ _ _ f _ _ => px (or_assign f.1)) ?_
    exact steps_nil
  intro own37 a37 w37 hd37 hz37 hk37 hf37 hE37
  have e37_1 := (hk37 1 rfl).trans e36_1
  have e37_2 := (hk37 2 rfl).trans e36_2
  have e37_3 := (hk37 3 rfl).trans e36_3
  have e37_4 := (hk37 4 rfl).trans e36_4
  obtain ⟨(e37_6 : a37.eval (.tmp 6) = .int .i64 p1.1), -⟩ := hf37 [2] rfl
  have hX37 := es_ hX36 hE37
  have b37_gf1 := be_ hE37 b36_gf1
  have b37_gf2 := be_ hE37 b36_gf2
  have b37_gf3 := be_ hE37 b36_gf3
  have b37_g34 := be_ hE37 b36_g34
  refine fl_seq (fun Q38 hn38 hp38 => ?_)
  have K43 : ∀ (a43 : Act) (w43 : World) (own43 : Own) (n42 : Int), a43.defers = [] → a43.tmps.size = 22 → a43.eval (.tmp 2) = .pointer (some ⟨gf2, 0, none⟩) → a43.eval (.tmp 3) = .pointer (some ⟨gf3, 0, none⟩) → a43.eval (.tmp 6) = .int .i64 n42 → Evo [] (fun _ => 0) own43 w w43 → BlkO own43 0 w43 gf2 tf2 #[.int .i64 f2] → BlkO own43 0 w43 gf3 tf3 #[.bool f3] → polyclip_Half_1_k1 f2 f3 n42 = some r → Q38 .normal a43 w43 := by
    intro a43 w43 own43 n42 hd44 hz44 e44_2 e44_3 e44_6 hE44 b44_gf2 b44_gf3 hs
    refine hn38 _ _ ?_
    refine fl_seq (fun Q45 hn45 hp45 => ?_)
    refine fl_block (fun Q46 hn46 hx46 hp46 => ?_)
    refine rg0_seq 22 own43 [0, 0, 3, 7] [⟨[], [6], [], Fct.val 13 (.int .i64 n42)⟩, ⟨[], [2], [], Fct.val 14 (.int .i64 f2)⟩, ⟨[0, 1], [], [], Fct.val 15 (.bool (decide (n42 = f2)))⟩, ⟨[2], [], [], Fct.val 12 (.bool (decide (n42 = f2)))⟩] hz44 hd44 (by kernel_rfl) ?_ ?_
    · refine sc (fun _ _ _ _ s _ => px (or_move (s.1.trans e44_6))) ?_
      refine sc (fun _ _ _ _ s hE => px (or_load1 to3 (s.1.trans e44_2) (Blk.at_ (be_ hE b44_gf2).2 0 rfl))) ?_
      refine sc (fun _ _ _ f _ _ => px (or_eql f.1 f.2.1 rfl)) ?_
      refine sc (fun _ _ _ f _ _ => px (or_assign f.1)) ?_
      exact steps_nil
    intro own47 a47 w47 hd47 hz47 hk47 hf47 hE47
    have e47_2 := (hk47 2 rfl).trans e44_2
    have e47_3 := (hk47 3 rfl).trans e44_3
    have e47_6 := (hk47 6 rfl).trans e44_6
    obtain ⟨(e47_12 : a47.eval (.tmp 12) = .bool (decide (n42 = f2))), -⟩ := hf47 [3] rfl
    have hX47 := es_ hE44 hE47
    have b47_gf2 := be_ hE47 b44_gf2
    have b47_gf3 := be_ hE47 b44_gf3
    refine fl_cond e47_12 hs (fun c48 hs => ?_) (fun c48 hs => ?_)
    · refine rg0_seq 22 own47 (bz 1) [⟨[], [], [], Fct.val 5 (.int .i64 0)⟩] hz47 hd47 (by kernel_rfl) ?_ ?_
      · refine sc (fun _ _ _ _ _ _ => px (or_assign rfl)) ?_
        exact steps_nil
      intro own49 a49 w49 hd49 hz49 hk49 hf49 hE49
      obtain ⟨(e49_5 : a49.eval (.tmp 5) = .int .i64 0), -⟩ := hf49 [0] rfl
      have hX49 := es_ hX47 hE49
      refine fl_ret ?_
      refine hp46 _ _ _ rfl ?_
      refine hp45 _ _ _ rfl ?_
      obtain rfl := osome hs
      exact hret _ _ _ _ (.inl rfl) hd49 (results1_ rfl (RVal.tmp_ e49_5)) ⟨own49, rfl, hX49⟩
    refine rg0_seq 22 own47 [0, 0, 3, 0, 15, 31] [⟨[], [6], [], Fct.val 17 (.int .i64 n42)⟩, ⟨[], [2], [], Fct.val 18 (.int .i64 f2)⟩, ⟨[0, 1], [], [], Fct.val 19 (.bool (decide (f2 < n42)))⟩, ⟨[], [3], [], Fct.val 20 (.bool f3)⟩, ⟨[2, 3], [], [], Fct.val 21 (.bool ((decide (f2 < n42)) == f3))⟩, ⟨[4], [], [], Fct.val 16 (.bool ((decide (f2 < n42)) == f3))⟩] hz47 hd47 (by kernel_rfl) ?_ ?_
    · refine sc (fun _ _ _ _ s _ => px (or_move (s.1.trans e47_6))) ?_
      refine sc (fun _ _ _ _ s hE => px (or_load1 to3 (s.1.trans e47_2) (Blk.at_ (be_ hE b47_gf2).2 0 rfl))) ?_
      refine sc (fun _ _ _ f _ _ => px (or_gtr f.1 f.2.1 rfl)) ?_
      refine sc (fun _ _ _ _ s hE => px (or_load1 to4 (s.1.trans e47_3) (Blk.at_ (be_ hE b47_gf3).2 0 rfl))) ?_
      refine sc (fun _ _ _ f _ _ => px (or_eqlb tb4 f.1 f.2.1 rfl)) ?_
      refine sc (fun _ _ _ f _ _ => px (or_assign f.1)) ?_
      exact steps_nil
    intro own50 a50 w50 hd50 hz50 hk50 hf50 hE50
    obtain ⟨(e50_16 : a50.eval (.tmp 16) = .bool ((decide (f2 < n42)) == f3)), -⟩ := hf50 [5] rfl
    have hX50 := es_ hX47 hE50
    refine fl_cond e50_16 hs (fun c51 hs => ?_) (fun c51 hs => ?_)
    · refine rg0_seq 22 own50 (bz 1) [⟨[], [], [], Fct.val 5 (.int .i64 1)⟩] hz50 hd50 (by kernel_rfl) ?_ ?_
      · refine sc (fun _ _ _ _ _ _ => px (or_assign rfl)) ?_
        exact steps_nil
      intro own52 a52 w52 hd52 hz52 hk52 hf52 hE52
      obtain ⟨(e52_5 : a52.eval (.tmp 5) = .int .i64 1), -⟩ := hf52 [0] rfl
      have hX52 := es_ hX50 hE52
      refine fl_ret ?_
      refine hp46 _ _ _ rfl ?_
      refine hp45 _ _ _ rfl ?_
      obtain rfl := osome hs
      exact hret _ _ _ _ (.inl rfl) hd52 (results1_ rfl (RVal.tmp_ e52_5)) ⟨own52, rfl, hX52⟩
    refine fl_skip ?_
    refine hn46 _ _ ?_
    refine hn45 _ _ ?_
    refine rg0_seq 22 own50 (bz 1) [⟨[], [], [], Fct.val 5 (.int .i64 (-1))⟩] hz50 hd50 (by kernel_rfl) ?_ ?_
    · refine sc (fun _ _ _ _ _ _ => px (or_assign rfl)) ?_
      exact steps_nil
    intro own53 a53 w53 hd53 hz53 hk53 hf53 hE53
    obtain ⟨(e53_5 : a53.eval (.tmp 5) = .int .i64 (-1)), -⟩ := hf53 [0] rfl
    have hX53 := es_ hX50 hE53
    refine fl_ret ?_
    obtain rfl := osome hs
    exact hret _ _ _ _ (.inl rfl) hd53 (results1_ rfl (RVal.tmp_ e53_5)) ⟨own53, rfl, hX53⟩
  refine rg0_seq 22 own37 (bz 1) [⟨[], [1], [], Fct.val 9 (.bool f1)⟩] hz37 hd37 (by kernel_rfl) ?_ ?_
  · refine sc (fun _ _ _ _ s hE => px (or_load1 to4 (s.1.trans e37_1) (Blk.at_ (be_ hE b37_gf1).2 0 rfl))) ?_
    exact steps_nil
  intro own54 a54 w54 hd54 hz54 hk54 hf54 hE54
  have e54_2 := (hk54 2 rfl).trans e37_2
  have e54_3 := (hk54 3 rfl).trans e37_3
  have e54_4 := (hk54 4 rfl).trans e37_4
  have e54_6 := (hk54 6 rfl).trans e37_6
  obtain ⟨(e54_9 : a54.eval (.tmp 9) = .bool f1), -⟩ := hf54 [0] rfl
  have hX54 := es_ hX37 hE54
  have b54_gf2 := be_ hE54 b37_gf2
  have b54_gf3 := be_ hE54 b37_gf3
  have b54_g34 := be_ hE54 b37_g34
  refine fl_cond e54_9 hs (fun c55 hs => ?_) (fun c55 hs => ?_)
  · refine rg0 22 own54 (bz 3) [⟨[], [4], [], Fct.val 10 (.pointer (some ⟨g34, 1, none⟩))⟩, ⟨[0], [], [], Fct.val 11 (.int .i64 p1.2)⟩, ⟨[1], [], [], Fct.val 6 (.int .i64 p1.2)⟩] hz54 hd54 (by kernel_rfl) ?_ ?_
    · refine sc (fun _ _ _ _ s _ => px (or_field fo25_1 (s.1.trans e54_4) (by rfl))) ?_
      refine sc (fun _ _ _ f _ hE => px (or_load1 to3 f.1 (Blk.at_ (be_ hE b54_g34).2 1 rfl))) ?_
      refine sc (fun _ _ _ f _ _ => px (or_assign f.1)) ?_
      exact steps_nil
    intro own56 a56 w56 hd56 hz56 hk56 hf56 hE56
    have e56_2 := (hk56 2 rfl).trans e54_2
    have e56_3 := (hk56 3 rfl).trans e54_3
    obtain ⟨(e56_6 : a56.eval (.tmp 6) = .int .i64 p1.2), -⟩ := hf56 [2] rfl
    have hX56 := es_ hX54 hE56
    have b56_gf2 := be_ hE56 b54_gf2
    have b56_gf3 := be_ hE56 b54_gf3
    exact (K43 _ _ own56 _ hd56 hz56 e56_2 e56_3 e56_6 hX56 b56_gf2 b56_gf3 hs)
  refine fl_skip ?_
  exact (K43 _ _ own54 _ hd54 hz54 e54_2 e54_3 e54_6 hX54 b54_gf2 b54_gf3 hs)
theorem polyclip_Half_w (w : World) (l1 : List (Int × Int)) (Al1 : Option Addr) (cl1 : Nat) (c2 : Int) (up3 : Bool) (y4 : Bool) (hl1 : RdO (fun _ => 0) [0] w R25 Al1 cl1 l1) (r : List (Int × Int)) (hs : polyclip_Half l1 c2 up3 y4 = some r) :
    Calls Try.prog 8 #[.slice Al1 l1.length cl1, .int .i64 c2, .bool up3, .bool y4] w fun e w' => ∃ (own' : Own) (x : Option Addr × Nat), e = .returned (.slice x.1 r.length x.2) ∧ Evo [] (fun _ => 0) own' w w' ∧ RwO own' 1 [] w' 25 R25 x.1 x.2 r := by
  refine fl_enter (n := 63) rfl rfl rfl (Nat.le_of_ble_eq_true rfl) ?_
  intro a0 Q hd0 hz0 harg hret
  have ha0 := harg 0 _ rfl
  have ha1 := harg 1 _ rfl
  have ha2 := harg 2 _ rfl
  have ha3 := harg 3 _ rfl
  clear harg
  have hE0 : Evo [] (fun _ => 0) (fun _ => 0) w w := Evo.refl _ _ _
  refine rg0_seq 63 (fun _ => 0) [0, 0, 0, 0] [⟨[], [1], [], Fct.blk 805 5 (fun g => .pointer (some ⟨g, 0, none⟩)) 3 #[.int .i64 c2]⟩, ⟨[], [2], [], Fct.blk 807 6 (fun g => .pointer (some ⟨g, 0, none⟩)) 4 #[.bool up3]⟩, ⟨[], [3], [], Fct.blk 809 7 (fun g => .pointer (some ⟨g, 0, none⟩)) 4 #[.bool y4]⟩, ⟨[], [], [], Fct.val 8 (.slice none 0 0)⟩] hz0 hd0 (by kernel_rfl) ?_ ?_
  · refine sc (fun _ _ _ _ s _ => px (or_new [(1, .int .i64 c2)] rfl rfl ⟨(s.1.trans ha1), trivial⟩ (by kernel_rfl))) ?_
    refine sc (fun _ _ _ _ s _ => px (or_new [(2, .bool up3)] rfl rfl ⟨(s.1.trans ha2), trivial⟩ (by kernel_rfl))) ?_
    refine sc (fun _ _ _ _ s _ => px (or_new [(3, .bool y4)] rfl rfl ⟨(s.1.trans ha3), trivial⟩ (by kernel_rfl))) ?_
    refine sc (fun _ _ _ _ _ _ => px (or_assign rfl)) ?_
    exact steps_nil
  intro own810 a810 w810 hd810 hz810 hk810 hf810 hE810
  have e810_0 := (hk810 0 rfl).trans ha0
  obtain ⟨⟨g804, (e810_5 : a810.eval (.tmp 5) = .pointer (some ⟨g804, 0, none⟩)), (b810_g804 : BlkO own810 805 w810 g804 3 #[.int .i64 c2])⟩, ⟨g806, (e810_6 : a810.eval (.tmp 6) = .pointer (some ⟨g806, 0, none⟩)), (b810_g806 : BlkO own810 807 w810 g806 4 #[.bool up3])⟩, ⟨g808, (e810_7 : a810.eval (.tmp 7) = .pointer (some ⟨g808, 0, none⟩)), (b810_g808 : BlkO own810 809 w810 g808 4 #[.bool y4])⟩, -⟩ := hf810 [0, 1, 2] rfl
  have hX810 := es_ hE0 hE810
  have b810_Al1 := RdO.evo rfl hE810 hl1
  refine fl_fwd (l := 0) rfl ?_
  intro Q811 hj811 hp811
  refine rg0_seq 63 own810 (bz 2) [⟨[], [7, 5, 6], [], Fct.val 16 (.func (.func 22) #[] #[.pointer (some ⟨g808, 0, none⟩), .pointer (some ⟨g804, 0, none⟩), .pointer (some ⟨g806, 0, none⟩)])⟩, ⟨[0], [], [], Fct.val 9 (.func (.func 22) #[] #[.pointer (some ⟨g808, 0, none⟩), .pointer (some ⟨g804, 0, none⟩), .pointer (some ⟨g806, 0, none⟩)])⟩] hz810 hd810 (by kernel_rfl) ?_ ?_
  · refine sc (fun _ _ _ _ s _ => px (or_k [(7, .pointer (some ⟨g808, 0, none⟩)), (5, .pointer (some ⟨g804, 0, none⟩)), (6, .pointer (some ⟨g806, 0, none⟩))] rfl rfl ⟨(s.1.trans e810_7), (s.2.1.trans e810_5), (s.2.2.1.trans e810_6), trivial⟩ (by kernel_rfl))) ?_
    refine sc (fun _ _ _ f _ _ => px (or_assign f.1)) ?_
    exact steps_nil
  intro own812 a812 w812 hd812 hz812 hk812 hf812 hE812
  have e812_0 := (hk812 0 rfl).trans e810_0
  have e812_5 := (hk812 5 rfl).trans e810_5
  have e812_7 := (hk812 7 rfl).trans e810_7
  obtain ⟨(e812_9 : a812.eval (.tmp 9) = .func (.func 22) #[] #[.pointer (some ⟨g808, 0, none⟩), .pointer (some ⟨g804, 0, none⟩), .pointer (some ⟨g806, 0, none⟩)]), -⟩ := hf812 [1] rfl
  have hX812 := es_ hX810 hE812
  have b812_Al1 := RdO.evo rfl hE812 b810_Al1
  have b812_g804 := be_ hE812 b810_g804
  have b812_g806 := be_ hE812 b810_g806
  have b812_g808 := be_ hE812 b810_g808
  refine rg0_seq 63 own812 (bz 1) [⟨[], [], [], Fct.val 10 (.slice none 0 0)⟩] hz812 hd812 (by kernel_rfl) ?_ ?_
  · refine sc (fun _ _ _ _ _ _ => px (or_assign rfl)) ?_
    exact steps_nil
  intro own813 a813 w813 hd813 hz813 hk813 hf813 hE813
  have e813_0 := (hk813 0 rfl).trans e812_0
  have e813_5 := (hk813 5 rfl).trans e812_5
  have e813_7 := (hk813 7 rfl).trans e812_7
  have e813_9 := (hk813 9 rfl).trans e812_9
  obtain ⟨(e813_10 : a813.eval (.tmp 10) = .slice none 0 0), -⟩ := hf813 [0] rfl
  have hX813 := es_ hX812 hE813
  have b813_Al1 := RdO.evo rfl hE813 b812_Al1
  have b813_g804 := be_ hE813 b812_g804
  have b813_g806 := be_ hE813 b812_g806
  have b813_g808 := be_ hE813 b812_g808
  refine fl_seq (fun Q814 hn814 hp814 => ?_)
  refine fl_label ?_
  refine hn814 _ _ ?_
  refine fl_seq (fun Q815 hn815 hp815 => ?_)
  refine rg0_seq 63 own813 [0, 1, 0] [⟨[], [0], [], Fct.val 17 (.slice Al1 l1.length cl1)⟩, ⟨[0], [], [], Fct.val 18 (.int .i64 (l1.length : Int))⟩, ⟨[], [], [], Fct.val 19 (.int .i64 0)⟩] hz813 hd813 (by kernel_rfl) ?_ ?_
  · refine sc (fun _ _ _ _ s _ => px (or_move (s.1.trans e813_0))) ?_
    refine sc (fun _ _ _ f _ _ => px (or_len tu22 f.1 rfl)) ?_
    refine sc (fun _ _ _ _ _ _ => px (or_move rfl)) ?_
    exact steps_nil
  intro own816 a816 w816 hd816 hz816 hk816 hf816 hE816
  have e816_0 := (hk816 0 rfl).trans e813_0
  have e816_5 := (hk816 5 rfl).trans e813_5
  have e816_7 := (hk816 7 rfl).trans e813_7
  have e816_9 := (hk816 9 rfl).trans e813_9
  have e816_10 := (hk816 10 rfl).trans e813_10
  obtain ⟨(e816_17 : a816.eval (.tmp 17) = .slice Al1 l1.length cl1), (e816_18 : a816.eval (.tmp 18) = .int .i64 (l1.length : Int)), (e816_19 : a816.eval (.tmp 19) = .int .i64 0), -⟩ := hf816 [0, 1, 2] rfl
  have hX816 := es_ hX813 hE816
  have b816_Al1 := RdO.evo rfl hE816 b813_Al1
  have b816_g804 := be_ hE816 b813_g804
  have b816_g806 := be_ hE816 b813_g806
  have b816_g808 := be_ hE816 b813_g808
  refine fl_block (fun Q817 hn817 hx817 hp817 => ?_)
  refine fl_loop (body := (fun s => polyclip_Half_b1 l1 c2 up3 y4 s.1 s.2)) (z := r) (show loopO _ _ = _ from hs) (fun (s : (List (Int × Int)) × Int) a wx => match s with | (out1072, x1074) => ∃ (ox : Own) (A1070 : Option Addr) (c1071 : Nat), a.defers = [] ∧ a.tmps.size = 63 ∧ a.eval (.tmp 0) = .slice Al1 l1.length cl1 ∧ a.eval (.tmp 5) = .pointer (some ⟨g804, 0, none⟩) ∧ a.eval (.tmp 7) = .pointer (some ⟨g808, 0, none⟩) ∧ a.eval (.tmp 9) = .func (.func 22) #[] #[.pointer (some ⟨g808, 0, none⟩), .pointer (some ⟨g804, 0, none⟩), .pointer (some ⟨g806, 0, none⟩)] ∧ a.eval (.tmp 10) = .slice A1070 out1072.length c1071 ∧ a.eval (.tmp 17) = .slice Al1 l1.length cl1 ∧ a.eval (.tmp 18) = .int .i64 (l1.length : Int) ∧ a.eval (.tmp 19) = .int .i64 x1074 ∧ Evo [] (fun _ => 0) ox w wx ∧ RdO ox [0] wx R25 Al1 cl1 l1 ∧ BlkO ox 805 wx g804 3 #[.int .i64 c2] ∧ BlkO ox 809 wx g808 4 #[.bool y4] ∧ BlkO ox 807 wx g806 4 #[.bool up3] ∧ RwO ox 1073 [] wx 25 R25 A1070 c1071 out1072) ?_ ?_
  · exact ⟨own816, none, 0, hd816, hz816, e816_0, e816_5, e816_7, e816_9, e816_10, e816_17, e816_18, e816_19, hX816, b816_Al1, b816_g804, b816_g808, b816_g806, RwO.nil_⟩
  · rintro ⟨out1072, x1074⟩ zz1335 a1335 w1335 ⟨own1335, A1070, c1071, hd1336, hz1336, e1336_0, e1336_5, e1336_7, e1336_9, e1336_10, e1336_17, e1336_18, e1336_19, hE1336, b1336_Al1, b1336_g804, b1336_g808, b1336_g806, b1336_A1070⟩ hs Q1335 hn1335 hp1335 hz1335
    have hs : polyclip_Half_b1 l1 c2 up3 y4 out1072 x1074 = some zz1335 := hs
    refine rg0_seq 63 own1335 (bz 1) [⟨[], [19, 18], [], Fct.val 20 (.bool (decide (x1074 < (l1.length : Int))))⟩] hz1336 hd1336 (by kernel_rfl) ?_ ?_
    · refine sc (fun _ _ _ _ s _ => px (or_lss (s.1.trans e1336_19) (s.2.1.trans e1336_18) rfl)) ?_
      exact steps_nil
    intro own1337 a1337 w1337 hd1337 hz1337 hk1337 hf1337 hE1337
    have e1337_0 := (hk1337 0 rfl).trans e1336_0
    have e1337_5 := (hk1337 5 rfl).trans e1336_5
    have e1337_7 := (hk1337 7 rfl).trans e1336_7
    have e1337_9 := (hk1337 9 rfl).trans e1336_9
    have e1337_10 := (hk1337 10 rfl).trans e1336_10
    have e1337_17 := (hk1337 17 rfl).trans e1336_17
    have e1337_18 := (hk1337 18 rfl).trans e1336_18
    have e1337_19 := (hk1337 19 rfl).trans e1336_19
    obtain ⟨(e1337_20 : a1337.eval (.tmp 20) = .bool (decide (x1074 < (l1.length : Int)))), -⟩ := hf1337 [0] rfl
    have hX1337 := es_ hE1336 hE1337
    have b1337_Al1 := RdO.evo rfl hE1337 b1336_Al1
    have b1337_g804 := be_ hE1337 b1336_g804
    have b1337_g808 := be_ hE1337 b1336_g808
    have b1337_g806 := be_ hE1337 b1336_g806
    have b1337_A1070 := re_ hE1337 b1336_A1070
    refine fl_seq (fun Q1338 hn1338 hp1338 => ?_)
    refine fl_cond e1337_20 hs (fun c1339 hs => ?_) (fun c1339 hs => ?_)
    · refine fl_skip ?_
      refine hn1338 _ _ ?_
      refine fl_seq (fun Q1340 hn1340 hp1340 => ?_)
      refine fl_block (fun Q1468 hn1468 hx1468 hp1468 => ?_)
      have K1533 : ∀ (a1533 : Act) (w1533 : World) (own1533 : Own) (out1531 : List (Int × Int)) (A1529 : Option Addr) (c1530 : Nat), a1533.defers = [] → a1533.tmps.size = 63 → a1533.eval (.tmp 0) = .slice Al1 l1.length cl1 → a1533.eval (.tmp 5) = .pointer (some ⟨g804, 0, none⟩) → a1533.eval (.tmp 7) = .pointer (some ⟨g808, 0, none⟩) → a1533.eval (.tmp 9) = .func (.func 22) #[] #[.pointer (some ⟨g808, 0, none⟩), .pointer (some ⟨g804, 0, none⟩), .pointer (some ⟨g806, 0, none⟩)] → a1533.eval (.tmp 10) = .slice A1529 out1531.length c1530 → a1533.eval (.tmp 17) = .slice Al1 l1.length cl1 → a1533.eval (.tmp 18) = .int .i64 (l1.length : Int) → a1533.eval (.tmp 19) = .int .i64 x1074 → Evo [] (fun _ => 0) own1533 w w1533 → RdO own1533 [0] w1533 R25 Al1 cl1 l1 → BlkO own1533 805 w1533 g804 3 #[.int .i64 c2] → BlkO own1533 809 w1533 g808 4 #[.bool y4] → BlkO own1533 807 w1533 g806 4 #[.bool up3] → RwO own1533 1532 [] w1533 25 R25 A1529 c1530 out1531 → polyclip_Half_k2 x1074 out1531 = some zz1335 → (Q1468 .normal a1533 w1533 ∧ Q1468 (.exit 1) a1533 w1533) := by
        intro a1533 w1533 own1533 out1531 A1529 c1530 hd1534 hz1534 e1534_0 e1534_5 e1534_7 e1534_9 e1534_10 e1534_17 e1534_18 e1534_19 hE1534 b1534_Al1 b1534_g804 b1534_g808 b1534_g806 b1534_A1529 hs
        refine and_both (hn1468 _ _) (hx1468 _ _) ?_
        refine hn1340 _ _ ?_
        refine rg0 63 own1533 (bz 2) [⟨[], [19], [], Fct.val 61 (.int .i64 (ad x1074 1))⟩, ⟨[0], [], [], Fct.val 19 (.int .i64 (ad x1074 1))⟩] hz1534 hd1534 (by kernel_rfl) ?_ ?_
        · refine sc (fun _ _ _ _ s _ => px (or_add (s.1.trans e1534_19) rfl rfl)) ?_
          refine sc (fun _ _ _ f _ _ => px (or_move f.1)) ?_
          exact steps_nil
        intro own1535 a1535 w1535 hd1535 hz1535 hk1535 hf1535 hE1535
        have e1535_0 := (hk1535 0 rfl).trans e1534_0
        have e1535_5 := (hk1535 5 rfl).trans e1534_5
        have e1535_7 := (hk1535 7 rfl).trans e1534_7
        have e1535_9 := (hk1535 9 rfl).trans e1534_9
        have e1535_10 := (hk1535 10 rfl).trans e1534_10
        have e1535_17 := (hk1535 17 rfl).trans e1534_17
        have e1535_18 := (hk1535 18 rfl).trans e1534_18
        obtain ⟨(e1535_19 : a1535.eval (.tmp 19) = .int .i64 (ad x1074 1)), -⟩ := hf1535 [1] rfl
        have hX1535 := es_ hE1534 hE1535
        have b1535_Al1 := RdO.evo rfl hE1535 b1534_Al1
        have b1535_g804 := be_ hE1535 b1534_g804
        have b1535_g808 := be_ hE1535 b1534_g808
        have b1535_g806 := be_ hE1535 b1534_g806
        have b1535_A1529 := re_ hE1535 b1534_A1529
        exact hn1335 _ _ _ hs ⟨(rl [(1532, 1073)] own1535), A1529, c1530, hd1535, hz1535, e1535_0, e1535_5, e1535_7, e1535_9, e1535_10, e1535_17, e1535_18, e1535_19, (Evo.rl_ hX1535 (fun _ => Nat.le_refl 0) rfl), (RdO.rl_ (mm := [(1532, 1073)]) b1535_Al1), (BlkO.rl_ (mm := [(1532, 1073)]) b1535_g804), (BlkO.rl_ (mm := [(1532, 1073)]) b1535_g808), (BlkO.rl_ (mm := [(1532, 1073)]) b1535_g806), (RwO.rl_ (mm := [(1532, 1073)]) b1535_A1529)⟩
      obtain ⟨x1536, hx1536, hs⟩ := obind hs
      refine rg_plain_seq (n := 63) (rs := []) (own0 := own1337) (K := [1538]) (bs := [0, 0, 2, 0, 15, 31]) (ds := [⟨[], [19], [], Fct.val 21 (.int .i64 x1074)⟩, ⟨[], [17, 19], [], Fct.val 22 (.pointer (some ((adr Al1).add ((x1074 : Int).toNat * R25.s))))⟩, ⟨[1], [], [], Fct.val 23 (.agg #[.int .i64 x1536.1, .int .i64 x1536.2])⟩, ⟨[], [], [], Fct.blk 1538 12 (fun g => .pointer (some ⟨g, 0, none⟩)) 25 #[.int .i64 0, .int .i64 0]⟩, ⟨[0], [], [], Fct.val 11 (.int .i64 x1074)⟩, ⟨[3, 2], [], [1538], Fct.blk 1539 12 (fun g => .pointer (some ⟨g, 0, none⟩)) 25 #[.int .i64 x1536.1, .int .i64 x1536.2]⟩]) (by kernel_rfl) hz1337 hd1337 nm_ ?_ ?_
      · refine sc (fun _ _ _ _ s _ => px (or_move (s.1.trans e1337_19))) ?_
        refine sc (fun _ _ _ _ s _ => px (or_index (R := R25) (l := l1) tl22 (s.1.trans e1337_17) (s.2.1.trans e1337_19) (RdO.some_ b1337_Al1 hx1536) hx1536)) ?_
        refine sc (fun _ _ _ f _ hE => px (or_load (l := E25.f x1536) ta25 f.1 (RdO.cells (F := E25) (RdO.evo rfl hE b1337_Al1) hx1536) rfl)) ?_
        refine sc (fun _ _ _ _ _ _ => px (or_new [] rfl rfl trivial (by kernel_rfl))) ?_
        refine sc (fun _ _ _ f _ _ => px (or_assign f.1)) ?_
        refine sc (fun own a wx hf hsl hE => ?_) ?_
        · obtain ⟨⟨g1537, f_12, b_g1537⟩, f_23, -⟩ := hf
          exact px (or_store (l := #[.int .i64 x1536.1, .int .i64 x1536.2]) (lab := 1538) (lab2 := 1539) ts25 f_12 f_23 b_g1537 (by simp) (by kernel_rfl) (mem_of rfl) (by decide) (by kernel_rfl) (fun own' a' w' ha hb => ⟨_, (ha 12).trans f_12, hb⟩))
        exact steps_nil
      intro own1540 a1540 w1540 hd1540 hz1540 hk1540 hf1540 hE1540
      have e1540_0 := (hk1540 0 rfl).trans e1337_0
      have e1540_5 := (hk1540 5 rfl).trans e1337_5
      have e1540_7 := (hk1540 7 rfl).trans e1337_7
      have e1540_9 := (hk1540 9 rfl).trans e1337_9
      have e1540_10 := (hk1540 10 rfl).trans e1337_10
      have e1540_17 := (hk1540 17 rfl).trans e1337_17
      have e1540_18 := (hk1540 18 rfl).trans e1337_18
      have e1540_19 := (hk1540 19 rfl).trans e1337_19
      obtain ⟨⟨g1537, (e1540_12 : a1540.eval (.tmp 12) = .pointer (some ⟨g1537, 0, none⟩)), (b1540_g1537 : BlkO own1540 1539 w1540 g1537 25 #[.int .i64 x1536.1, .int .i64 x1536.2])⟩, (e1540_11 : a1540.eval (.tmp 11) = .int .i64 x1074), -⟩ := hf1540 [5, 4] rfl
      have hX1540 := es_ hX1337 hE1540
      have b1540_Al1 := RdO.evo rfl hE1540 b1337_Al1
      have b1540_g804 := be_ hE1540 b1337_g804
      have b1540_g808 := be_ hE1540 b1337_g808
      have b1540_g806 := be_ hE1540 b1337_g806
      have b1540_A1070 := re_ hE1540 b1337_A1070
      obtain ⟨x1541, hx1541, hs⟩ := obind hs
      obtain ⟨x1542, hx1542, hs⟩ := obind hs
      refine rg_plain_seq (n := 63) (rs := []) (own0 := own1540) (K := [1544]) (bs := [0, 0, 2, 0, 8, 30, 63, 127, 0, 511]) (ds := [⟨[], [0], [], Fct.val 24 (.slice Al1 l1.length cl1)⟩, ⟨[], [11], [], Fct.val 25 (.int .i64 x1074)⟩, ⟨[1], [], [], Fct.val 26 (.int .i64 (ad x1074 1))⟩, ⟨[], [0], [], Fct.val 27 (.slice Al1 l1.length cl1)⟩, ⟨[3], [], [], Fct.val 28 (.int .i64 (l1.length : Int))⟩, ⟨[2, 4], [], [], Fct.val 29 (.int .i64 x1541)⟩, ⟨[0, 5], [], [], Fct.val 30 (.pointer (some ((adr Al1).add ((x1541 : Int).toNat * R25.s))))⟩, ⟨[6], [], [], Fct.val 31 (.agg #[.int .i64 x1542.1, .int .i64 x1542.2])⟩, ⟨[], [], [], Fct.blk 1544 13 (fun g => .pointer (some ⟨g, 0, none⟩)) 25 #[.int .i64 0, .int .i64 0]⟩, ⟨[8, 7], [], [1544], Fct.blk 1545 13 (fun g => .pointer (some ⟨g, 0, none⟩)) 25 #[.int .i64 x1542.1, .int .i64 x1542.2]⟩]) (by kernel_rfl) hz1540 hd1540 nm_ ?_ ?_
      · refine sc (fun _ _ _ _ s _ => px (or_move (s.1.trans e1540_0))) ?_
        refine sc (fun _ _ _ _ s _ => px (or_move (s.1.trans e1540_11))) ?_
        refine sc (fun _ _ _ f _ _ => px (or_add f.1 rfl rfl)) ?_
        refine sc (fun _ _ _ _ s _ => px (or_move (s.1.trans e1540_0))) ?_
        refine sc (fun _ _ _ f _ _ => px (or_len tu22 f.1 rfl)) ?_
        refine sc (fun _ _ _ f _ _ => px (or_rem f.1 f.2.1 hx1541)) ?_
        refine sc (fun _ _ _ f _ _ => px (or_index (R := R25) (l := l1) tl22 f.1 f.2.1 (RdO.some_ b1540_Al1 hx1542) hx1542)) ?_
        refine sc (fun _ _ _ f _ hE => px (or_load (l := E25.f x1542) ta25 f.1 (RdO.cells (F := E25) (RdO.evo rfl hE b1540_Al1) hx1542) rfl)) ?_
        refine sc (fun _ _ _ _ _ _ => px (or_new [] rfl rfl trivial (by kernel_rfl))) ?_
        refine sc (fun own a wx hf hsl hE => ?_) ?_
        · obtain ⟨⟨g1543, f_13, b_g1543⟩, f_31, -⟩ := hf
          exact px (or_store (l := #[.int .i64 x1542.1, .int .i64 x1542.2]) (lab := 1544) (lab2 := 1545) ts25 f_13 f_31 b_g1543 (by simp) (by kernel_rfl) (mem_of rfl) (by decide) (by kernel_rfl) (fun own' a' w' ha hb => ⟨_, (ha 13).trans f_13, hb⟩))
        exact steps_nil
      intro own1546 a1546 w1546 hd1546 hz1546 hk1546 hf1546 hE1546
      have e1546_0 := (hk1546 0 rfl).trans e1540_0
      have e1546_5 := (hk1546 5 rfl).trans e1540_5
      have e1546_7 := (hk1546 7 rfl).trans e1540_7
      have e1546_9 := (hk1546 9 rfl).trans e1540_9
      have e1546_10 := (hk1546 10 rfl).trans e1540_10
      have e1546_12 := (hk1546 12 rfl).trans e1540_12
      have e1546_17 := (hk1546 17 rfl).trans e1540_17
      have e1546_18 := (hk1546 18 rfl).trans e1540_18
      have e1546_19 := (hk1546 19 rfl).trans e1540_19
      obtain ⟨⟨g1543, (e1546_13 : a1546.eval (.tmp 13) = .pointer (some ⟨g1543, 0, none⟩)), (b1546_g1543 : BlkO own1546 1545 w1546 g1543 25 #[.int .i64 x1542.1, .int .i64 x1542.2])⟩, -⟩ := hf1546 [9] rfl
      have hX1546 := es_ hX1540 hE1546
      have b1546_Al1 := RdO.evo rfl hE1546 b1540_Al1
      have b1546_g804 := be_ hE1546 b1540_g804
      have b1546_g808 := be_ hE1546 b1540_g808
      have b1546_g806 := be_ hE1546 b1540_g806
      have b1546_A1070 := re_ hE1546 b1540_A1070
      have b1546_g1537 := be_ hE1546 b1540_g1537
      refine fl_seq (fun Q1547 hn1547 hp1547 => ?_)
      have K1563 : ∀ (a1563 : Act) (w1563 : World) (own1563 : Own) (out1561 : List (Int × Int)) (A1559 : Option Addr) (c1560 : Nat), a1563.defers = [] → a1563.tmps.size = 63 → a1563.eval (.tmp 0) = .slice Al1 l1.length cl1 → a1563.eval (.tmp 5) = .pointer (some ⟨g804, 0, none⟩) → a1563.eval (.tmp 7) = .pointer (some ⟨g808, 0, none⟩) → a1563.eval (.tmp 9) = .func (.func 22) #[] #[.pointer (some ⟨g808, 0, none⟩), .pointer (some ⟨g804, 0, none⟩), .pointer (some ⟨g806, 0, none⟩)] → a1563.eval (.tmp 10) = .slice A1559 out1561.length c1560 → a1563.eval (.tmp 12) = .pointer (some ⟨g1537, 0, none⟩) → a1563.eval (.tmp 13) = .pointer (some ⟨g1543, 0, none⟩) → a1563.eval (.tmp 17) = .slice Al1 l1.length cl1 → a1563.eval (.tmp 18) = .int .i64 (l1.length : Int) → a1563.eval (.tmp 19) = .int .i64 x1074 → Evo [] (fun _ => 0) own1563 w w1563 → RdO own1563 [0] w1563 R25 Al1 cl1 l1 → BlkO own1563 805 w1563 g804 3 #[.int .i64 c2] → BlkO own1563 809 w1563 g808 4 #[.bool y4] → BlkO own1563 807 w1563 g806 4 #[.bool up3] → RwO own1563 1562 [] w1563 25 R25 A1559 c1560 out1561 → BlkO own1563 1539 w1563 g1537 25 #[.int .i64 x1536.1, .int .i64 x1536.2] → BlkO own1563 1545 w1563 g1543 25 #[.int .i64 x1542.1, .int .i64 x1542.2] → polyclip_Half_k3 c2 up3 y4 x1074 x1536 x1542 out1561 = some zz1335 → Q1547 .normal a1563 w1563 := by
        intro a1563 w1563 own1563 out1561 A1559 c1560 hd1564 hz1564 e1564_0 e1564_5 e1564_7 e1564_9 e1564_10 e1564_12 e1564_13 e1564_17 e1564_18 e1564_19 hE1564 b1564_Al1 b1564_g804 b1564_g808 b1564_g806 b1564_A1559 b1564_g1537 b1564_g1543 hs
        refine hn1547 _ _ ?_
        refine fl_seq (fun Q1565 hn1565 hp1565 => ?_)
        obtain ⟨r1566, hr1566, hs⟩ := obind hs
        obtain ⟨r1567, hr1567, hs⟩ := obind hs
        refine rg_draw_seq g_mixed (n := 63) (rs := []) (own0 := own1563) (K := []) (bs := [0, 0, 3, 0, 0, 31, 63, 127]) (ds := [⟨[], [9], [], Fct.val 40 (.func (.func 22) #[] #[.pointer (some ⟨g808, 0, none⟩), .pointer (some ⟨g804, 0, none⟩), .pointer (some ⟨g806, 0, none⟩)])⟩, ⟨[], [12], [], Fct.val 41 (.agg #[.int .i64 x1536.1, .int .i64 x1536.2])⟩, ⟨[0, 1], [], [], Fct.val 42 (.int .i64 r1566)⟩, ⟨[], [9], [], Fct.val 43 (.func (.func 22) #[] #[.pointer (some ⟨g808, 0, none⟩), .pointer (some ⟨g804, 0, none⟩), .pointer (some ⟨g806, 0, none⟩)])⟩, ⟨[], [13], [], Fct.val 44 (.agg #[.int .i64 x1542.1, .int .i64 x1542.2])⟩, ⟨[3, 4], [], [], Fct.val 45 (.int .i64 r1567)⟩, ⟨[2, 5], [], [], Fct.val 46 (.int .i64 (ml r1566 r1567))⟩, ⟨[6], [], [], Fct.val 47 (.bool (decide (0 ≤ (ml r1566 r1567))))⟩]) (by kernel_rfl) hz1564 hd1564 nm_ ?_ ?_
        · refine sc (fun _ _ _ _ s _ => px (or_move (s.1.trans e1564_9))) ?_
          refine sc (fun _ _ _ _ s hE => px (or_load (l := [.int .i64 x1536.1, .int .i64 x1536.2]) ta25 (s.1.trans e1564_12) (Blk.cellsFrom (be_ hE b1564_g1537).2 0 rfl) rfl)) ?_
          refine sc (fun _ _ _ f _ hE => px (or_callf cf22 f.1 (args1 f.2.1) rfl (polyclip_Half_1_w _ x1536 y4 g808 4 c2 g804 3 up3 g806 4 (BlkO.zero_ (be_ hE b1564_g808)) (BlkO.zero_ (be_ hE b1564_g804)) (BlkO.zero_ (be_ hE b1564_g806)) r1566 hr1566) post_val)) ?_
          refine sc (fun _ _ _ _ s _ => px (or_move (s.1.trans e1564_9))) ?_
          refine sc (fun _ _ _ _ s hE => px (or_load (l := [.int .i64 x1542.1, .int .i64 x1542.2]) ta25 (s.1.trans e1564_13) (Blk.cellsFrom (be_ hE b1564_g1543).2 0 rfl) rfl)) ?_
          refine sc (fun _ _ _ f _ hE => px (or_callf cf22 f.1 (args1 f.2.1) rfl (polyclip_Half_1_w _ x1542 y4 g808 4 c2 g804 3 up3 g806 4 (BlkO.zero_ (be_ hE b1564_g808)) (BlkO.zero_ (be_ hE b1564_g804)) (BlkO.zero_ (be_ hE b1564_g806)) r1567 hr1567) post_val)) ?_
          refine sc (fun _ _ _ f _ _ => px (or_mul f.1 f.2.1 rfl)) ?_
          refine sc (fun _ _ _ f _ _ => px (or_geq f.1 rfl rfl)) ?_
          exact steps_nil
        intro own1568 a1568 w1568 hd1568 hz1568 hk1568 hf1568 hE1568
        have e1568_0 := (hk1568 0 rfl).trans e1564_0
        have e1568_5 := (hk1568 5 rfl).trans e1564_5
        have e1568_7 := (hk1568 7 rfl).trans e1564_7
        have e1568_9 := (hk1568 9 rfl).trans e1564_9
        have e1568_10 := (hk1568 10 rfl).trans e1564_10
        have e1568_12 := (hk1568 12 rfl).trans e1564_12
        have e1568_13 := (hk1568 13 rfl).trans e1564_13
        have e1568_17 := (hk1568 17 rfl).trans e1564_17
        have e1568_18 := (hk1568 18 rfl).trans e1564_18
        have e1568_19 := (hk1568 19 rfl).trans e1564_19
        obtain ⟨(e1568_47 : a1568.eval (.tmp 47) = .bool (decide (0 ≤ (ml r1566 r1567)))), -⟩ := hf1568 [7] rfl
        have hX1568 := es_ hE1564 hE1568
        have b1568_Al1 := RdO.evo rfl hE1568 b1564_Al1
        have b1568_g804 := be_ hE1568 b1564_g804
        have b1568_g808 := be_ hE1568 b1564_g808
        have b1568_g806 := be_ hE1568 b1564_g806
        have b1568_A1559 := re_ hE1568 b1564_A1559
        have b1568_g1537 := be_ hE1568 b1564_g1537
        have b1568_g1543 := be_ hE1568 b1564_g1543
        refine fl_cond e1568_47 hs (fun c1569 hs => ?_) (fun c1569 hs => ?_)
        · refine fl_exit ?_
          refine hp1565 _ _ _ rfl ?_
          exact (K1533 _ _ (rl [(1562, 1532)] own1568) _ A1559 c1560 hd1568 hz1568 e1568_0 e1568_5 e1568_7 e1568_9 e1568_10 e1568_17 e1568_18 e1568_19 (Evo.rl_ hX1568 (fun _ => Nat.le_refl 0) rfl) (RdO.rl_ (mm := [(1562, 1532)]) b1568_Al1) (BlkO.rl_ (mm := [(1562, 1532)]) b1568_g804) (BlkO.rl_ (mm := [(1562, 1532)]) b1568_g808) (BlkO.rl_ (mm := [(1562, 1532)]) b1568_g806) (RwO.rl_ (mm := [(1562, 1532)]) b1568_A1559) hs).2
        refine fl_skip ?_
        refine hn1565 _ _ ?_
        obtain ⟨r1570, hr1570, hs⟩ := obind hs
        refine rg_plain_seq (n := 63) (rs := []) (own0 := own1568) (K := [1572]) (bs := [0, 0, 0, 0, 15, 31, 63, 63, 0, 383, 1023]) (ds := [⟨[], [12], [], Fct.val 49 (.agg #[.int .i64 x1536.1, .int .i64 x1536.2])⟩, ⟨[], [13], [], Fct.val 50 (.agg #[.int .i64 x1542.1, .int .i64 x1542.2])⟩, ⟨[], [5], [], Fct.val 51 (.int .i64 c2)⟩, ⟨[], [7], [], Fct.val 52 (.bool y4)⟩, ⟨[0, 1, 2, 3], [], [], Fct.val 53 (.tuple #[.agg #[.int .i64 r1570.1.1, .int .i64 r1570.1.2], .bool r1570.2])⟩, ⟨[4], [], [], Fct.val 48 (.tuple #[.agg #[.int .i64 r1570.1.1, .int .i64 r1570.1.2], .bool r1570.2])⟩, ⟨[5], [], [], Fct.val 54 (.agg #[.int .i64 r1570.1.1, .int .i64 r1570.1.2])⟩, ⟨[5], [], [], Fct.val 55 (.bool r1570.2)⟩, ⟨[], [], [], Fct.blk 1572 14 (fun g => .pointer (some ⟨g, 0, none⟩)) 25 #[.int .i64 0, .int .i64 0]⟩, ⟨[8, 6], [], [1572], Fct.blk 1573 14 (fun g => .pointer (some ⟨g, 0, none⟩)) 25 #[.int .i64 r1570.1.1, .int .i64 r1570.1.2]⟩, ⟨[7], [], [], Fct.val 15 (.bool r1570.2)⟩]) (by kernel_rfl) hz1568 hd1568 nm_ ?_ ?_
        · refine sc (fun _ _ _ _ s hE => px (or_load (l := [.int .i64 x1536.1, .int .i64 x1536.2]) ta25 (s.1.trans e1568_12) (Blk.cellsFrom (be_ hE b1568_g1537).2 0 rfl) rfl)) ?_
          refine sc (fun _ _ _ _ s hE => px (or_load (l := [.int .i64 x1542.1, .int .i64 x1542.2]) ta25 (s.1.trans e1568_13) (Blk.cellsFrom (be_ hE b1568_g1543).2 0 rfl) rfl)) ?_
          refine sc (fun _ _ _ _ s hE => px (or_load1 to3 (s.1.trans e1568_5) (Blk.at_ (be_ hE b1568_g804).2 0 rfl))) ?_
          refine sc (fun _ _ _ _ s hE => px (or_load1 to4 (s.1.trans e1568_7) (Blk.at_ (be_ hE b1568_g808).2 0 rfl))) ?_
          refine sc (fun _ _ _ f _ _ => px (or_call cf23 (args4 f.1 f.2.1 f.2.2.1 f.2.2.2.1) (polyclip_cut_w _ x1536 x1542 c2 y4  r1570 hr1570) post_val)) ?_
          refine sc (fun _ _ _ f _ _ => px (or_move f.1)) ?_
          refine sc (fun _ _ _ f _ _ => px (or_k [(48, .tuple #[.agg #[.int .i64 r1570.1.1, .int .i64 r1570.1.2], .bool r1570.2])] rfl rfl ⟨f.1, trivial⟩ (by kernel_rfl))) ?_
          refine sc (fun _ _ _ f _ _ => px (or_k [(48, .tuple #[.agg #[.int .i64 r1570.1.1, .int .i64 r1570.1.2], .bool r1570.2])] rfl rfl ⟨f.1, trivial⟩ (by kernel_rfl))) ?_
          refine sc (fun _ _ _ _ _ _ => px (or_new [] rfl rfl trivial (by kernel_rfl))) ?_
          refine sc (fun own a wx hf hsl hE => ?_) ?_
          · obtain ⟨⟨g1571, f_14, b_g1571⟩, f_54, -⟩ := hf
            exact px (or_store (l := #[.int .i64 r1570.1.1, .int .i64 r1570.1.2]) (lab := 1572) (lab2 := 1573) ts25 f_14 f_54 b_g1571 (by simp) (by kernel_rfl) (mem_of rfl) (by decide) (by kernel_rfl) (fun own' a' w' ha hb => ⟨_, (ha 14).trans f_14, hb⟩))
          refine sc (fun _ _ _ f _ _ => px (or_assign f.1)) ?_
          exact steps_nil
        intro own1574 a1574 w1574 hd1574 hz1574 hk1574 hf1574 hE1574
        have e1574_0 := (hk1574 0 rfl).trans e1568_0
        have e1574_5 := (hk1574 5 rfl).trans e1568_5
        have e1574_7 := (hk1574 7 rfl).trans e1568_7
        have e1574_9 := (hk1574 9 rfl).trans e1568_9
        have e1574_10 := (hk1574 10 rfl).trans e1568_10
        have e1574_17 := (hk1574 17 rfl).trans e1568_17
        have e1574_18 := (hk1574 18 rfl).trans e1568_18
        have e1574_19 := (hk1574 19 rfl).trans e1568_19
        obtain ⟨⟨g1571, (e1574_14 : a1574.eval (.tmp 14) = .pointer (some ⟨g1571, 0, none⟩)), (b1574_g1571 : BlkO own1574 1573 w1574 g1571 25 #[.int .i64 r1570.1.1, .int .i64 r1570.1.2])⟩, (e1574_15 : a1574.eval (.tmp 15) = .bool r1570.2), -⟩ := hf1574 [9, 10] rfl
        have hX1574 := es_ hX1568 hE1574
        have b1574_Al1 := RdO.evo rfl hE1574 b1568_Al1
        have b1574_g804 := be_ hE1574 b1568_g804
        have b1574_g808 := be_ hE1574 b1568_g808
        have b1574_g806 := be_ hE1574 b1568_g806
        have b1574_A1559 := re_ hE1574 b1568_A1559
        refine rg0_seq 63 own1574 (bz 1) [⟨[], [15], [], Fct.val 56 (.bool r1570.2)⟩] hz1574 hd1574 (by kernel_rfl) ?_ ?_
        · refine sc (fun _ _ _ _ s _ => px (or_move (s.1.trans e1574_15))) ?_
          exact steps_nil
        intro own1575 a1575 w1575 hd1575 hz1575 hk1575 hf1575 hE1575
        have e1575_0 := (hk1575 0 rfl).trans e1574_0
        have e1575_5 := (hk1575 5 rfl).trans e1574_5
        have e1575_7 := (hk1575 7 rfl).trans e1574_7
        have e1575_9 := (hk1575 9 rfl).trans e1574_9
        have e1575_10 := (hk1575 10 rfl).trans e1574_10
        have e1575_14 := (hk1575 14 rfl).trans e1574_14
        have e1575_17 := (hk1575 17 rfl).trans e1574_17
        have e1575_18 := (hk1575 18 rfl).trans e1574_18
        have e1575_19 := (hk1575 19 rfl).trans e1574_19
        obtain ⟨(e1575_56 : a1575.eval (.tmp 56) = .bool r1570.2), -⟩ := hf1575 [0] rfl
        have hX1575 := es_ hX1574 hE1575
        have b1575_Al1 := RdO.evo rfl hE1575 b1574_Al1
        have b1575_g804 := be_ hE1575 b1574_g804
        have b1575_g808 := be_ hE1575 b1574_g808
        have b1575_g806 := be_ hE1575 b1574_g806
        have b1575_A1559 := re_ hE1575 b1574_A1559
        have b1575_g1571 := be_ hE1575 b1574_g1571
        refine fl_cond e1575_56 hs (fun c1576 hs => ?_) (fun c1576 hs => ?_)
        · obtain ⟨x1581, hx1581, hs⟩ := obind hs
          refine rg_plain (n := 63) (rs := [Fct.rowAt 1562 [] 25 R25 A1559 c1560 out1561]) (own0 := own1575) (K := [1562]) (bs := [0, 0, 2, 7, 15]) (ds := [⟨[], [10], [], Fct.val 57 (.slice A1559 out1561.length c1560)⟩, ⟨[], [14], [], Fct.val 58 (.agg #[.int .i64 r1570.1.1, .int .i64 r1570.1.2])⟩, ⟨[1], [], [], Fct.row 1580 [] 59 25 R25 [r1570.1]⟩, ⟨[0, 2, 5], [], [1562], Fct.row 1582 [] 60 25 R25 x1581⟩, ⟨[3], [], [], Fct.rel [10, 60] (fun l => ∀ (A1583 : Option Addr) (cA1583 : Nat), l.getD 1 undef = .slice A1583 x1581.length cA1583 → l.getD 0 undef = .slice A1583 x1581.length cA1583)⟩]) (by kernel_rfl) hz1575 hd1575 (by simp only [List.forall_mem_cons]; exact ⟨b1575_A1559, fun _ h => nomatch h⟩) ?_ ?_
          · refine sc (fun _ _ _ _ s _ => px (or_move (s.1.trans e1575_10))) ?_
            refine sc (fun _ _ _ _ s hE => px (or_load (l := [.int .i64 r1570.1.1, .int .i64 r1570.1.2]) ta25 (s.1.trans e1575_14) (Blk.cellsFrom (be_ hE b1575_g1571).2 0 rfl) rfl)) ?_
            refine sc (fun _ _ _ f _ _ => px (or_lit (lab := 1580) (e := 25) (cs := #[.int .i64 r1570.1.1, .int .i64 r1570.1.2]) (F := E25) (or_new [(58, .agg #[.int .i64 r1570.1.1, .int .i64 r1570.1.2])] rfl rfl ⟨f.1, trivial⟩ (by kernel_rfl)) rfl rfl (show 1 ≤ maxLen by decide))) ?_
            refine sc (fun own a wx hf hsl hE => ?_) ?_
            · obtain ⟨f_57, ⟨⟨A1579, cA1579⟩, f_59, b_A1579⟩, b_A1559, -⟩ := hf
              exact px (or_append (R := R25) (lab := 1562) (lab2 := 1582) (L := []) (L3 := []) tp22 f_57 b_A1559 (by decide) f_59 (RwO.rd b_A1579) hx1581 (by decide) (by decide) (mem_of rfl) (.inl (Rep.fl_flat _)))
            refine sc (fun own a wx hf hsl hE => ?_) ?_
            · obtain ⟨⟨⟨A1583, cA1583⟩, (f_60 : a.eval (.tmp 60) = .slice A1583 x1581.length cA1583), b_A1583⟩, -⟩ := hf
              exact px (or_mono (f := Fct.val 10 (.slice A1583 x1581.length cA1583)) (or_assign f_60) (fun own' a' w' v' hp h => fun _ _ h0' => by cases (f_60.symm.trans ((hp.2 60 (by decide)).symm.trans h0')); exact h))
            exact steps_nil
          intro own1584 a1584 w1584 hd1584 hz1584 hk1584 hf1584 hE1584
          have e1584_0 := (hk1584 0 rfl).trans e1575_0
          have e1584_5 := (hk1584 5 rfl).trans e1575_5
          have e1584_7 := (hk1584 7 rfl).trans e1575_7
          have e1584_9 := (hk1584 9 rfl).trans e1575_9
          have e1584_17 := (hk1584 17 rfl).trans e1575_17
          have e1584_18 := (hk1584 18 rfl).trans e1575_18
          have e1584_19 := (hk1584 19 rfl).trans e1575_19
          obtain ⟨⟨⟨A1583, cA1583⟩, (f_60 : a1584.eval (.tmp 60) = .slice A1583 x1581.length cA1583), (b1584_A1583 : RwO own1584 1582 [] w1584 25 R25 A1583 cA1583 x1581)⟩, (q_10 : ∀ (A1583 : Option Addr) (cA1583 : Nat), a1584.eval (.tmp 60) = .slice A1583 x1581.length cA1583 → a1584.eval (.tmp 10) = .slice A1583 x1581.length cA1583), -⟩ := hf1584 [3, 4] rfl
          have e1584_10 := q_10 _ _ f_60
          have hX1584 := es_ hX1575 hE1584
          have b1584_Al1 := RdO.evo rfl hE1584 b1575_Al1
          have b1584_g804 := be_ hE1584 b1575_g804
          have b1584_g808 := be_ hE1584 b1575_g808
          have b1584_g806 := be_ hE1584 b1575_g806
          exact (K1533 _ _ (rl [(1582, 1532)] own1584) _ A1583 cA1583 hd1584 hz1584 e1584_0 e1584_5 e1584_7 e1584_9 e1584_10 e1584_17 e1584_18 e1584_19 (Evo.rl_ hX1584 (fun _ => Nat.le_refl 0) rfl) (RdO.rl_ (mm := [(1582, 1532)]) b1584_Al1) (BlkO.rl_ (mm := [(1582, 1532)]) b1584_g804) (BlkO.rl_ (mm := [(1582, 1532)]) b1584_g808) (BlkO.rl_ (mm := [(1582, 1532)]) b1584_g806) (RwO.rl_ (mm := [(1582, 1532)]) b1584_A1583) hs).1
        refine fl_skip ?_
        exact (K1533 _ _ (rl [(1562, 1532)] own1575) _ A1559 c1560 hd1575 hz1575 e1575_0 e1575_5 e1575_7 e1575_9 e1575_10 e1575_17 e1575_18 e1575_19 (Evo.rl_ hX1575 (fun _ => Nat.le_refl 0) rfl) (RdO.rl_ (mm := [(1562, 1532)]) b1575_Al1) (BlkO.rl_ (mm := [(1562, 1532)]) b1575_g804) (BlkO.rl_ (mm := [(1562, 1532)]) b1575_g808) (BlkO.rl_ (mm := [(1562, 1532)]) b1575_g806) (RwO.rl_ (mm := [(1562, 1532)]) b1575_A1559) hs).1
      obtain ⟨r1585, hr1585, hs⟩ := obind hs
      refine rg0_seq 63 own1546 [0, 0, 3, 7] [⟨[], [9], [], Fct.val 32 (.func (.func 22) #[] #[.pointer (some ⟨g808, 0, none⟩), .pointer (some ⟨g804, 0, none⟩), .pointer (some ⟨g806, 0, none⟩)])⟩, ⟨[], [12], [], Fct.val 33 (.agg #[.int .i64 x1536.1, .int .i64 x1536.2])⟩, ⟨[0, 1], [], [], Fct.val 34 (.int .i64 r1585)⟩, ⟨[2], [], [], Fct.val 35 (.bool (decide (0 ≤ r1585)))⟩] hz1546 hd1546 (by kernel_rfl) ?_ ?_
      · refine sc (fun _ _ _ _ s _ => px (or_move (s.1.trans e1546_9))) ?_
        refine sc (fun _ _ _ _ s hE => px (or_load (l := [.int .i64 x1536.1, .int .i64 x1536.2]) ta25 (s.1.trans e1546_12) (Blk.cellsFrom (be_ hE b1546_g1537).2 0 rfl) rfl)) ?_
        refine sc (fun _ _ _ f _ hE => px (or_callf cf22 f.1 (args1 f.2.1) rfl (polyclip_Half_1_w _ x1536 y4 g808 4 c2 g804 3 up3 g806 4 (BlkO.zero_ (be_ hE b1546_g808)) (BlkO.zero_ (be_ hE b1546_g804)) (BlkO.zero_ (be_ hE b1546_g806)) r1585 hr1585) post_val)) ?_
        refine sc (fun _ _ _ f _ _ => px (or_geq f.1 rfl rfl)) ?_
        exact steps_nil
      intro own1586 a1586 w1586 hd1586 hz1586 hk1586 hf1586 hE1586
      have e1586_0 := (hk1586 0 rfl).trans e1546_0
      have e1586_5 := (hk1586 5 rfl).trans e1546_5
      have e1586_7 := (hk1586 7 rfl).trans e1546_7
      have e1586_9 := (hk1586 9 rfl).trans e1546_9
      have e1586_10 := (hk1586 10 rfl).trans e1546_10
      have e1586_12 := (hk1586 12 rfl).trans e1546_12
      have e1586_13 := (hk1586 13 rfl).trans e1546_13
      have e1586_17 := (hk1586 17 rfl).trans e1546_17
      have e1586_18 := (hk1586 18 rfl).trans e1546_18
      have e1586_19 := (hk1586 19 rfl).trans e1546_19
      obtain ⟨(e1586_35 : a1586.eval (.tmp 35) = .bool (decide (0 ≤ r1585))), -⟩ := hf1586 [3] rfl
      have hX1586 := es_ hX1546 hE1586
      have b1586_Al1 := RdO.evo rfl hE1586 b1546_Al1
      have b1586_g804 := be_ hE1586 b1546_g804
      have b1586_g808 := be_ hE1586 b1546_g808
      have b1586_g806 := be_ hE1586 b1546_g806
      have b1586_A1070 := re_ hE1586 b1546_A1070
      have b1586_g1537 := be_ hE1586 b1546_g1537
      have b1586_g1543 := be_ hE1586 b1546_g1543
      refine fl_cond e1586_35 hs (fun c1587 hs => ?_) (fun c1587 hs => ?_)
      · obtain ⟨x1592, hx1592, hs⟩ := obind hs
        refine rg_plain (n := 63) (rs := [Fct.rowAt 1073 [] 25 R25 A1070 c1071 out1072]) (own0 := own1586) (K := [1073]) (bs := [0, 0, 2, 7, 15]) (ds := [⟨[], [10], [], Fct.val 36 (.slice A1070 out1072.length c1071)⟩, ⟨[], [12], [], Fct.val 37 (.agg #[.int .i64 x1536.1, .int .i64 x1536.2])⟩, ⟨[1], [], [], Fct.row 1591 [] 38 25 R25 [x1536]⟩, ⟨[0, 2, 5], [], [1073], Fct.row 1593 [] 39 25 R25 x1592⟩, ⟨[3], [], [], Fct.rel [10, 39] (fun l => ∀ (A1594 : Option Addr) (cA1594 : Nat), l.getD 1 undef = .slice A1594 x1592.length cA1594 → l.getD 0 undef = .slice A1594 x1592.length cA1594)⟩]) (by kernel_rfl) hz1586 hd1586 (by simp only [List.forall_mem_cons]; exact ⟨b1586_A1070, fun _ h => nomatch h⟩) ?_ ?_
        · refine sc (fun _ _ _ _ s _ => px (or_move (s.1.trans e1586_10))) ?_
          refine sc (fun _ _ _ _ s hE => px (or_load (l := [.int .i64 x1536.1, .int .i64 x1536.2]) ta25 (s.1.trans e1586_12) (Blk.cellsFrom (be_ hE b1586_g1537).2 0 rfl) rfl)) ?_
          refine sc (fun _ _ _ f _ _ => px (or_lit (lab := 1591) (e := 25) (cs := #[.int .i64 x1536.1, .int .i64 x1536.2]) (F := E25) (or_new [(37, .agg #[.int .i64 x1536.1, .int .i64 x1536.2])] rfl rfl ⟨f.1, trivial⟩ (by kernel_rfl)) rfl rfl (show 1 ≤ maxLen by decide))) ?_
          refine sc (fun own a wx hf hsl hE => ?_) ?_
          · obtain ⟨f_36, ⟨⟨A1590, cA1590⟩, f_38, b_A1590⟩, b_A1070, -⟩ := hf
            exact px (or_append (R := R25) (lab := 1073) (lab2 := 1593) (L := []) (L3 := []) tp22 f_36 b_A1070 (by decide) f_38 (RwO.rd b_A1590) hx1592 (by decide) (by decide) (mem_of rfl) (.inl (Rep.fl_flat _)))
          refine sc (fun own a wx hf hsl hE => ?_) ?_
          · obtain ⟨⟨⟨A1594, cA1594⟩, (f_39 : a.eval (.tmp 39) = .slice A1594 x1592.length cA1594), b_A1594⟩, -⟩ := hf
            exact px (or_mono (f := Fct.val 10 (.slice A1594 x1592.length cA1594)) (or_assign f_39) (fun own' a' w' v' hp h => fun _ _ h0' => by cases (f_39.symm.trans ((hp.2 39 (by decide)).symm.trans h0')); exact h))
          exact steps_nil
        intro own1595 a1595 w1595 hd1595 hz1595 hk1595 hf1595 hE1595
        have e1595_0 := (hk1595 0 rfl).trans e1586_0
        have e1595_5 := (hk1595 5 rfl).trans e1586_5
        have e1595_7 := (hk1595 7 rfl).trans e1586_7
        have e1595_9 := (hk1595 9 rfl).trans e1586_9
        have e1595_12 := (hk1595 12 rfl).trans e1586_12
        have e1595_13 := (hk1595 13 rfl).trans e1586_13
        have e1595_17 := (hk1595 17 rfl).trans e1586_17
        have e1595_18 := (hk1595 18 rfl).trans e1586_18
        have e1595_19 := (hk1595 19 rfl).trans e1586_19
        obtain ⟨⟨⟨A1594, cA1594⟩, (f_39 : a1595.eval (.tmp 39) = .slice A1594 x1592.length cA1594), (b1595_A1594 : RwO own1595 1593 [] w1595 25 R25 A1594 cA1594 x1592)⟩, (q_10 : ∀ (A1594 : Option Addr) (cA1594 : Nat), a1595.eval (.tmp 39) = .slice A1594 x1592.length cA1594 → a1595.eval (.tmp 10) = .slice A1594 x1592.length cA1594), -⟩ := hf1595 [3, 4] rfl
        have e1595_10 := q_10 _ _ f_39
        have hX1595 := es_ hX1586 hE1595
        have b1595_Al1 := RdO.evo rfl hE1595 b1586_Al1
        have b1595_g804 := be_ hE1595 b1586_g804
        have b1595_g808 := be_ hE1595 b1586_g808
        have b1595_g806 := be_ hE1595 b1586_g806
        have b1595_g1537 := be_ hE1595 b1586_g1537
        have b1595_g1543 := be_ hE1595 b1586_g1543
        exact (K1563 _ _ (rl [(1593, 1562)] own1595) _ A1594 cA1594 hd1595 hz1595 e1595_0 e1595_5 e1595_7 e1595_9 e1595_10 e1595_12 e1595_13 e1595_17 e1595_18 e1595_19 (Evo.rl_ hX1595 (fun _ => Nat.le_refl 0) rfl) (RdO.rl_ (mm := [(1593, 1562)]) b1595_Al1) (BlkO.rl_ (mm := [(1593, 1562)]) b1595_g804) (BlkO.rl_ (mm := [(1593, 1562)]) b1595_g808) (BlkO.rl_ (mm := [(1593, 1562)]) b1595_g806) (RwO.rl_ (mm := [(1593, 1562)]) b1595_A1594) (BlkO.rl_ (mm := [(1593, 1562)]) b1595_g1537) (BlkO.rl_ (mm := [(1593, 1562)]) b1595_g1543) hs)
      refine fl_skip ?_
      exact (K1563 _ _ (rl [(1073, 1562)] own1586) _ A1070 c1071 hd1586 hz1586 e1586_0 e1586_5 e1586_7 e1586_9 e1586_10 e1586_12 e1586_13 e1586_17 e1586_18 e1586_19 (Evo.rl_ hX1586 (fun _ => Nat.le_refl 0) rfl) (RdO.rl_ (mm := [(1073, 1562)]) b1586_Al1) (BlkO.rl_ (mm := [(1073, 1562)]) b1586_g804) (BlkO.rl_ (mm := [(1073, 1562)]) b1586_g808) (BlkO.rl_ (mm := [(1073, 1562)]) b1586_g806) (RwO.rl_ (mm := [(1073, 1562)]) b1586_A1070) (BlkO.rl_ (mm := [(1073, 1562)]) b1586_g1537) (BlkO.rl_ (mm := [(1073, 1562)]) b1586_g1543) hs)
    refine fl_exit ?_
    refine hp1338 _ _ _ rfl ?_
    replace hs := hz1335 _ hs
    refine hp1335 _ _ _ rfl ?_
    refine hx817 _ _ ?_
    refine hn815 _ _ ?_
    refine rg0_seq 63 own1337 (bz 2) [⟨[], [10], [], Fct.val 62 (.slice A1070 out1072.length c1071)⟩, ⟨[0], [], [], Fct.val 8 (.slice A1070 out1072.length c1071)⟩] hz1337 hd1337 (by kernel_rfl) ?_ ?_
    · refine sc (fun _ _ _ _ s _ => px (or_move (s.1.trans e1337_10))) ?_
      refine sc (fun _ _ _ f _ _ => px (or_assign f.1)) ?_
      exact steps_nil
    intro own1596 a1596 w1596 hd1596 hz1596 hk1596 hf1596 hE1596
    obtain ⟨(e1596_8 : a1596.eval (.tmp 8) = .slice A1070 out1072.length c1071), -⟩ := hf1596 [1] rfl
    have hX1596 := es_ hX1337 hE1596
    have b1596_A1070 := re_ hE1596 b1337_A1070
    refine fl_ret ?_
    refine hp811.leaves _ _ _ rfl ?_
    obtain rfl := (osome hs).symm
    exact hret _ _ _ _ (.inl rfl) hd1596 (results1_ rfl (RVal.tmp_ e1596_8)) ⟨(rl [(1073, 1)] own1596), (A1070, c1071), rfl, (Evo.rl_ hX1596 (fun _ => Nat.le_refl 0) rfl), (RwO.rl_ (mm := [(1073, 1)]) b1596_A1070)⟩
theorem ring_edges_w (w : World) (l1 : List (Int × Int)) (Al1 : Option Addr) (cl1 : Nat) (hl1 : RdO (fun _ => 0) [0] w R25 Al1 cl1 l1) (r : Unit) (hs : ring_edges l1 = some r) :
    Calls Try.prog 25 #[.slice Al1 l1.length cl1] w fun e w' => ∃ (own' : Own) (x : Option Addr × Nat), e = .returned (.func (.func 39) #[] #[.pointer (some ⟨x.2, 0, none⟩)]) ∧ Evo [] (fun _ => 0) own' w w' ∧ BlkO own' 1 w' x.2 22 #[.slice Al1 l1.length cl1] := by
  refine fl_enter (n := 4) rfl rfl rfl (Nat.le_of_ble_eq_true rfl) ?_
  intro a0 Q hd0 hz0 harg hret
  have ha0 := harg 0 _ rfl
  clear harg
  have hE0 : Evo [] (fun _ => 0) (fun _ => 0) w w := Evo.refl _ _ _
  refine rg0_seq 4 (fun _ => 0) [0, 0] [⟨[], [0], [], Fct.blk 16 1 (fun g => .pointer (some ⟨g, 0, none⟩)) 22 #[.slice Al1 l1.length cl1]⟩, ⟨[], [], [], Fct.val 2 (.nilFunc)⟩] hz0 hd0 (by kernel_rfl) ?_ ?_
  · refine sc (fun _ _ _ _ s _ => px (or_new [(0, .slice Al1 l1.length cl1)] rfl rfl ⟨(s.1.trans ha0), trivial⟩ (by kernel_rfl))) ?_
    refine sc (fun _ _ _ _ _ _ => px (or_assign rfl)) ?_
    exact steps_nil
  intro own17 a17 w17 hd17 hz17 hk17 hf17 hE17
  obtain ⟨⟨g15, (e17_1 : a17.eval (.tmp 1) = .pointer (some ⟨g15, 0, none⟩)), (b17_g15 : BlkO own17 16 w17 g15 22 #[.slice Al1 l1.length cl1])⟩, -⟩ := hf17 [0] rfl
  have hX17 := es_ hE0 hE17
  have b17_Al1 := RdO.evo rfl hE17 hl1
  refine rg0_seq 4 own17 (bz 2) [⟨[], [1], [], Fct.val 3 (.func (.func 39) #[] #[.pointer (some ⟨g15, 0, none⟩)])⟩, ⟨[0], [], [], Fct.val 2 (.func (.func 39) #[] #[.pointer (some ⟨g15, 0, none⟩)])⟩] hz17 hd17 (by kernel_rfl) ?_ ?_
  · refine sc (fun _ _ _ _ s _ => px (or_k [(1, .pointer (some ⟨g15, 0, none⟩))] rfl rfl ⟨(s.1.trans e17_1), trivial⟩ (by kernel_rfl))) ?_
    refine sc (fun _ _ _ f _ _ => px (or_assign f.1)) ?_
    exact steps_nil
  intro own18 a18 w18 hd18 hz18 hk18 hf18 hE18
  obtain ⟨(e18_2 : a18.eval (.tmp 2) = .func (.func 39) #[] #[.pointer (some ⟨g15, 0, none⟩)]), -⟩ := hf18 [1] rfl
  have hX18 := es_ hX17 hE18
  have b18_Al1 := RdO.evo rfl hE18 b17_Al1
  have b18_g15 := be_ hE18 b17_g15
  refine fl_ret ?_
  obtain rfl := osome hs
  exact hret _ _ _ _ (.inl rfl) hd18 (results1_ rfl (RVal.tmp_ e18_2)) ⟨(rl [(16, 1)] own18), (none, g15), rfl, (Evo.rl_ hX18 (fun _ => Nat.le_refl 0) rfl), (BlkO.rl_ (mm := [(16, 1)]) b18_g15)⟩
theorem exact_Cross_w (w : World) (x1 : Int × Int) (b2 : Int × Int) (c3 : Int × Int) (r : Int) (hs : exact_Cross x1 b2 c3 = some r) :
    Calls Try.prog 26 #[.agg #[.int .i64 x1.1, .int .i64 x1.2], .agg #[.int .i64 b2.1, .int .i64 b2.2], .agg #[.int .i64 c3.1, .int .i64 c3.2]] w fun e w' => ∃ own' : Own, e = .returned (.int .i64 r) ∧ Evo [] (fun _ => 0) own' w w' := by
  refine fl_enter (n := 36) rfl rfl rfl (Nat.le_of_ble_eq_true rfl) ?_
  intro a0 Q hd0 hz0 harg hret
  have ha0 := harg 0 _ rfl
  have ha1 := harg 1 _ rfl
  have ha2 := harg 2 _ rfl
  clear harg
  have hE0 : Evo [] (fun _ => 0) (fun _ => 0) w w := Evo.refl _ _ _
  refine rg0_seq 36 (fun _ => 0) [0, 0, 0, 0] [⟨[], [0], [], Fct.blk 28 3 (fun g => .pointer (some ⟨g, 0, none⟩)) 25 #[.int .i64 x1.1, .int .i64 x1.2]⟩, ⟨[], [1], [], Fct.blk 30 4 (fun g => .pointer (some ⟨g, 0, none⟩)) 25 #[.int .i64 b2.1, .int .i64 b2.2]⟩, ⟨[], [2], [], Fct.blk 32 5 (fun g => .pointer (some ⟨g, 0, none⟩)) 25 #[.int .i64 c3.1, .int .i64 c3.2]⟩, ⟨[], [], [], Fct.val 6 (.int .i64 0)⟩] hz0 hd0 (by kernel_rfl) ?_ ?_
  · refine sc (fun _ _ _ _ s _ => px (or_new [(0, .agg #[.int .i64 x1.1, .int .i64 x1.2])] rfl rfl ⟨(s.1.trans ha0), trivial⟩ (by kernel_rfl))) ?_
    refine sc (fun _ _ _ _ s _ => px (or_new [(1, .agg #[.int .i64 b2.1, .int .i64 b2.2])] rfl rfl ⟨(s.1.trans ha1), trivial⟩ (by kernel_rfl))) ?_
    refine sc (fun _ _ _ _ s _ => px (or_new [(2, .agg #[.int .i64 c3.1, .int .i64 c3.2])] rfl rfl ⟨(s.1.trans ha2), trivial⟩ (by kernel_rfl))) ?_
    refine sc (fun _ _ _ _ _ _ => px (or_assign rfl)) ?_
    exact steps_nil
  intro own33 a33 w33 hd33 hz33 hk33 hf33 hE33
  obtain ⟨⟨g27, (e33_3 : a33.eval (.tmp 3) = .pointer (some ⟨g27, 0, none⟩)), (b33_g27 : BlkO own33 28 w33 g27 25 #[.int .i64 x1.1, .int .i64 x1.2])⟩, ⟨g29, (e33_4 : a33.eval (.tmp 4) = .pointer (some ⟨g29, 0, none⟩)), (b33_g29 : BlkO own33 30 w33 g29 25 #[.int .i64 b2.1, .int .i64 b2.2])⟩, ⟨g31, (e33_5 : a33.eval (.tmp 5) = .pointer (some ⟨g31, 0, none⟩)), (b33_g31 : BlkO own33 32 w33 g31 25 #[.int .i64 c3.1, .int .i64 c3.2])⟩, -⟩ := hf33 [0, 1, 2] rfl
  have hX33 := es_ hE0 hE33
  refine fl_seq (fun Q34 hn34 hp34 => ?_)
  obtain ⟨r37, hr37, hs⟩ := obind hs
  refine rg0_seq 36 own33 [0, 0, 0, 7, 15, 31] [⟨[], [3], [], Fct.val 7 (.agg #[.int .i64 x1.1, .int .i64 x1.2])⟩, ⟨[], [4], [], Fct.val 8 (.agg #[.int .i64 b2.1, .int .i64 b2.2])⟩, ⟨[], [5], [], Fct.val 9 (.agg #[.int .i64 c3.1, .int .i64 c3.2])⟩, ⟨[0, 1, 2], [], [], Fct.row 36 [] 10 25 R25 [x1, b2, c3]⟩, ⟨[3], [], [], Fct.val 11 (.bool r37)⟩, ⟨[4], [], [], Fct.val 12 (.bool (!r37))⟩] hz33 hd33 (by kernel_rfl) ?_ ?_
  · refine sc (fun _ _ _ _ s hE => px (or_load (l := [.int .i64 x1.1, .int .i64 x1.2]) ta25 (s.1.trans e33_3) (Blk.cellsFrom (be_ hE b33_g27).2 0 rfl) rfl)) ?_
    refine sc (fun _ _ _ _ s hE => px (or_load (l := [.int .i64 b2.1, .int .i64 b2.2]) ta25 (s.1.trans e33_4) (Blk.cellsFrom (be_ hE b33_g29).2 0 rfl) rfl)) ?_
    refine sc (fun _ _ _ _ s hE => px (or_load (l := [.int .i64 c3.1, .int .i64 c3.2]) ta25 (s.1.trans e33_5) (Blk.cellsFrom (be_ hE b33_g31).2 0 rfl) rfl)) ?_
    refine sc (fun _ _ _ f _ _ => px (or_lit (lab := 36) (e := 25) (cs := #[.int .i64 x1.1, .int .i64 x1.2, .int .i64 b2.1, .int .i64 b2.2, .int .i64 c3.1, .int .i64 c3.2]) (F := E25) (or_new [(7, .agg #[.int .i64 x1.1, .int .i64 x1.2]), (8, .agg #[.int .i64 b2.1, .int .i64 b2.2]), (9, .agg #[.int .i64 c3.1, .int .i64 c3.2])] rfl rfl ⟨f.1, f.2.1, f.2.2.1, trivial⟩ (by kernel_rfl)) rfl rfl (show 3 ≤ maxLen by decide))) ?_
    refine sc (fun own a wx hf hsl hE => ?_) ?_
    · obtain ⟨⟨⟨A35, cA35⟩, f_10, b_A35⟩, -⟩ := hf
      exact px (or_call cf24 (args1 f_10) (exact_Right_w _ [x1, b2, c3] A35 cA35 (RdO.zero (RwO.rd b_A35)) r37 hr37) post_val)
    refine sc (fun _ _ _ f _ _ => px (or_not f.1 rfl)) ?_
    exact steps_nil
  intro own38 a38 w38 hd38 hz38 hk38 hf38 hE38
  have e38_3 := (hk38 3 rfl).trans e33_3
  have e38_4 := (hk38 4 rfl).trans e33_4
  have e38_5 := (hk38 5 rfl).trans e33_5
  obtain ⟨(e38_12 : a38.eval (.tmp 12) = .bool (!r37)), -⟩ := hf38 [5] rfl
  have hX38 := es_ hX33 hE38
  have b38_g27 := be_ hE38 b33_g27
  have b38_g29 := be_ hE38 b33_g29
  have b38_g31 := be_ hE38 b33_g31
  refine fl_cond e38_12 hs (fun c39 hs => ?_) (fun c39 hs => ?_)
  · refine rg0_seq 36 own38 (bz 1) [⟨[], [], [], Fct.val 6 (.int .i64 0)⟩] hz38 hd38 (by kernel_rfl) ?_ ?_
    · refine sc (fun _ _ _ _ _ _ => px (or_assign rfl)) ?_
      exact steps_nil
    intro own40 a40 w40 hd40 hz40 hk40 hf40 hE40
    obtain ⟨(e40_6 : a40.eval (.tmp 6) = .int .i64 0), -⟩ := hf40 [0] rfl
    have hX40 := es_ hX38 hE40
    refine fl_ret ?_
    refine hp34 _ _ _ rfl ?_
    obtain rfl := osome hs
    exact hret _ _ _ _ (.inl rfl) hd40 (results1_ rfl (RVal.tmp_ e40_6)) ⟨own40, rfl, hX40⟩
  refine fl_skip ?_
  refine hn34 _ _ ?_
  obtain ⟨x41, hx41, hs⟩ := obind hs
  refine rg0_seq 36 own38 [0, 1, 0, 4, 15, 0, 32, 0, 128, 480, 1023, 0, 2048, 0, 8192, 30720, 0, 65536, 0, 262144, 983040, 2095104, 4194303, 8388607] [⟨[], [4], [], Fct.val 13 (.pointer (some ⟨g29, 0, none⟩))⟩, ⟨[0], [], [], Fct.val 14 (.int .i64 b2.1)⟩, ⟨[], [3], [], Fct.val 15 (.pointer (some ⟨g27, 0, none⟩))⟩, ⟨[2], [], [], Fct.val 16 (.int .i64 x1.1)⟩, ⟨[1, 3], [], [], Fct.val 17 (.int .i64 (sb b2.1 x1.1))⟩, ⟨[], [5], [], Fct.val 18 (.pointer (some ⟨g31, 1, none⟩))⟩, ⟨[5], [], [], Fct.val 19 (.int .i64 c3.2)⟩, ⟨[], [3], [], Fct.val 20 (.pointer (some ⟨g27, 1, none⟩))⟩, ⟨[7], [], [], Fct.val 21 (.int .i64 x1.2)⟩, ⟨[6, 8], [], [], Fct.val 22 (.int .i64 (sb c3.2 x1.2))⟩, ⟨[4, 9], [], [], Fct.val 23 (.int .i64 (ml (sb b2.1 x1.1) (sb c3.2 x1.2)))⟩, ⟨[], [4], [], Fct.val 24 (.pointer (some ⟨g29, 1, none⟩))⟩, ⟨[11], [], [], Fct.val 25 (.int .i64 b2.2)⟩, ⟨[], [3], [], Fct.val 26 (.pointer (some ⟨g27, 1, none⟩))⟩, ⟨[13], [], [], Fct.val 27 (.int .i64 x1.2)⟩, ⟨[12, 14], [], [], Fct.val 28 (.int .i64 (sb b2.2 x1.2))⟩, ⟨[], [5], [], Fct.val 29 (.pointer (some ⟨g31, 0, none⟩))⟩, ⟨[16], [], [], Fct.val 30 (.int .i64 c3.1)⟩, ⟨[], [3], [], Fct.val 31 (.pointer (some ⟨g27, 0, none⟩))⟩, ⟨[18], [], [], Fct.val 32 (.int .i64 x1.1)⟩, ⟨[17, 19], [], [], Fct.val 33 (.int .i64 (sb c3.1 x1.1))⟩, ⟨[15, 20], [], [], Fct.val 34 (.int .i64 (ml (sb b2.2 x1.2) (sb c3.1 x1.1)))⟩, ⟨[10, 21], [], [], Fct.val 35 (.int .i64 x41)⟩, ⟨[22], [], [], Fct.val 6 (.int .i64 x41)⟩] hz38 hd38 (by kernel_rfl) ?_ ?_
  · refine sc (fun _ _ _ _ s _ => px (or_field fo25_0 (s.1.trans e38_4) (by rfl))) ?_
    refine sc (fun _ _ _ f _ hE => px (or_load1 to3 f.1 (Blk.at_ (be_ hE b38_g29).2 0 rfl))) ?_
    refine sc (fun _ _ _ _ s _ => px (or_field fo25_0 (s.1.trans e38_3) (by rfl))) ?_
    refine sc (fun _ _ _ f _ hE => px (or_load1 to3 f.1 (Blk.at_ (be_ hE b38_g27).2 0 rfl))) ?_
    refine sc (fun _ _ _ f _ _ => px (or_sub f.1 f.2.1 rfl)) ?_
    refine sc (fun _ _ _ _ s _ => px (or_field fo25_1 (s.1.trans e38_5) (by rfl))) ?_
    refine sc (fun _ _ _ f _ hE => px (or_load1 to3 f.1 (Blk.at_ (be_ hE b38_g31).2 1 rfl))) ?_
    refine sc (fun _ _ _ _ s _ => px (or_field fo25_1 (s.1.trans e38_3) (by rfl))) ?_
    refine sc (fun _ _ _ f _ hE => px (or_load1 to3 f.1 (Blk.at_ (be_ hE b38_g27).2 1 rfl))) ?_
    refine sc (fun _ _ _ f _ _ => px (or_sub f.1 f.2.1 rfl)) ?_
    refine sc (fun _ _ _ f _ _ => px (or_mul f.1 f.2.1 rfl)) ?_
    refine sc (fun _ _ _ _ s _ => px (or_field fo25_1 (s.1.trans e38_4) (by rfl))) ?_
    refine sc (fun _ _ _ f _ hE => px (or_load1 to3 f.1 (Blk.at_ (be_ hE b38_g29).2 1 rfl))) ?_
    refine sc (fun _ _ _ _ s _ => px (or_field fo25_1 (s.1.trans e38_3) (by rfl))) ?_
    refine sc (fun _ _ _ f _ hE => px (or_load1 to3 f.1 (Blk.at_ (be_ hE b38_g27).2 1 rfl))) ?_
    refine sc (fun _ _ _ f _ _ => px (or_sub f.1 f.2.1 rfl)) ?_
    refine sc (fun _ _ _ _ s _ => px (or_field fo25_0 (s.1.trans e38_5) (by rfl))) ?_
    refine sc (fun _ _ _ f _ hE => px (or_load1 to3 f.1 (Blk.at_ (be_ hE b38_g31).2 0 rfl))) ?_
    refine sc (fun _ _ _ _ s _ => px (or_field fo25_0 (s.1.trans e38_3) (by rfl))) ?_
    refine sc (fun _ _ _ f _ hE => px (or_load1 to3 f.1 (Blk.at_ (be_ hE b38_g27).2 0 rfl))) ?_
    refine sc (fun _ _ _ f _ _ => px (or_sub f.1 f.2.1 rfl)) ?_
    refine sc (fun _ _ _ f _ _ => px (or_mul f.1 f.2.1 rfl)) ?_
    refine sc (fun _ _ _ f _ _ => px (or_sub f.1 f.2.1 (osome hx41).symm)) ?_
    refine sc (fun _ _ _ f _ _ => px (or_assign f.1)) ?_
    exact steps_nil
  intro own42 a42 w42 hd42 hz42 hk42 hf42 hE42
  obtain ⟨(e42_6 : a42.eval (.tmp 6) = .int .i64 x41), -⟩ := hf42 [23] rfl
  have hX42 := es_ hX38 hE42
  refine fl_ret ?_
  obtain rfl := (osome hs).symm
  exact hret _ _ _ _ (.inl rfl) hd42 (results1_ rfl (RVal.tmp_ e42_6)) ⟨own42, rfl, hX42⟩
theorem ring_edges_1_w (w : World) (own : Own) (Sx : Type) (yy : Sx → ((Int × Int) × (Int × Int)) → Option (Bool × Sx)) (Jx : Sq Sx) (lx : Nat) (sx0 : Sx) (f1 : List (Int × Int)) (gf1 : Nat) (tf1 : TypeId) (Af1_0 : Option Addr) (cf1_0 : Nat) (hown : ∀ b, own b ≤ 1) (hYx : Rounds Try.prog lx (fun (x : (Int × Int) × (Int × Int)) => #[.agg #[.int .i64 x.1.1, .int .i64 x.1.2], .agg #[.int .i64 x.2.1, .int .i64 x.2.2]]) yy Jx) (hJx : SqO Jx own 1 w sx0) (hgf1 : BlkO own 0 w gf1 tf1 #[.slice Af1_0 f1.length cf1_0]) (hAf1_0 : RdO own [0] w R25 Af1_0 cf1_0 f1) (r : Sx) (hs : ring_edges_1 Sx yy sx0 f1 = some r) :
    Calls Try.prog 39 #[.func (.yield lx) #[] #[], .pointer (some ⟨gf1, 0, none⟩)] w fun e w' => ∃ (own' : Own), e = .returned (.tuple #[]) ∧ Evo [1] own own' w w' ∧ SqO Jx own' 1 w' r := by
  refine fl_enter (n := 25) rfl rfl rfl (Nat.le_of_ble_eq_true rfl) ?_
  intro a0 Q hd0 hz0 harg hret
  have ha0 := harg 0 _ rfl
  have ha1 := harg 1 _ rfl
  clear harg
  have hE0 : Evo [1] own own w w := Evo.refl _ _ _
  refine rg0_seq 25 own [0, 1, 0] [⟨[], [1], [], Fct.val 5 (.slice Af1_0 f1.length cf1_0)⟩, ⟨[0], [], [], Fct.val 6 (.int .i64 (f1.length : Int))⟩, ⟨[], [], [], Fct.val 7 (.int .i64 0)⟩] hz0 hd0 (by kernel_rfl) ?_ ?_
  · refine sc (fun _ _ _ _ s hE => px (or_load1 to22 (s.1.trans ha1) (Blk.at_ (be_ hE hgf1).2 0 rfl))) ?_
    refine sc (fun _ _ _ f _ _ => px (or_len tu22 f.1 rfl)) ?_
    refine sc (fun _ _ _ _ _ _ => px (or_move rfl)) ?_
    exact steps_nil
  intro own78 a78 w78 hd78 hz78 hk78 hf78 hE78
  have e78_0 := (hk78 0 rfl).trans ha0
  have e78_1 := (hk78 1 rfl).trans ha1
  obtain ⟨(e78_5 : a78.eval (.tmp 5) = .slice Af1_0 f1.length cf1_0), (e78_6 : a78.eval (.tmp 6) = .int .i64 (f1.length : Int)), (e78_7 : a78.eval (.tmp 7) = .int .i64 0), -⟩ := hf78 [0, 1, 2] rfl
  have hX78 := Evo.step hE0 hown hE78 rfl
  have b78_Jx := SqO.evo (by decide) hE78 hJx
  have b78_Af1_0 := RdO.evo rfl hE78 hAf1_0
  have b78_gf1 := be_ hE78 hgf1
  refine fl_block (fun Q79 hn79 hx79 hp79 => ?_)
  refine fl_loop (body := (fun s => ring_edges_1_b1 Sx yy f1 s.1 s.2)) (z := r) (show loopO _ _ = _ from hs) (fun (s : Int × Sx) a wx => match s with | (x100, sx101) => ∃ (ox : Own), a.defers = [] ∧ a.tmps.size = 25 ∧ a.eval (.tmp 0) = .func (.yield lx) #[] #[] ∧ a.eval (.tmp 1) = .pointer (some ⟨gf1, 0, none⟩) ∧ a.eval (.tmp 5) = .slice Af1_0 f1.length cf1_0 ∧ a.eval (.tmp 6) = .int .i64 (f1.length : Int) ∧ a.eval (.tmp 7) = .int .i64 x100 ∧ Evo [1] own ox w wx ∧ BlkO ox 0 wx gf1 tf1 #[.slice Af1_0 f1.length cf1_0] ∧ RdO ox [0] wx R25 Af1_0 cf1_0 f1 ∧ SqO Jx ox 102 wx sx101) ?_ ?_
  · exact ⟨(rl [(1, 102)] own78), hd78, hz78, e78_0, e78_1, e78_5, e78_6, e78_7, (Evo.rl_ hX78 hown rfl), (BlkO.rl_ (mm := [(1, 102)]) b78_gf1), (RdO.rl_ (mm := [(1, 102)]) b78_Af1_0), (SqO.rl_ (mm := [(1, 102)]) b78_Jx rfl (by decide))⟩
  · rintro ⟨x100, sx101⟩ zz123 a123 w123 ⟨own123, hd124, hz124, e124_0, e124_1, e124_5, e124_6, e124_7, hE124, b124_gf1, b124_Af1_0, b124_Jx⟩ hs Q123 hn123 hp123 hz123
    have hs : ring_edges_1_b1 Sx yy f1 x100 sx101 = some zz123 := hs
    refine rg0_seq 25 own123 (bz 1) [⟨[], [7, 6], [], Fct.val 8 (.bool (decide (x100 < (f1.length : Int))))⟩] hz124 hd124 (by kernel_rfl) ?_ ?_
    · refine sc (fun _ _ _ _ s _ => px (or_lss (s.1.trans e124_7) (s.2.1.trans e124_6) rfl)) ?_
      exact steps_nil
    intro own125 a125 w125 hd125 hz125 hk125 hf125 hE125
    have e125_0 := (hk125 0 rfl).trans e124_0
    have e125_1 := (hk125 1 rfl).trans e124_1
    have e125_5 := (hk125 5 rfl).trans e124_5
    have e125_6 := (hk125 6 rfl).trans e124_6
    have e125_7 := (hk125 7 rfl).trans e124_7
    obtain ⟨(e125_8 : a125.eval (.tmp 8) = .bool (decide (x100 < (f1.length : Int)))), -⟩ := hf125 [0] rfl
    have hX125 := Evo.step hE124 hown hE125 rfl
    have b125_gf1 := be_ hE125 b124_gf1
    have b125_Af1_0 := RdO.evo rfl hE125 b124_Af1_0
    have b125_Jx := SqO.evo (by decide) hE125 b124_Jx
    refine fl_seq (fun Q126 hn126 hp126 => ?_)
    refine fl_cond e125_8 hs (fun c127 hs => ?_) (fun c127 hs => ?_)
    · refine fl_skip ?_
      refine hn126 _ _ ?_
      refine fl_seq (fun Q128 hn128 hp128 => ?_)
      refine fl_block (fun Q129 hn129 hx129 hp129 => ?_)
      obtain ⟨x130, hx130, hs⟩ := obind hs
      refine rg_plain_seq (n := 25) (rs := []) (own0 := own125) (K := [132]) (bs := [0, 0, 2, 0, 15, 31]) (ds := [⟨[], [7], [], Fct.val 9 (.int .i64 x100)⟩, ⟨[], [5, 7], [], Fct.val 10 (.pointer (some ((adr Af1_0).add ((x100 : Int).toNat * R25.s))))⟩, ⟨[1], [], [], Fct.val 11 (.agg #[.int .i64 x130.1, .int .i64 x130.2])⟩, ⟨[], [], [], Fct.blk 132 4 (fun g => .pointer (some ⟨g, 0, none⟩)) 25 #[.int .i64 0, .int .i64 0]⟩, ⟨[0], [], [], Fct.val 3 (.int .i64 x100)⟩, ⟨[3, 2], [], [132], Fct.blk 133 4 (fun g => .pointer (some ⟨g, 0, none⟩)) 25 #[.int .i64 x130.1, .int .i64 x130.2]⟩]) (by kernel_rfl) hz125 hd125 nm_ ?_ ?_
      · refine sc (fun _ _ _ _ s _ => px (or_move (s.1.trans e125_7))) ?_
        refine sc (fun _ _ _ _ s _ => px (or_index (R := R25) (l := f1) tl22 (s.1.trans e125_5) (s.2.1.trans e125_7) (RdO.some_ b125_Af1_0 hx130) hx130)) ?_
        refine sc (fun _ _ _ f _ hE => px (or_load (l := E25.f x130) ta25 f.1 (RdO.cells (F := E25) (RdO.evo rfl hE b125_Af1_0) hx130) rfl)) ?_
        refine sc (fun _ _ _ _ _ _ => px (or_new [] rfl rfl trivial (by kernel_rfl))) ?_
        refine sc (fun _ _ _ f _ _ => px (or_assign f.1)) ?_
        refine sc (fun own a wx hf hsl hE => ?_) ?_
        · obtain ⟨⟨g131, f_4, b_g131⟩, f_11, -⟩ := hf
          exact px (or_store (l := #[.int .i64 x130.1, .int .i64 x130.2]) (lab := 132) (lab2 := 133) ts25 f_4 f_11 b_g131 (by simp) (by kernel_rfl) (mem_of rfl) (by decide) (by kernel_rfl) (fun own' a' w' ha hb => ⟨_, (ha 4).trans f_4, hb⟩))
        exact steps_nil
      intro own134 a134 w134 hd134 hz134 hk134 hf134 hE134
      have e134_0 := (hk134 0 rfl).trans e125_0
      have e134_1 := (hk134 1 rfl).trans e125_1
      have e134_5 := (hk134 5 rfl).trans e125_5
      have e134_6 := (hk134 6 rfl).trans e125_6
      have e134_7 := (hk134 7 rfl).trans e125_7
      obtain ⟨⟨g131, (e134_4 : a134.eval (.tmp 4) = .pointer (some ⟨g131, 0, none⟩)), (b134_g131 : BlkO own134 133 w134 g131 25 #[.int .i64 x130.1, .int .i64 x130.2])⟩, (e134_3 : a134.eval (.tmp 3) = .int .i64 x100), -⟩ := hf134 [5, 4] rfl
      have hX134 := Evo.step hX125 hown hE134 rfl
      have b134_gf1 := be_ hE134 b125_gf1
      have b134_Af1_0 := RdO.evo rfl hE134 b125_Af1_0
      have b134_Jx := SqO.evo (by decide) hE134 b125_Jx
      obtain ⟨x137, hx137, hs⟩ := obind hs
      obtain ⟨x138, hx138, hs⟩ := obind hs
      obtain ⟨z139, hz139, hs⟩ := obind hs
      refine rg_draw_seq g_mixed (n := 25) (rs := [Fct.seqAt Jx 102 sx101]) (own0 := own134) (K := [102]) (bs := [0, 0, 0, 0, 8, 0, 32, 120, 252, 508, 1023, 2047]) (ds := [⟨[], [0], [], Fct.val 12 (.func (.yield lx) #[] #[])⟩, ⟨[], [4], [], Fct.val 13 (.agg #[.int .i64 x130.1, .int .i64 x130.2])⟩, ⟨[], [1], [], Fct.val 14 (.slice Af1_0 f1.length cf1_0)⟩, ⟨[], [3], [], Fct.val 15 (.int .i64 x100)⟩, ⟨[3], [], [], Fct.val 16 (.int .i64 (ad x100 1))⟩, ⟨[], [1], [], Fct.val 17 (.slice Af1_0 f1.length cf1_0)⟩, ⟨[5], [], [], Fct.val 18 (.int .i64 (f1.length : Int))⟩, ⟨[4, 6], [], [], Fct.val 19 (.int .i64 x137)⟩, ⟨[2, 7], [], [], Fct.val 20 (.pointer (some ((adr Af1_0).add ((x137 : Int).toNat * R25.s))))⟩, ⟨[8], [], [], Fct.val 21 (.agg #[.int .i64 x138.1, .int .i64 x138.2])⟩, ⟨[0, 1, 9, 12], [], [102], Fct.seq Jx 140 22 z139.1 z139.2⟩, ⟨[10], [], [], Fct.val 23 (.bool (!z139.1))⟩]) (by kernel_rfl) hz134 hd134 (by simp only [List.forall_mem_cons]; exact ⟨b134_Jx, fun _ h => nomatch h⟩) ?_ ?_
      · refine sc (fun _ _ _ _ s _ => px (or_move (s.1.trans e134_0))) ?_
        refine sc (fun _ _ _ _ s hE => px (or_load (l := [.int .i64 x130.1, .int .i64 x130.2]) ta25 (s.1.trans e134_4) (Blk.cellsFrom (be_ hE b134_g131).2 0 rfl) rfl)) ?_
        refine sc (fun _ _ _ _ s hE => px (or_load1 to22 (s.1.trans e134_1) (Blk.at_ (be_ hE b134_gf1).2 0 rfl))) ?_
        refine sc (fun _ _ _ _ s _ => px (or_move (s.1.trans e134_3))) ?_
        refine sc (fun _ _ _ f _ _ => px (or_add f.1 rfl rfl)) ?_
        refine sc (fun _ _ _ _ s hE => px (or_load1 to22 (s.1.trans e134_1) (Blk.at_ (be_ hE b134_gf1).2 0 rfl))) ?_
        refine sc (fun _ _ _ f _ _ => px (or_len tu22 f.1 rfl)) ?_
        refine sc (fun _ _ _ f _ _ => px (or_rem f.1 f.2.1 hx137)) ?_
        refine sc (fun _ _ _ f _ _ => px (or_index (R := R25) (l := f1) tl22 f.1 f.2.1 (RdO.some_ b134_Af1_0 hx138) hx138)) ?_
        refine sc (fun _ _ _ f _ hE => px (or_load (l := E25.f x138) ta25 f.1 (RdO.cells (F := E25) (RdO.evo rfl hE b134_Af1_0) hx138) rfl)) ?_
        refine sc (fun own a wx hf hsl hE => ?_) ?_
        · obtain ⟨f_12, f_13, f_21, b_Jx, -⟩ := hf
          exact sg_plainF rfl (or_yield (x := (x130, x138)) (lab := 102) (lab2 := 140) f_12 (args2 f_13 f_21) hYx b_Jx hz139 (mem_of rfl) (by decide))
        refine sc (fun own a wx hf hsl hE => ?_) ?_
        · obtain ⟨⟨f_22, b_Jx⟩, -⟩ := hf
          exact px (or_not f_22 rfl)
        exact steps_nil
      intro own141 a141 w141 hd141 hz141 hk141 hf141 hE141
      have e141_0 := (hk141 0 rfl).trans e134_0
      have e141_1 := (hk141 1 rfl).trans e134_1
      have e141_5 := (hk141 5 rfl).trans e134_5
      have e141_6 := (hk141 6 rfl).trans e134_6
      have e141_7 := (hk141 7 rfl).trans e134_7
      obtain ⟨(e141_23 : a141.eval (.tmp 23) = .bool (!z139.1)), ⟨(f_22 : a141.eval (.tmp 22) = .bool z139.1), (b141_Jx : SqO Jx own141 140 w141 z139.2)⟩, -⟩ := hf141 [11, 10] rfl
      have hX141 := Evo.step hX134 hown hE141 rfl
      have b141_gf1 := be_ hE141 b134_gf1
      have b141_Af1_0 := RdO.evo rfl hE141 b134_Af1_0
      refine fl_cond e141_23 hs (fun c142 hs => ?_) (fun c142 hs => ?_)
      · refine fl_ret ?_
        refine hp129 _ _ _ rfl ?_
        refine hp128 _ _ _ rfl ?_
        replace hs := hz123 _ hs
        refine hp123 _ _ _ rfl ?_
        refine hp79 _ _ _ rfl ?_
        obtain rfl := osome hs
        exact hret _ _ _ _ (.inl rfl) hd141 (results0_ rfl ) ⟨(rl [(140, 1)] own141), rfl, (Evo.rl_ hX141 hown rfl), (SqO.rl_ (mm := [(140, 1)]) b141_Jx rfl (by decide))⟩
      refine fl_skip ?_
      refine hn129 _ _ ?_
      refine hn128 _ _ ?_
      refine rg0 25 own141 (bz 2) [⟨[], [7], [], Fct.val 24 (.int .i64 (ad x100 1))⟩, ⟨[0], [], [], Fct.val 7 (.int .i64 (ad x100 1))⟩] hz141 hd141 (by kernel_rfl) ?_ ?_
      · refine sc (fun _ _ _ _ s _ => px (or_add (s.1.trans e141_7) rfl rfl)) ?_
        refine sc (fun _ _ _ f _ _ => px (or_move f.1)) ?_
        exact steps_nil
      intro own143 a143 w143 hd143 hz143 hk143 hf143 hE143
      have e143_0 := (hk143 0 rfl).trans e141_0
      have e143_1 := (hk143 1 rfl).trans e141_1
      have e143_5 := (hk143 5 rfl).trans e141_5
      have e143_6 := (hk143 6 rfl).trans e141_6
      obtain ⟨(e143_7 : a143.eval (.tmp 7) = .int .i64 (ad x100 1)), -⟩ := hf143 [1] rfl
      have hX143 := Evo.step hX141 hown hE143 rfl
      have b143_gf1 := be_ hE143 b141_gf1
      have b143_Af1_0 := RdO.evo rfl hE143 b141_Af1_0
      have b143_Jx := SqO.evo (by decide) hE143 b141_Jx
      exact hn123 _ _ _ hs ⟨(rl [(140, 102)] own143), hd143, hz143, e143_0, e143_1, e143_5, e143_6, e143_7, (Evo.rl_ hX143 hown rfl), (BlkO.rl_ (mm := [(140, 102)]) b143_gf1), (RdO.rl_ (mm := [(140, 102)]) b143_Af1_0), (SqO.rl_ (mm := [(140, 102)]) b143_Jx rfl (by decide))⟩
    refine fl_exit ?_
    refine hp126 _ _ _ rfl ?_
    replace hs := hz123 _ hs
    refine hp123 _ _ _ rfl ?_
    refine hx79 _ _ ?_
    obtain rfl := (osome hs).symm
    exact hret _ _ _ _ (.inr rfl) hd125 (results0_ rfl ) ⟨(rl [(102, 1)] own125), rfl, (Evo.rl_ hX125 hown rfl), (SqO.rl_ (mm := [(102, 1)]) b125_Jx rfl (by decide))⟩
theorem ring_Area_w (w : World) (l1 : List (Int × Int)) (Al1 : Option Addr) (cl1 : Nat) (hl1 : RdO (fun _ => 0) [0] w R25 Al1 cl1 l1) (r : Int) (hs : ring_Area l1 = some r) :
    Calls Try.prog 9 #[.slice Al1 l1.length cl1] w fun e w' => ∃ own' : Own, e = .returned (.int .i64 r) ∧ Evo [] (fun _ => 0) own' w w' := by
  refine fl_enterM (n := 27) (kD := 11) (by decide) rfl rfl rfl (Nat.le_of_ble_eq_true rfl) ?_
  intro a0 Q hd0 hz0 harg hret
  have ha0 := harg 0 _ rfl
  clear harg
  have hE0 : Evo [] (fun _ => 0) (fun _ => 0) w w := Evo.refl _ _ _
  have hmk0 : MkO (fun _ => 0) 11 w [] := MkO.nil_
  refine rg0_seq 27 (fun _ => 0) [0, 0] [⟨[], [0], [], Fct.blk 93 1 (fun g => .pointer (some ⟨g, 0, none⟩)) 22 #[.slice Al1 l1.length cl1]⟩, ⟨[], [], [], Fct.val 2 (.int .i64 0)⟩] hz0 hd0 (by kernel_rfl) ?_ ?_
  · refine sc (fun _ _ _ _ s _ => px (or_new [(0, .slice Al1 l1.length cl1)] rfl rfl ⟨(s.1.trans ha0), trivial⟩ (by kernel_rfl))) ?_
    refine sc (fun _ _ _ _ _ _ => px (or_assign rfl)) ?_
    exact steps_nil
  intro own94 a94 w94 hd94 hz94 hk94 hf94 hE94
  obtain ⟨⟨g92, (e94_1 : a94.eval (.tmp 1) = .pointer (some ⟨g92, 0, none⟩)), (b94_g92 : BlkO own94 93 w94 g92 22 #[.slice Al1 l1.length cl1])⟩, -⟩ := hf94 [0] rfl
  have hX94 := es_ hE0 hE94
  have b94_Al1 := RdO.evo rfl hE94 hl1
  have b94_mk := MkO.evo (by decide) hE94 hmk0
  refine fl_seq (fun Q95 hn95 hp95 => ?_)
  obtain ⟨r96, hr96, hs⟩ := obind hs
  obtain ⟨x97, hx97, hs⟩ := obind hs
  refine rg0_seq 27 own94 (bz 8) [⟨[], [1], [], Fct.val 6 (.slice Al1 l1.length cl1)⟩, ⟨[0], [], [], Fct.val 7 (.int .i64 (l1.length : Int))⟩, ⟨[1], [], [], Fct.val 8 (.bool (decide ((l1.length : Int) < 3)))⟩, ⟨[2], [], [], Fct.val 9 (.bool (decide ((l1.length : Int) < 3)))⟩, ⟨[3], [1], [], Fct.cond (!(decide ((l1.length : Int) < 3))) (some 10) (Fct.val 10 (.slice Al1 l1.length cl1))⟩, ⟨[3, 4], [], [], Fct.cond (!(decide ((l1.length : Int) < 3))) (some 11) (Fct.val 11 (.bool r96))⟩, ⟨[3, 5], [], [], Fct.cond (!(decide ((l1.length : Int) < 3))) (some 12) (Fct.val 12 (.bool (!r96)))⟩, ⟨[3, 6], [], [], Fct.val 13 (.bool x97)⟩] hz94 hd94 (by kernel_rfl) ?_ ?_
  · refine sc (fun _ _ _ _ s hE => px (or_load1 to22 (s.1.trans e94_1) (Blk.at_ (be_ hE b94_g92).2 0 rfl))) ?_
    refine sc (fun _ _ _ f _ _ => px (or_len tu22 f.1 rfl)) ?_
    refine sc (fun _ _ _ f _ _ => px (or_lss f.1 rfl rfl)) ?_
    refine sc (fun _ _ _ f _ _ => px (or_move f.1)) ?_
    refine sc (fun _ _ _ f s hE => sg_f rfl rfl rfl f.1 (fun hg => or_load1 to22 (s.1.trans e94_1) (Blk.at_ (be_ hE b94_g92).2 0 rfl))) ?_
    refine sc (fun _ _ _ f _ hE => sg_f rfl rfl rfl f.1 (fun hg => or_call cf24 (args1 (f.2.1.1 hg)) (exact_Right_w _ l1 Al1 cl1 (RdO.zero (RdO.evo rfl hE b94_Al1)) r96 (gd_t hr96 hg)) post_val)) ?_
    refine sc (fun _ _ _ f _ _ => sg_f rfl rfl rfl f.1 (fun hg => or_not (f.2.1.1 hg) rfl)) ?_
    refine sc (fun _ _ _ f _ _ => px (or_or f.1 rfl (fun hx => f.2.1.1 hx) (osome hx97).symm)) ?_
    exact steps_nil
  intro own98 a98 w98 hd98 hz98 hk98 hf98 hE98
  have e98_1 := (hk98 1 rfl).trans e94_1
  obtain ⟨(e98_13 : a98.eval (.tmp 13) = .bool x97), -⟩ := hf98 [7] rfl
  have hX98 := es_ hX94 hE98
  have b98_Al1 := RdO.evo rfl hE98 b94_Al1
  have b98_mk := MkO.evo (by decide) hE98 b94_mk
  have b98_g92 := be_ hE98 b94_g92
  refine fl_cond e98_13 hs (fun c99 hs => ?_) (fun c99 hs => ?_)
  · refine rg0_seq 27 own98 (bz 1) [⟨[], [], [], Fct.val 2 (.int .i64 0)⟩] hz98 hd98 (by kernel_rfl) ?_ ?_
    · refine sc (fun _ _ _ _ _ _ => px (or_assign rfl)) ?_
      exact steps_nil
    intro own100 a100 w100 hd100 hz100 hk100 hf100 hE100
    obtain ⟨(e100_2 : a100.eval (.tmp 2) = .int .i64 0), -⟩ := hf100 [0] rfl
    have hX100 := es_ hX98 hE100
    have b100_mk := MkO.evo (by decide) hE100 b98_mk
    refine fl_ret ?_
    refine hp95 _ _ _ rfl ?_
    refine hret _ _ _ _ _ (.inl rfl) hd100 b100_mk (fun own101 w101 hE101 => ?_)
    have hX102 := es_ hX100 hE101
    obtain rfl := osome hs
    exact ⟨_, results1_ rfl (RVal.tmp_ e100_2), ⟨own101, rfl, hX102⟩⟩
  refine fl_skip ?_
  refine hn95 _ _ ?_
  refine rg_plain_seq (n := 27) (rs := []) (own0 := own98) (K := [104]) (bs := (bz 2)) (ds := [⟨[], [], [], Fct.blk 104 3 (fun g => .pointer (some ⟨g, 0, none⟩)) 3 #[.int .i64 0]⟩, ⟨[0], [], [104], Fct.blk 105 3 (fun g => .pointer (some ⟨g, 0, none⟩)) 3 #[.int .i64 0]⟩]) (by kernel_rfl) hz98 hd98 nm_ ?_ ?_
  · refine sc (fun _ _ _ _ _ _ => px (or_new [] rfl rfl trivial (by kernel_rfl))) ?_
    refine sc (fun own a wx hf hsl hE => ?_) ?_
    · obtain ⟨⟨g103, f_3, b_g103⟩, -⟩ := hf
      exact px (or_store1 (lab := 104) (lab2 := 105) ts3 f_3 rfl b_g103 (by simp) rfl (mem_of rfl) (by decide) rfl (fun own' a' w' ha hb => ⟨_, (ha 3).trans f_3, hb⟩))
    exact steps_nil
  intro own106 a106 w106 hd106 hz106 hk106 hf106 hE106
  have e106_1 := (hk106 1 rfl).trans e98_1
  obtain ⟨⟨g103, (e106_3 : a106.eval (.tmp 3) = .pointer (some ⟨g103, 0, none⟩)), (b106_g103 : BlkO own106 105 w106 g103 3 #[.int .i64 0])⟩, -⟩ := hf106 [1] rfl
  have hX106 := es_ hX98 hE106
  have b106_Al1 := RdO.evo rfl hE106 b98_Al1
  have b106_mk := MkO.evo (by decide) hE106 b98_mk
  have b106_g92 := be_ hE106 b98_g92
  refine fl_seq (fun Q107 hn107 hp107 => ?_)
  refine rg0_seq 27 own106 (bz 2) [⟨[], [1], [], Fct.val 14 (.slice Al1 l1.length cl1)⟩, ⟨[0], [], [], Fct.mems [109] 15 (fun (x : Option Addr × Nat) => .func (.func 39) #[] #[.pointer (some ⟨x.2, 0, none⟩)]) (fun (x : Option Addr × Nat) own w => BlkO own 109 w x.2 22 #[.slice Al1 l1.length cl1]) (fun hk he h => BlkO.evo (not_hit hk (by decide)) he h)⟩] hz106 hd106 (by kernel_rfl) ?_ ?_
  · refine sc (fun _ _ _ _ s hE => px (or_load1 to22 (s.1.trans e106_1) (Blk.at_ (be_ hE b106_g92).2 0 rfl))) ?_
    refine sc (fun _ _ _ f _ hE => px (or_call cf25 (args1 f.1) (ring_edges_w _ l1 Al1 cl1 (RdO.zero (RdO.evo rfl hE b106_Al1)) () rfl) (post_mems (m := (fun _ => 0)) (m' := (look0 [(1, 109)])) (fun _ _ => .inl rfl) (fun own' w' a' x h1 h => ⟨x, h1, BlkO.back_ h (by decide)⟩)))) ?_
    exact steps_nil
  intro own110 a110 w110 hd110 hz110 hk110 hf110 hE110
  have e110_1 := (hk110 1 rfl).trans e106_1
  have e110_3 := (hk110 3 rfl).trans e106_3
  obtain ⟨⟨⟨A108, cA108⟩, (e110_15 : a110.eval (.tmp 15) = .func (.func 39) #[] #[.pointer (some ⟨cA108, 0, none⟩)]), (b110_cA108 : BlkO own110 109 w110 cA108 22 #[.slice Al1 l1.length cl1])⟩, -⟩ := hf110 [1] rfl
  have hX110 := es_ hX106 hE110
  have b110_Al1 := RdO.evo rfl hE110 b106_Al1
  have b110_mk := MkO.evo (by decide) hE110 b106_mk
  have b110_g92 := be_ hE110 b106_g92
  have b110_g103 := be_ hE110 b106_g103
  refine fl_block (fun Q111 hn111 hx111 hp111 => ?_)
  obtain ⟨zz150, hzz150, hs⟩ := rngO_some hs
  refine fl_range (S := Int) (D := Empty) (X := (Int × Int) × (Int × Int)) (encs := (fun (x : (Int × Int) × (Int × Int)) => #[.agg #[.int .i64 x.1.1, .int .i64 x.1.2], .agg #[.int .i64 x.2.1, .int .i64 x.2.2]])) (n := 27) [105, 157, 161, 170] 151 11 rfl
      (fun (sum131 : Int) (ox : Own) (wx : World) => Evo [] (fun _ => 0) ox w wx ∧ BlkO ox 93 wx g92 22 #[.slice Al1 l1.length cl1] ∧ RdO ox [0] wx R25 Al1 cl1 l1 ∧ BlkO ox 105 wx g103 3 #[.int .i64 sum131] ∧ BlkO ox 109 wx cA108 22 #[.slice Al1 l1.length cl1])
      (fun (e : Empty) (_ : Own) (_ : World) => nomatch e)
      (fun (e : Empty) => nomatch e) (fun (sr : Int) (xr : (Int × Int) × (Int × Int)) => ring_Area_b1 l1 sr xr) hz110 rfl e110_15 cf39 (cargs := fun l => #[.func (.yield l) #[] #[], .pointer (some ⟨cA108, 0, none⟩)]) (fun _ => by simp) (fun _ => rfl) hd110 b110_mk ?_ ?_ 0 zz150 ⟨hX110, b110_g92, b110_Al1, b110_g103, b110_cA108⟩ ?_ ?_ ?_ ?_
  · rintro sum131 ox ox1 wx wx1 hEs ⟨h150_0, h150_1, h150_2, h150_3, h150_4⟩
    exact ⟨(es_ h150_0 hEs), (be_ hEs h150_1), (RdO.evo rfl hEs h150_2), (be_ hEs h150_3), (be_ hEs h150_4)⟩
  · intro e; exact nomatch e
  · intro l150 own1 w1 J150 hE1 hJ1 hR1
    exact (ring_edges_1_w w1 (forth own1 (look0 (kj 151 [105, 157, 161, 170]))) (Int ⊕ Empty) (yb (fun (sr : Int) (xr : (Int × Int) × (Int × Int)) => ring_Area_b1 l1 sr xr)) J150 l150 (Sum.inl 0) l1 cA108 22 Al1 cl1 (look0_le rfl) hR1 hJ1 (BlkO.forth_ (be_ hE1 b110_cA108)) (RdO.forth0_ (RdO.evo rfl hE1 b110_Al1) rfl) zz150 hzz150).mono fun e wz ⟨oz, he, _, hJz⟩ => ⟨_, oz, he, hJz⟩
  · rintro l154 sum131 x153 zz2 own154 a154 w154 Ds154 ⟨hE155, b155_g92, b155_Al1, b155_g103, b155_cA108⟩ - hrc154 hs ⟨hd154, hz154, hkp154, hpar154⟩ Q154 hn154
    have hs : ring_Area_b1 l1 sum131 x153 = some zz2 := hs
    replace hz154 := hz154.trans hz110
    have e154_1 : a154.eval (.tmp 1) = .pointer (some ⟨g92, 0, none⟩) := (hkp154 1 rfl).trans e110_1
    have e154_3 : a154.eval (.tmp 3) = .pointer (some ⟨g103, 0, none⟩) := (hkp154 3 rfl).trans e110_3
    have e154_15 : a154.eval (.tmp 15) = .func (.func 39) #[] #[.pointer (some ⟨cA108, 0, none⟩)] := (hkp154 15 rfl).trans e110_15
    have e154_16 : a154.eval (.tmp 16) = .agg #[.int .i64 x153.1.1, .int .i64 x153.1.2] := hpar154 0 16 _ rfl rfl
    have e154_17 : a154.eval (.tmp 17) = .agg #[.int .i64 x153.2.1, .int .i64 x153.2.2] := hpar154 1 17 _ rfl rfl
    have hE154 := Evo.refl [105, 157, 161, 170] own154 w154
    have hrc0_154 := hrc154
    refine rg_plain_seq (n := 27) (rs := []) (own0 := own154) (K := [157]) (bs := (bz 2)) (ds := [⟨[], [], [], Fct.blk 157 4 (fun g => .pointer (some ⟨g, 0, none⟩)) 25 #[.int .i64 0, .int .i64 0]⟩, ⟨[0], [16], [157], Fct.blk 158 4 (fun g => .pointer (some ⟨g, 0, none⟩)) 25 #[.int .i64 x153.1.1, .int .i64 x153.1.2]⟩]) (by kernel_rfl) hz154 hd154 nm_ ?_ ?_
    · refine sc (fun _ _ _ _ _ _ => px (or_new [] rfl rfl trivial (by kernel_rfl))) ?_
      refine sc (fun own a wx hf hsl hE => ?_) ?_
      · obtain ⟨⟨g156, f_4, b_g156⟩, -⟩ := hf
        obtain ⟨s_16, -⟩ := hsl
        exact px (or_store (l := #[.int .i64 x153.1.1, .int .i64 x153.1.2]) (lab := 157) (lab2 := 158) ts25 f_4 (s_16.trans e154_16) b_g156 (by simp) (by kernel_rfl) (mem_of rfl) (by decide) (by kernel_rfl) (fun own' a' w' ha hb => ⟨_, (ha 4).trans f_4, hb⟩))
      exact steps_nil
    intro own159 a159 w159 hd159 hz159 hk159 hf159 hE159
    have e159_1 := (hk159 1 rfl).trans e154_1
    have e159_3 := (hk159 3 rfl).trans e154_3
    have e159_15 := (hk159 15 rfl).trans e154_15
    have e159_17 := (hk159 17 rfl).trans e154_17
    obtain ⟨⟨g156, (e159_4 : a159.eval (.tmp 4) = .pointer (some ⟨g156, 0, none⟩)), (b159_g156 : BlkO own159 158 w159 g156 25 #[.int .i64 x153.1.1, .int .i64 x153.1.2])⟩, -⟩ := hf159 [1] rfl
    have hX159 := Evo.stepK hE154 hE159 rfl
    have b159_g92 := be_ hE159 b155_g92
    have b159_Al1 := RdO.evo rfl hE159 b155_Al1
    have b159_g103 := be_ hE159 b155_g103
    have b159_cA108 := be_ hE159 b155_cA108
    refine rg_plain (n := 27) (rs := []) (own0 := own159) (K := [161]) (bs := (bz 2)) (ds := [⟨[], [], [], Fct.blk 161 5 (fun g => .pointer (some ⟨g, 0, none⟩)) 25 #[.int .i64 0, .int .i64 0]⟩, ⟨[0], [17], [161], Fct.blk 162 5 (fun g => .pointer (some ⟨g, 0, none⟩)) 25 #[.int .i64 x153.2.1, .int .i64 x153.2.2]⟩]) (by kernel_rfl) hz159 hd159 nm_ ?_ ?_
    · refine sc (fun _ _ _ _ _ _ => px (or_new [] rfl rfl trivial (by kernel_rfl))) ?_
      refine sc (fun own a wx hf hsl hE => ?_) ?_
      · obtain ⟨⟨g160, f_5, b_g160⟩, -⟩ := hf
        obtain ⟨s_17, -⟩ := hsl
        exact px (or_store (l := #[.int .i64 x153.2.1, .int .i64 x153.2.2]) (lab := 161) (lab2 := 162) ts25 f_5 (s_17.trans e159_17) b_g160 (by simp) (by kernel_rfl) (mem_of rfl) (by decide) (by kernel_rfl) (fun own' a' w' ha hb => ⟨_, (ha 5).trans f_5, hb⟩))
      exact steps_nil
    intro own163 a163 w163 hd163 hz163 hk163 hf163 hE163
    have e163_1 := (hk163 1 rfl).trans e159_1
    have e163_3 := (hk163 3 rfl).trans e159_3
    have e163_4 := (hk163 4 rfl).trans e159_4
    have e163_15 := (hk163 15 rfl).trans e159_15
    obtain ⟨⟨g160, (e163_5 : a163.eval (.tmp 5) = .pointer (some ⟨g160, 0, none⟩)), (b163_g160 : BlkO own163 162 w163 g160 25 #[.int .i64 x153.2.1, .int .i64 x153.2.2])⟩, -⟩ := hf163 [1] rfl
    have hX163 := Evo.stepK hX159 hE163 rfl
    have b163_g92 := be_ hE163 b159_g92
    have b163_Al1 := RdO.evo rfl hE163 b159_Al1
    have b163_g103 := be_ hE163 b159_g103
    have b163_cA108 := be_ hE163 b159_cA108
    have b163_g156 := be_ hE163 b159_g156
    refine hn154 _ _ _ hX163 (fun w164 own164 hE164 hrc164 => ?_)
    have b164_g92 := be_ hE164 b163_g92
    have b164_Al1 := RdO.evo rfl hE164 b163_Al1
    have b164_g103 := be_ hE164 b163_g103
    have b164_cA108 := be_ hE164 b163_cA108
    have b164_g156 := be_ hE164 b163_g156
    have b164_g160 := be_ hE164 b163_g160
    have hU164 := es_ (es_ hE155 hX163) hE164
    have hX164 := Evo.refl [105, 157, 161, 170] own164 w164
    have hmk164 : MkO own164 11 w164 [] := MkO.nil_
    refine fl_block (fun Q165 hn165 hx165 hp165 => ?_)
    obtain ⟨x168, hx168, hs⟩ := obind hs
    obtain ⟨r169, hr169, hs⟩ := obind hs
    refine rg_draw g_mixed (n := 27) (rs := [Fct.at_ 105 g103 3 #[.int .i64 sum131]]) (own0 := own164) (K := [105]) (bs := [0, 0, 2, 6, 0, 0, 62, 127, 255]) (ds := [⟨[9], [3], [], Fct.val 18 (.int .i64 sum131)⟩, ⟨[], [1], [], Fct.val 19 (.slice Al1 l1.length cl1)⟩, ⟨[1], [], [], Fct.val 20 (.pointer (some ((adr Al1).add ((0 : Int).toNat * R25.s))))⟩, ⟨[2], [], [], Fct.val 21 (.agg #[.int .i64 x168.1, .int .i64 x168.2])⟩, ⟨[], [4], [], Fct.val 22 (.agg #[.int .i64 x153.1.1, .int .i64 x153.1.2])⟩, ⟨[], [5], [], Fct.val 23 (.agg #[.int .i64 x153.2.1, .int .i64 x153.2.2])⟩, ⟨[3, 4, 5], [], [], Fct.val 24 (.int .i64 r169)⟩, ⟨[0, 6], [], [], Fct.val 25 (.int .i64 (ad sum131 r169))⟩, ⟨[7, 9], [3], [105], Fct.at_ 170 g103 3 #[.int .i64 (ad sum131 r169)]⟩]) (by kernel_rfl) hz163 hd163 (by simp only [List.forall_mem_cons]; exact ⟨b164_g103, fun _ h => nomatch h⟩) ?_ ?_
    · refine sc (fun own a wx hf hsl hE => ?_) ?_
      · obtain ⟨(b_g103 : BlkO own 105 wx g103 3 #[.int .i64 sum131]), -⟩ := hf
        obtain ⟨s_3, -⟩ := hsl
        exact px (or_load1 to3 (s_3.trans e163_3) (Blk.at_ b_g103.2 0 rfl))
      refine sc (fun _ _ _ _ s hE => px (or_load1 to22 (s.1.trans e163_1) (Blk.at_ (be_ hE b164_g92).2 0 rfl))) ?_
      refine sc (fun _ _ _ f _ _ => px (or_index (R := R25) (l := l1) tl22 f.1 rfl (RdO.some_ b164_Al1 hx168) hx168)) ?_
      refine sc (fun _ _ _ f _ hE => px (or_load (l := E25.f x168) ta25 f.1 (RdO.cells (F := E25) (RdO.evo rfl hE b164_Al1) hx168) rfl)) ?_
      refine sc (fun _ _ _ _ s hE => px (or_load (l := [.int .i64 x153.1.1, .int .i64 x153.1.2]) ta25 (s.1.trans e163_4) (Blk.cellsFrom (be_ hE b164_g156).2 0 rfl) rfl)) ?_
      refine sc (fun _ _ _ _ s hE => px (or_load (l := [.int .i64 x153.2.1, .int .i64 x153.2.2]) ta25 (s.1.trans e163_5) (Blk.cellsFrom (be_ hE b164_g160).2 0 rfl) rfl)) ?_
      refine sc (fun _ _ _ f _ _ => px (or_call cf26 (args3 f.1 f.2.1 f.2.2.1) (exact_Cross_w _ x168 x153.1 x153.2  r169 hr169) post_val)) ?_
      refine sc (fun _ _ _ f _ _ => px (or_add f.1 f.2.1 rfl)) ?_
      refine sc (fun own a wx hf hsl hE => ?_) ?_
      · obtain ⟨f_25, b_g103, -⟩ := hf
        obtain ⟨s_3, -⟩ := hsl
        exact px (or_store1 (lab := 105) (lab2 := 170) ts3 (s_3.trans e163_3) f_25 b_g103 (by simp) rfl (mem_of rfl) (by decide) rfl (fun own' a' w' ha hb => hb))
      exact steps_nil
    intro own171 a171 w171 hd171 hz171 hk171 hf171 hE171
    have e171_1 := (hk171 1 rfl).trans e163_1
    have e171_3 := (hk171 3 rfl).trans e163_3
    have e171_15 := (hk171 15 rfl).trans e163_15
    obtain ⟨(b171_g103 : BlkO own171 170 w171 g103 3 #[.int .i64 (ad sum131 r169)]), -⟩ := hf171 [8] rfl
    have hX171 := Evo.stepK hX164 hE171 rfl
    have b171_g92 := be_ hE171 b164_g92
    have b171_Al1 := RdO.evo rfl hE171 b164_Al1
    have b171_cA108 := be_ hE171 b164_cA108
    have b171_rc := RcO.evo (by decide) hE171 hrc164
    have b171_mk := MkO.evo (by decide) hE171 hmk164
    refine hn165 _ _ ?_
    exact ⟨_, (rl [(170, 105)] own171), osome hs, (Evo.rlK hX171 rfl), (es_ hU164 (Evo.rlK hX171 rfl)), (BlkO.rl_ (mm := [(170, 105)]) b171_g92), (RdO.rl_ (mm := [(170, 105)]) b171_Al1), (BlkO.rl_ (mm := [(170, 105)]) b171_g103), (BlkO.rl_ (mm := [(170, 105)]) b171_cA108)⟩
  · rintro sum131 a172 own172 w172 Ds172 hzz172 hd172 hz172 hkp172 hmk172 ⟨hE172, b172_g92, b172_Al1, b172_g103, b172_cA108⟩
    subst hzz172
    have hs : ring_Area_b2 sum131 = some r := hs
    have e172_1 : a172.eval (.tmp 1) = .pointer (some ⟨g92, 0, none⟩) := (hkp172 1).trans e110_1
    have e172_3 : a172.eval (.tmp 3) = .pointer (some ⟨g103, 0, none⟩) := (hkp172 3).trans e110_3
    have e172_15 : a172.eval (.tmp 15) = .func (.func 39) #[] #[.pointer (some ⟨cA108, 0, none⟩)] := (hkp172 15).trans e110_15
    refine hn111 _ _ ?_
    refine hn107 _ _ ?_
    refine rg0_seq 27 own172 (bz 2) [⟨[], [3], [], Fct.val 26 (.int .i64 sum131)⟩, ⟨[0], [], [], Fct.val 2 (.int .i64 sum131)⟩] hz172 hd172 (by kernel_rfl) ?_ ?_
    · refine sc (fun _ _ _ _ s hE => px (or_load1 to3 (s.1.trans e172_3) (Blk.at_ (be_ hE b172_g103).2 0 rfl))) ?_
      refine sc (fun _ _ _ f _ _ => px (or_assign f.1)) ?_
      exact steps_nil
    intro own173 a173 w173 hd173 hz173 hk173 hf173 hE173
    obtain ⟨(e173_2 : a173.eval (.tmp 2) = .int .i64 sum131), -⟩ := hf173 [1] rfl
    have hX173 := es_ hE172 hE173
    have b173_mk := MkO.evo (by decide) hE173 hmk172
    refine fl_ret ?_
    refine hret _ _ _ _ _ (.inl rfl) hd173 b173_mk (fun own174 w174 hE174 => ?_)
    have hX175 := es_ hX173 hE174
    obtain rfl := (osome hs).symm
    exact ⟨_, results1_ rfl (RVal.tmp_ e173_2), ⟨own174, rfl, hX175⟩⟩
  · intro e; exact nomatch e
end Go.Proofs.Ytopnbammdeimcaa
