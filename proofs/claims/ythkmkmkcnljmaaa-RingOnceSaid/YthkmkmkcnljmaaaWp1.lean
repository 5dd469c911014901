import Derived.Test.YthkmkmkcnljmaaaBase
import Derived.Test.YthkmkmkcnljmaaaTy
import Derived.Test.YthkmkmkcnljmaaaSp1
namespace Go.Proofs.Ythkmkmkcnljmaaa
open Go.RowKit
set_option linter.unusedVariables false
set_option maxRecDepth 10000
theorem law03_Cut_w (w : World) (own : Own) (l1 : List (Int × Int)) (Al1 : Option Addr) (cl1 : Nat) (hown : ∀ b, own b ≤ 1) (hl1 : RdO own [1] w R32 Al1 cl1 l1) (r : List (Int × Int)) (hs : law03_Cut l1 = some r) :
    Calls Try.prog 8 #[.slice Al1 l1.length cl1] w fun e w' => ∃ (own' : Own) (x : Option Addr × Nat), e = .returned (.slice x.1 r.length x.2) ∧ Evo [] own own' w w' ∧ RdO own' [1, 2] w' R32 x.1 x.2 r := by
  refine fl_enter (n := 8) rfl rfl rfl (Nat.le_of_ble_eq_true rfl) ?_
  intro a0 Q hd0 hz0 harg hret
  have ha0 := harg 0 _ rfl
  clear harg
  have hE0 : Evo [] own own w w := Evo.refl _ _ _
  refine rg0_seq 8 own (bz 1) [⟨[], [], [], Fct.val 2 (.slice none 0 0)⟩] hz0 hd0 (by kernel_rfl) ?_ ?_
  · refine sc (fun _ _ _ _ _ _ => px (or_assign rfl)) ?_
    exact steps_nil
  intro own16 a16 w16 hd16 hz16 hk16 hf16 hE16
  have e16_0 := (hk16 0 rfl).trans ha0
  have hX16 := Evo.step hE0 hown hE16 rfl
  have b16_Al1 := RdO.evo rfl hE16 hl1
  obtain ⟨x17, hx17, hs⟩ := obind hs
  refine rg0_seq 8 own16 [0, 0, 2, 6, 15, 31] [⟨[], [0], [], Fct.val 3 (.slice Al1 l1.length cl1)⟩, ⟨[], [0], [], Fct.val 4 (.slice Al1 l1.length cl1)⟩, ⟨[1], [], [], Fct.val 5 (.int .i64 (l1.length : Int))⟩, ⟨[2], [], [], Fct.val 6 (.int .i64 (mn (l1.length : Int) 40))⟩, ⟨[0, 3], [], [], Fct.view [1] 7 R32 x17⟩, ⟨[4], [], [], Fct.rel [2, 7] (fun l => ∀ (A18 : Option Addr) (cA18 : Nat), l.getD 1 undef = .slice A18 x17.length cA18 → l.getD 0 undef = .slice A18 x17.length cA18)⟩] hz16 hd16 (by kernel_rfl) ?_ ?_
  · refine sc (fun _ _ _ _ s _ => px (or_move (s.1.trans e16_0))) ?_
    refine sc (fun _ _ _ _ s _ => px (or_move (s.1.trans e16_0))) ?_
    refine sc (fun _ _ _ f _ _ => px (or_len tu22 f.1 rfl)) ?_
    refine sc (fun _ _ _ f _ _ => px (or_min f.1 rfl)) ?_
    refine sc (fun _ _ _ f _ hE => px (or_view (R := R32) (l := l1) (L := [1]) tu22 ts32 f.1 Bnd.none_ (Bnd.some_ f.2.1) Bnd.none_ (RdO.evo rfl hE b16_Al1) hx17 (.inl rfl) (by simp))) ?_
    refine sc (fun own a wx hf hsl hE => ?_) ?_
    · obtain ⟨⟨⟨A18, cA18⟩, (f_7 : a.eval (.tmp 7) = .slice A18 x17.length cA18), b_A18⟩, -⟩ := hf
      exact px (or_mono (f := Fct.val 2 (.slice A18 x17.length cA18)) (or_assign f_7) (fun own' a' w' v' hp h => fun _ _ h0' => by cases (f_7.symm.trans ((hp.2 7 (by decide)).symm.trans h0')); exact h))
    exact steps_nil
  intro own19 a19 w19 hd19 hz19 hk19 hf19 hE19
  obtain ⟨⟨⟨A18, cA18⟩, (f_7 : a19.eval (.tmp 7) = .slice A18 x17.length cA18), (b19_A18 : RdO own19 [1] w19 R32 A18 cA18 x17)⟩, (q_2 : ∀ (A18 : Option Addr) (cA18 : Nat), a19.eval (.tmp 7) = .slice A18 x17.length cA18 → a19.eval (.tmp 2) = .slice A18 x17.length cA18), -⟩ := hf19 [4, 5] rfl
  have e19_2 := q_2 _ _ f_7
  have hX19 := Evo.step hX16 hown hE19 rfl
  refine fl_ret ?_
  obtain rfl := (osome hs).symm
  exact hret _ _ _ _ (.inl rfl) hd19 (results1_ rfl (RVal.tmp_ e19_2)) ⟨own19, (A18, cA18), rfl, hX19, (RdO.more b19_A18 (by decide))⟩
theorem exact_within_w (w : World) (n1 : Int) (least2 : Int) (greatest3 : Int) (r : Bool) (hs : exact_within n1 least2 greatest3 = some r) :
    Calls Try.prog 54 #[.int .i64 n1, .int .i64 least2, .int .i64 greatest3] w fun e w' => ∃ own' : Own, e = .returned (.bool r) ∧ Evo [] (fun _ => 0) own' w w' := by
  refine fl_enter (n := 15) rfl rfl rfl (Nat.le_of_ble_eq_true rfl) ?_
  intro a0 Q hd0 hz0 harg hret
  have ha0 := harg 0 _ rfl
  have ha1 := harg 1 _ rfl
  have ha2 := harg 2 _ rfl
  clear harg
  have hE0 : Evo [] (fun _ => 0) (fun _ => 0) w w := Evo.refl _ _ _
  refine rg0_seq 15 (fun _ => 0) (bz 1) [⟨[], [], [], Fct.val 6 (.bool false)⟩] hz0 hd0 (by kernel_rfl) ?_ ?_
  · refine sc (fun _ _ _ _ _ _ => px (or_assign rfl)) ?_
    exact steps_nil
  intro own14 a14 w14 hd14 hz14 hk14 hf14 hE14
  have e14_0 := (hk14 0 rfl).trans ha0
  have e14_1 := (hk14 1 rfl).trans ha1
  have e14_2 := (hk14 2 rfl).trans ha2
  have hX14 := es_ hE0 hE14
  obtain ⟨x15, hx15, hs⟩ := obind hs
  refine rg0_seq 15 own14 [0, 0, 3, 7, 15, 15, 63, 127, 255] [⟨[], [1], [], Fct.val 7 (.int .i64 least2)⟩, ⟨[], [0], [], Fct.val 8 (.int .i64 n1)⟩, ⟨[0, 1], [], [], Fct.val 9 (.bool (decide (least2 ≤ n1)))⟩, ⟨[2], [], [], Fct.val 10 (.bool (decide (least2 ≤ n1)))⟩, ⟨[3], [0], [], Fct.cond (decide (least2 ≤ n1)) (some 11) (Fct.val 11 (.int .i64 n1))⟩, ⟨[3], [2], [], Fct.cond (decide (least2 ≤ n1)) (some 12) (Fct.val 12 (.int .i64 greatest3))⟩, ⟨[3, 4, 5], [], [], Fct.cond (decide (least2 ≤ n1)) (some 13) (Fct.val 13 (.bool (decide (n1 ≤ greatest3))))⟩, ⟨[3, 6], [], [], Fct.val 14 (.bool x15)⟩, ⟨[7], [], [], Fct.val 6 (.bool x15)⟩] hz14 hd14 (by kernel_rfl) ?_ ?_
  · refine sc (fun _ _ _ _ s _ => px (or_move (s.1.trans e14_1))) ?_
    refine sc (fun _ _ _ _ s _ => px (or_move (s.1.trans e14_0))) ?_
    refine sc (fun _ _ _ f _ _ => px (or_leq f.1 f.2.1 rfl)) ?_
    refine sc (fun _ _ _ f _ _ => px (or_move f.1)) ?_
    refine sc (fun _ _ _ f s _ => sg_t rfl rfl rfl f.1 (fun hg => or_move (s.1.trans e14_0))) ?_
    refine sc (fun _ _ _ f s _ => sg_t rfl rfl rfl f.1 (fun hg => or_move (s.1.trans e14_2))) ?_
    refine sc (fun _ _ _ f _ _ => sg_t rfl rfl rfl f.1 (fun hg => or_leq (f.2.1.1 hg) (f.2.2.1.1 hg) rfl)) ?_
    refine sc (fun _ _ _ f _ _ => px (or_and f.1 (fun hx => f.2.1.1 hx) rfl (osome hx15).symm)) ?_
    refine sc (fun _ _ _ f _ _ => px (or_assign f.1)) ?_
    exact steps_nil
  intro own16 a16 w16 hd16 hz16 hk16 hf16 hE16
  obtain ⟨(e16_6 : a16.eval (.tmp 6) = .bool x15), -⟩ := hf16 [8] rfl
  have hX16 := es_ hX14 hE16
  refine fl_ret ?_
  obtain rfl := (osome hs).symm
  exact hret _ _ _ _ (.inl rfl) hd16 (results1_ rfl (RVal.tmp_ e16_6)) ⟨own16, rfl, hX16⟩
theorem exact_Right_w (w : World) (l1 : List (Int × Int)) (Al1 : Option Addr) (cl1 : Nat) (hl1 : RdO (fun _ => 0) [0] w R32 Al1 cl1 l1) (r : Bool) (hs : exact_Right l1 = some r) :
    Calls Try.prog 33 #[.slice Al1 l1.length cl1] w fun e w' => ∃ own' : Own, e = .returned (.bool r) ∧ Evo [] (fun _ => 0) own' w w' := by
  refine fl_enter (n := 22) rfl rfl rfl (Nat.le_of_ble_eq_true rfl) ?_
  intro a0 Q hd0 hz0 harg hret
  have ha0 := harg 0 _ rfl
  clear harg
  have hE0 : Evo [] (fun _ => 0) (fun _ => 0) w w := Evo.refl _ _ _
  refine rg0_seq 22 (fun _ => 0) (bz 1) [⟨[], [], [], Fct.val 2 (.bool false)⟩] hz0 hd0 (by kernel_rfl) ?_ ?_
  · refine sc (fun _ _ _ _ _ _ => px (or_assign rfl)) ?_
    exact steps_nil
  intro own69 a69 w69 hd69 hz69 hk69 hf69 hE69
  have e69_0 := (hk69 0 rfl).trans ha0
  have hX69 := es_ hE0 hE69
  have b69_Al1 := RdO.evo rfl hE69 hl1
  refine fl_seq (fun Q70 hn70 hp70 => ?_)
  refine rg0_seq 22 own69 [0, 1, 0] [⟨[], [0], [], Fct.val 5 (.slice Al1 l1.length cl1)⟩, ⟨[0], [], [], Fct.val 6 (.int .i64 (l1.length : Int))⟩, ⟨[], [], [], Fct.val 7 (.int .i64 0)⟩] hz69 hd69 (by kernel_rfl) ?_ ?_
  · refine sc (fun _ _ _ _ s _ => px (or_move (s.1.trans e69_0))) ?_
    refine sc (fun _ _ _ f _ _ => px (or_len tu22 f.1 rfl)) ?_
    refine sc (fun _ _ _ _ _ _ => px (or_move rfl)) ?_
    exact steps_nil
  intro own71 a71 w71 hd71 hz71 hk71 hf71 hE71
  obtain ⟨(e71_5 : a71.eval (.tmp 5) = .slice Al1 l1.length cl1), (e71_6 : a71.eval (.tmp 6) = .int .i64 (l1.length : Int)), (e71_7 : a71.eval (.tmp 7) = .int .i64 0), -⟩ := hf71 [0, 1, 2] rfl
  have hX71 := es_ hX69 hE71
  have b71_Al1 := RdO.evo rfl hE71 b69_Al1
  refine fl_block (fun Q72 hn72 hx72 hp72 => ?_)
  refine fl_loop (body := (fun s => exact_Right_b1 l1 s)) (z := r) (show loopO _ _ = _ from hs) (fun (x90 : Int) a wx => ∃ (ox : Own), a.defers = [] ∧ a.tmps.size = 22 ∧ a.eval (.tmp 5) = .slice Al1 l1.length cl1 ∧ a.eval (.tmp 6) = .int .i64 (l1.length : Int) ∧ a.eval (.tmp 7) = .int .i64 x90 ∧ Evo [] (fun _ => 0) ox w wx ∧ RdO ox [0] wx R32 Al1 cl1 l1) ?_ ?_
  · exact ⟨own71, hd71, hz71, e71_5, e71_6, e71_7, hX71, b71_Al1⟩
  · rintro x90 zz108 a108 w108 ⟨own108, hd109, hz109, e109_5, e109_6, e109_7, hE109, b109_Al1⟩ hs Q108 hn108 hp108 hz108
    have hs : exact_Right_b1 l1 x90 = some zz108 := hs
    refine rg0_seq 22 own108 (bz 1) [⟨[], [7, 6], [], Fct.val 8 (.bool (decide (x90 < (l1.length : Int))))⟩] hz109 hd109 (by kernel_rfl) ?_ ?_
    · refine sc (fun _ _ _ _ s _ => px (or_lss (s.1.trans e109_7) (s.2.1.trans e109_6) rfl)) ?_
      exact steps_nil
    intro own110 a110 w110 hd110 hz110 hk110 hf110 hE110
    have e110_5 := (hk110 5 rfl).trans e109_5
    have e110_6 := (hk110 6 rfl).trans e109_6
    have e110_7 := (hk110 7 rfl).trans e109_7
    obtain ⟨(e110_8 : a110.eval (.tmp 8) = .bool (decide (x90 < (l1.length : Int)))), -⟩ := hf110 [0] rfl
    have hX110 := es_ hE109 hE110
    have b110_Al1 := RdO.evo rfl hE110 b109_Al1
    refine fl_seq (fun Q111 hn111 hp111 => ?_)
    refine fl_cond e110_8 hs (fun c112 hs => ?_) (fun c112 hs => ?_)
    · refine fl_skip ?_
      refine hn111 _ _ ?_
      refine fl_seq (fun Q113 hn113 hp113 => ?_)
      refine fl_block (fun Q114 hn114 hx114 hp114 => ?_)
      obtain ⟨x115, hx115, hs⟩ := obind hs
      refine rg_plain_seq (n := 22) (rs := []) (own0 := own110) (K := [117]) (bs := [0, 1, 0, 7]) (ds := [⟨[], [5, 7], [], Fct.val 9 (.pointer (some ((adr Al1).add ((x90 : Int).toNat * R32.s))))⟩, ⟨[0], [], [], Fct.val 10 (.agg #[.int .i64 x115.1, .int .i64 x115.2])⟩, ⟨[], [], [], Fct.blk 117 4 (fun g => .pointer (some ⟨g, 0, none⟩)) 32 #[.int .i64 0, .int .i64 0]⟩, ⟨[2, 1], [], [117], Fct.blk 118 4 (fun g => .pointer (some ⟨g, 0, none⟩)) 32 #[.int .i64 x115.1, .int .i64 x115.2]⟩]) (by kernel_rfl) hz110 hd110 nm_ ?_ ?_
      · refine sc (fun _ _ _ _ s _ => px (or_index (R := R32) (l := l1) tl22 (s.1.trans e110_5) (s.2.1.trans e110_7) (RdO.some_ b110_Al1 hx115) hx115)) ?_
        refine sc (fun _ _ _ f _ hE => px (or_load (l := E32.f x115) ta32 f.1 (RdO.cells (F := E32) (RdO.evo rfl hE b110_Al1) hx115) rfl)) ?_
        refine sc (fun _ _ _ _ _ _ => px (or_new [] rfl rfl trivial (by kernel_rfl))) ?_
        refine sc (fun own a wx hf hsl hE => ?_) ?_
        · obtain ⟨⟨g116, f_4, b_g116⟩, f_10, -⟩ := hf
          exact px (or_store (l := #[.int .i64 x115.1, .int .i64 x115.2]) (lab := 117) (lab2 := 118) ts32 f_4 f_10 b_g116 (by simp) (by kernel_rfl) (mem_of rfl) (by decide) (by kernel_rfl) (fun own' a' w' ha hb => ⟨_, (ha 4).trans f_4, hb⟩))
        exact steps_nil
      intro own119 a119 w119 hd119 hz119 hk119 hf119 hE119
      have e119_5 := (hk119 5 rfl).trans e110_5
      have e119_6 := (hk119 6 rfl).trans e110_6
      have e119_7 := (hk119 7 rfl).trans e110_7
      obtain ⟨⟨g116, (e119_4 : a119.eval (.tmp 4) = .pointer (some ⟨g116, 0, none⟩)), (b119_g116 : BlkO own119 118 w119 g116 32 #[.int .i64 x115.1, .int .i64 x115.2])⟩, -⟩ := hf119 [3] rfl
      have hX119 := es_ hX110 hE119
      have b119_Al1 := RdO.evo rfl hE119 b110_Al1
      obtain ⟨r120, hr120, hs⟩ := obind hs
      obtain ⟨r121, hr121, hs⟩ := obind hs
      refine rg0_seq 22 own119 (bz 10) [⟨[], [4], [], Fct.val 11 (.pointer (some ⟨g116, 0, none⟩))⟩, ⟨[0], [], [], Fct.val 12 (.int .i64 x115.1)⟩, ⟨[1], [], [], Fct.val 13 (.bool r120)⟩, ⟨[2], [], [], Fct.val 14 (.bool (!r120))⟩, ⟨[3], [], [], Fct.val 15 (.bool (!r120))⟩, ⟨[4], [4], [], Fct.cond (!(!r120)) (some 16) (Fct.val 16 (.pointer (some ⟨g116, 1, none⟩)))⟩, ⟨[4, 5], [], [], Fct.cond (!(!r120)) (some 17) (Fct.val 17 (.int .i64 x115.2))⟩, ⟨[4, 6], [], [], Fct.cond (!(!r120)) (some 18) (Fct.val 18 (.bool r121))⟩, ⟨[4, 7], [], [], Fct.cond (!(!r120)) (some 19) (Fct.val 19 (.bool (!r121)))⟩, ⟨[4, 8], [], [], Fct.val 20 (.bool ((!r120) || (!r121)))⟩] hz119 hd119 (by kernel_rfl) ?_ ?_
      · refine sc (fun _ _ _ _ s _ => px (or_field fo32_0 (s.1.trans e119_4) (by rfl))) ?_
        refine sc (fun _ _ _ f _ hE => px (or_load1 to3 f.1 (Blk.at_ (be_ hE b119_g116).2 0 rfl))) ?_
        refine sc (fun _ _ _ f _ _ => px (or_call cf54 (args3 f.1 rfl rfl) (exact_within_w _ x115.1 (-16777216) 16777216  r120 hr120) post_val)) ?_
        refine sc (fun _ _ _ f _ _ => px (or_not f.1 rfl)) ?_
        refine sc (fun _ _ _ f _ _ => px (or_move f.1)) ?_
        refine sc (fun _ _ _ f s _ => sg_f rfl rfl rfl f.1 (fun hg => or_field fo32_1 (s.1.trans e119_4) (by rfl))) ?_
        refine sc (fun _ _ _ f _ hE => sg_f rfl rfl rfl f.1 (fun hg => or_load1 to3 (f.2.1.1 hg) (Blk.at_ (be_ hE b119_g116).2 1 rfl))) ?_
        refine sc (fun _ _ _ f _ _ => sg_f rfl rfl rfl f.1 (fun hg => or_call cf54 (args3 (f.2.1.1 hg) rfl rfl) (exact_within_w _ x115.2 (-16777216) 16777216  r121 (gd_t hr121 hg)) post_val)) ?_
        refine sc (fun _ _ _ f _ _ => sg_f rfl rfl rfl f.1 (fun hg => or_not (f.2.1.1 hg) rfl)) ?_
        refine sc (fun _ _ _ f _ _ => px (or_or f.1 rfl (fun hx => f.2.1.1 hx) rfl)) ?_
        exact steps_nil
      intro own122 a122 w122 hd122 hz122 hk122 hf122 hE122
      have e122_5 := (hk122 5 rfl).trans e119_5
      have e122_6 := (hk122 6 rfl).trans e119_6
      have e122_7 := (hk122 7 rfl).trans e119_7
      obtain ⟨(e122_20 : a122.eval (.tmp 20) = .bool ((!r120) || (!r121))), -⟩ := hf122 [9] rfl
      have hX122 := es_ hX119 hE122
      have b122_Al1 := RdO.evo rfl hE122 b119_Al1
      refine fl_cond e122_20 hs (fun c123 hs => ?_) (fun c123 hs => ?_)
      · refine rg0_seq 22 own122 (bz 1) [⟨[], [], [], Fct.val 2 (.bool false)⟩] hz122 hd122 (by kernel_rfl) ?_ ?_
        · refine sc (fun _ _ _ _ _ _ => px (or_assign rfl)) ?_
          exact steps_nil
        intro own124 a124 w124 hd124 hz124 hk124 hf124 hE124
        obtain ⟨(e124_2 : a124.eval (.tmp 2) = .bool false), -⟩ := hf124 [0] rfl
        have hX124 := es_ hX122 hE124
        refine fl_ret ?_
        refine hp114 _ _ _ rfl ?_
        refine hp113 _ _ _ rfl ?_
        replace hs := hz108 _ hs
        refine hp108 _ _ _ rfl ?_
        refine hp72 _ _ _ rfl ?_
        refine hp70 _ _ _ rfl ?_
        obtain rfl := osome hs
        exact hret _ _ _ _ (.inl rfl) hd124 (results1_ rfl (RVal.tmp_ e124_2)) ⟨own124, rfl, hX124⟩
      refine fl_skip ?_
      refine hn114 _ _ ?_
      refine hn113 _ _ ?_
      refine rg0 22 own122 (bz 2) [⟨[], [7], [], Fct.val 21 (.int .i64 (ad x90 1))⟩, ⟨[0], [], [], Fct.val 7 (.int .i64 (ad x90 1))⟩] hz122 hd122 (by kernel_rfl) ?_ ?_
      · refine sc (fun _ _ _ _ s _ => px (or_add (s.1.trans e122_7) rfl rfl)) ?_
        refine sc (fun _ _ _ f _ _ => px (or_move f.1)) ?_
        exact steps_nil
      intro own125 a125 w125 hd125 hz125 hk125 hf125 hE125
      have e125_5 := (hk125 5 rfl).trans e122_5
      have e125_6 := (hk125 6 rfl).trans e122_6
      obtain ⟨(e125_7 : a125.eval (.tmp 7) = .int .i64 (ad x90 1)), -⟩ := hf125 [1] rfl
      have hX125 := es_ hX122 hE125
      have b125_Al1 := RdO.evo rfl hE125 b122_Al1
      exact hn108 _ _ _ hs ⟨own125, hd125, hz125, e125_5, e125_6, e125_7, hX125, b125_Al1⟩
    refine fl_exit ?_
    refine hp111 _ _ _ rfl ?_
    replace hs := hz108 _ hs
    refine hp108 _ _ _ rfl ?_
    refine hx72 _ _ ?_
    refine hn70 _ _ ?_
    refine rg0_seq 22 own110 (bz 1) [⟨[], [], [], Fct.val 2 (.bool true)⟩] hz110 hd110 (by kernel_rfl) ?_ ?_
    · refine sc (fun _ _ _ _ _ _ => px (or_assign rfl)) ?_
      exact steps_nil
    intro own126 a126 w126 hd126 hz126 hk126 hf126 hE126
    obtain ⟨(e126_2 : a126.eval (.tmp 2) = .bool true), -⟩ := hf126 [0] rfl
    have hX126 := es_ hX110 hE126
    refine fl_ret ?_
    obtain rfl := osome hs
    exact hret _ _ _ _ (.inl rfl) hd126 (results1_ rfl (RVal.tmp_ e126_2)) ⟨own126, rfl, hX126⟩
theorem ring_edges_w (w : World) (l1 : List (Int × Int)) (Al1 : Option Addr) (cl1 : Nat) (hl1 : RdO (fun _ => 0) [0] w R32 Al1 cl1 l1) (r : Unit) (hs : ring_edges l1 = some r) :
    Calls Try.prog 34 #[.slice Al1 l1.length cl1] w fun e w' => ∃ (own' : Own) (x : Option Addr × Nat), e = .returned (.func (.func 55) #[] #[.pointer (some ⟨x.2, 0, none⟩)]) ∧ Evo [] (fun _ => 0) own' w w' ∧ BlkO own' 1 w' x.2 22 #[.slice Al1 l1.length cl1] := by
  refine fl_enter (n := 4) rfl rfl rfl (Nat.le_of_ble_eq_true rfl) ?_
  intro a0 Q hd0 hz0 harg hret
  have ha0 := harg 0 _ rfl
  clear harg
  have hE0 : Evo [] (fun _ => 0) (fun _ => 0) w w := Evo.refl _ _ _
  refine rg0_seq 4 (fun _ => 0) [0, 0] [⟨[], [0], [], Fct.blk 16 1 (fun g => .pointer (some ⟨g, 0, none⟩)) 22 #[.slice Al1 l1.length cl1]⟩, ⟨[], [], [], Fct.val 2 (.nilFunc)⟩] hz0 hd0 (by kernel_rfl) ?_ ?_
  · refine sc (fun _ _ _ _ s _ => px (or_new [(0, .slice Al1 l1.length cl1)] rfl rfl ⟨(s.1.trans ha0), trivial⟩ (by kernel_rfl))) ?_
    refine sc (fun _ _ _ _ _ _ => px (or_assign rfl)) ?_
    exact steps_nil
  intro own17 a17 w17 hd17 hz17 hk17 hf17 hE17
  obtain ⟨⟨g15, (e17_1 : a17.eval (.tmp 1) = .pointer (some ⟨g15, 0, none⟩)), (b17_g15 : BlkO own17 16 w17 g15 22 #[.slice Al1 l1.length cl1])⟩, -⟩ := hf17 [0] rfl
  have hX17 := es_ hE0 hE17
  have b17_Al1 := RdO.evo rfl hE17 hl1
  refine rg0_seq 4 own17 (bz 2) [⟨[], [1], [], Fct.val 3 (.func (.func 55) #[] #[.pointer (some ⟨g15, 0, none⟩)])⟩, ⟨[0], [], [], Fct.val 2 (.func (.func 55) #[] #[.pointer (some ⟨g15, 0, none⟩)])⟩] hz17 hd17 (by kernel_rfl) ?_ ?_
  · refine sc (fun _ _ _ _ s _ => px (or_k [(1, .pointer (some ⟨g15, 0, none⟩))] rfl rfl ⟨(s.1.trans e17_1), trivial⟩ (by kernel_rfl))) ?_
    refine sc (fun _ _ _ f _ _ => px (or_assign f.1)) ?_
    exact steps_nil
  intro own18 a18 w18 hd18 hz18 hk18 hf18 hE18
  obtain ⟨(e18_2 : a18.eval (.tmp 2) = .func (.func 55) #[] #[.pointer (some ⟨g15, 0, none⟩)]), -⟩ := hf18 [1] rfl
  have hX18 := es_ hX17 hE18
  have b18_Al1 := RdO.evo rfl hE18 b17_Al1
  have b18_g15 := be_ hE18 b17_g15
  refine fl_ret ?_
  obtain rfl := osome hs
  exact hret _ _ _ _ (.inl rfl) hd18 (results1_ rfl (RVal.tmp_ e18_2)) ⟨(rl [(16, 1)] own18), (none, g15), rfl, (Evo.rl_ hX18 (fun _ => Nat.le_refl 0) rfl), (BlkO.rl_ (mm := [(16, 1)]) b18_g15)⟩
theorem exact_Cross_w (w : World) (x1 : Int × Int) (b2 : Int × Int) (c3 : Int × Int) (r : Int) (hs : exact_Cross x1 b2 c3 = some r) :
    Calls Try.prog 35 #[.agg #[.int .i64 x1.1, .int .i64 x1.2], .agg #[.int .i64 b2.1, .int .i64 b2.2], .agg #[.int .i64 c3.1, .int .i64 c3.2]] w fun e w' => ∃ own' : Own, e = .returned (.int .i64 r) ∧ Evo [] (fun _ => 0) own' w w' := by
  refine fl_enter (n := 36) rfl rfl rfl (Nat.le_of_ble_eq_true rfl) ?_
  intro a0 Q hd0 hz0 harg hret
  have ha0 := harg 0 _ rfl
  have ha1 := harg 1 _ rfl
  have ha2 := harg 2 _ rfl
  clear harg
  have hE0 : Evo [] (fun _ => 0) (fun _ => 0) w w := Evo.refl _ _ _
  refine rg0_seq 36 (fun _ => 0) [0, 0, 0, 0] [⟨[], [0], [], Fct.blk 28 3 (fun g => .pointer (some ⟨g, 0, none⟩)) 32 #[.int .i64 x1.1, .int .i64 x1.2]⟩, ⟨[], [1], [], Fct.blk 30 4 (fun g => .pointer (some ⟨g, 0, none⟩)) 32 #[.int .i64 b2.1, .int .i64 b2.2]⟩, ⟨[], [2], [], Fct.blk 32 5 (fun g => .pointer (some ⟨g, 0, none⟩)) 32 #[.int .i64 c3.1, .int .i64 c3.2]⟩, ⟨[], [], [], Fct.val 6 (.int .i64 0)⟩] hz0 hd0 (by kernel_rfl) ?_ ?_
  · refine sc (fun _ _ _ _ s _ => px (or_new [(0, .agg #[.int .i64 x1.1, .int .i64 x1.2])] rfl rfl ⟨(s.1.trans ha0), trivial⟩ (by kernel_rfl))) ?_
    refine sc (fun _ _ _ _ s _ => px (or_new [(1, .agg #[.int .i64 b2.1, .int .i64 b2.2])] rfl rfl ⟨(s.1.trans ha1), trivial⟩ (by kernel_rfl))) ?_
    refine sc (fun _ _ _ _ s _ => px (or_new [(2, .agg #[.int .i64 c3.1, .int .i64 c3.2])] rfl rfl ⟨(s.1.trans ha2), trivial⟩ (by kernel_rfl))) ?_
    refine sc (fun _ _ _ _ _ _ => px (or_assign rfl)) ?_
    exact steps_nil
  intro own33 a33 w33 hd33 hz33 hk33 hf33 hE33
  obtain ⟨⟨g27, (e33_3 : a33.eval (.tmp 3) = .pointer (some ⟨g27, 0, none⟩)), (b33_g27 : BlkO own33 28 w33 g27 32 #[.int .i64 x1.1, .int .i64 x1.2])⟩, ⟨g29, (e33_4 : a33.eval (.tmp 4) = .pointer (some ⟨g29, 0, none⟩)), (b33_g29 : BlkO own33 30 w33 g29 32 #[.int .i64 b2.1, .int .i64 b2.2])⟩, ⟨g31, (e33_5 : a33.eval (.tmp 5) = .pointer (some ⟨g31, 0, none⟩)), (b33_g31 : BlkO own33 32 w33 g31 32 #[.int .i64 c3.1, .int .i64 c3.2])⟩, -⟩ := hf33 [0, 1, 2] rfl
  have hX33 := es_ hE0 hE33
  refine fl_seq (fun Q34 hn34 hp34 => ?_)
  obtain ⟨r37, hr37, hs⟩ := obind hs
  refine rg0_seq 36 own33 [0, 0, 0, 7, 15, 31] [⟨[], [3], [], Fct.val 7 (.agg #[.int .i64 x1.1, .int .i64 x1.2])⟩, ⟨[], [4], [], Fct.val 8 (.agg #[.int .i64 b2.1, .int .i64 b2.2])⟩, ⟨[], [5], [], Fct.val 9 (.agg #[.int .i64 c3.1, .int .i64 c3.2])⟩, ⟨[0, 1, 2], [], [], Fct.row 36 [] 10 32 R32 [x1, b2, c3]⟩, ⟨[3], [], [], Fct.val 11 (.bool r37)⟩, ⟨[4], [], [], Fct.val 12 (.bool (!r37))⟩] hz33 hd33 (by kernel_rfl) ?_ ?_
  · refine sc (fun _ _ _ _ s hE => px (or_load (l := [.int .i64 x1.1, .int .i64 x1.2]) ta32 (s.1.trans e33_3) (Blk.cellsFrom (be_ hE b33_g27).2 0 rfl) rfl)) ?_
    refine sc (fun _ _ _ _ s hE => px (or_load (l := [.int .i64 b2.1, .int .i64 b2.2]) ta32 (s.1.trans e33_4) (Blk.cellsFrom (be_ hE b33_g29).2 0 rfl) rfl)) ?_
    refine sc (fun _ _ _ _ s hE => px (or_load (l := [.int .i64 c3.1, .int .i64 c3.2]) ta32 (s.1.trans e33_5) (Blk.cellsFrom (be_ hE b33_g31).2 0 rfl) rfl)) ?_
    refine sc (fun _ _ _ f _ _ => px (or_lit (lab := 36) (e := 32) (cs := #[.int .i64 x1.1, .int .i64 x1.2, .int .i64 b2.1, .int .i64 b2.2, .int .i64 c3.1, .int .i64 c3.2]) (F := E32) (or_new [(7, .agg #[.int .i64 x1.1, .int .i64 x1.2]), (8, .agg #[.int .i64 b2.1, .int .i64 b2.2]), (9, .agg #[.int .i64 c3.1, .int .i64 c3.2])] rfl rfl ⟨f.1, f.2.1, f.2.2.1, trivial⟩ (by kernel_rfl)) rfl rfl (show 3 ≤ maxLen by decide))) ?_
    refine sc (fun own a wx hf hsl hE => ?_) ?_
    · obtain ⟨⟨⟨A35, cA35⟩, f_10, b_A35⟩, -⟩ := hf
      exact px (or_call cf33 (args1 f_10) (exact_Right_w _ [x1, b2, c3] A35 cA35 (RdO.zero (RwO.rd b_A35)) r37 hr37) post_val)
    refine sc (fun _ _ _ f _ _ => px (or_not f.1 rfl)) ?_
    exact steps_nil
  intro own38 a38 w38 hd38 hz38 hk38 hf38 hE38
  have e38_3 := (hk38 3 rfl).trans e33_3
  have e38_4 := (hk38 4 rfl).trans e33_4
  have e38_5 := (hk38 5 rfl).trans e33_5
  obtain ⟨(e38_12 : a38.eval (.tmp 12) = .bool (!r37)), -⟩ := hf38 [5] rfl
  have hX38 := es_ hX33 hE38
  have b38_g27 := be_ hE38 b33_g27
  have b38_g29 := be_ hE38 b33_g29
  have b38_g31 := be_ hE38 b33_g31
  refine fl_cond e38_12 hs (fun c39 hs => ?_) (fun c39 hs => ?_)
  · refine rg0_seq 36 own38 (bz 1) [⟨[], [], [], Fct.val 6 (.int .i64 0)⟩] hz38 hd38 (by kernel_rfl) ?_ ?_
    · refine sc (fun _ _ _ _ _ _ => px (or_assign rfl)) ?_
      exact steps_nil
    intro own40 a40 w40 hd40 hz40 hk40 hf40 hE40
    obtain ⟨(e40_6 : a40.eval (.tmp 6) = .int .i64 0), -⟩ := hf40 [0] rfl
    have hX40 := es_ hX38 hE40
    refine fl_ret ?_
    refine hp34 _ _ _ rfl ?_
    obtain rfl := osome hs
    exact hret _ _ _ _ (.inl rfl) hd40 (results1_ rfl (RVal.tmp_ e40_6)) ⟨own40, rfl, hX40⟩
  refine fl_skip ?_
  refine hn34 _ _ ?_
  obtain ⟨x41, hx41, hs⟩ := obind hs
  refine rg0_seq 36 own38 [0, 1, 0, 4, 15, 0, 32, 0, 128, 480, 1023, 0, 2048, 0, 8192, 30720, 0, 65536, 0, 262144, 983040, 2095104, 4194303, 8388607] [⟨[], [4], [], Fct.val 13 (.pointer (some ⟨g29, 0, none⟩))⟩, ⟨[0], [], [], Fct.val 14 (.int .i64 b2.1)⟩, ⟨[], [3], [], Fct.val 15 (.pointer (some ⟨g27, 0, none⟩))⟩, ⟨[2], [], [], Fct.val 16 (.int .i64 x1.1)⟩, ⟨[1, 3], [], [], Fct.val 17 (.int .i64 (sb b2.1 x1.1))⟩, ⟨[], [5], [], Fct.val 18 (.pointer (some ⟨g31, 1, none⟩))⟩, ⟨[5], [], [], Fct.val 19 (.int .i64 c3.2)⟩, ⟨[], [3], [], Fct.val 20 (.pointer (some ⟨g27, 1, none⟩))⟩, ⟨[7], [], [], Fct.val 21 (.int .i64 x1.2)⟩, ⟨[6, 8], [], [], Fct.val 22 (.int .i64 (sb c3.2 x1.2))⟩, ⟨[4, 9], [], [], Fct.val 23 (.int .i64 (ml (sb b2.1 x1.1) (sb c3.2 x1.2)))⟩, ⟨[], [4], [], Fct.val 24 (.pointer (some ⟨g29, 1, none⟩))⟩, ⟨[11], [], [], Fct.val 25 (.int .i64 b2.2)⟩, ⟨[], [3], [], Fct.val 26 (.pointer (some ⟨g27, 1, none⟩))⟩, ⟨[13], [], [], Fct.val 27 (.int .i64 x1.2)⟩, ⟨[12, 14], [], [], Fct.val 28 (.int .i64 (sb b2.2 x1.2))⟩, ⟨[], [5], [], Fct.val 29 (.pointer (some ⟨g31, 0, none⟩))⟩, ⟨[16], [], [], Fct.val 30 (.int .i64 c3.1)⟩, ⟨[], [3], [], Fct.val 31 (.pointer (some ⟨g27, 0, none⟩))⟩, ⟨[18], [], [], Fct.val 32 (.int .i64 x1.1)⟩, ⟨[17, 19], [], [], Fct.val 33 (.int .i64 (sb c3.1 x1.1))⟩, ⟨[15, 20], [], [], Fct.val 34 (.int .i64 (ml (sb b2.2 x1.2) (sb c3.1 x1.1)))⟩, ⟨[10, 21], [], [], Fct.val 35 (.int .i64 x41)⟩, ⟨[22], [], [], Fct.val 6 (.int .i64 x41)⟩] hz38 hd38 (by kernel_rfl) ?_ ?_
  · refine sc (fun _ _ _ _ s _ => px (or_field fo32_0 (s.1.trans e38_4) (by rfl))) ?_
    refine sc (fun _ _ _ f _ hE => px (or_load1 to3 f.1 (Blk.at_ (be_ hE b38_g29).2 0 rfl))) ?_
    refine sc (fun _ _ _ _ s _ => px (or_field fo32_0 (s.1.trans e38_3) (by rfl))) ?_
    refine sc (fun _ _ _ f _ hE => px (or_load1 to3 f.1 (Blk.at_ (be_ hE b38_g27).2 0 rfl))) ?_
    refine sc (fun _ _ _ f _ _ => px (or_sub f.1 f.2.1 rfl)) ?_
    refine sc (fun _ _ _ _ s _ => px (or_field fo32_1 (s.1.trans e38_5) (by rfl))) ?_
    refine sc (fun _ _ _ f _ hE => px (or_load1 to3 f.1 (Blk.at_ (be_ hE b38_g31).2 1 rfl))) ?_
    refine sc (fun _ _ _ _ s _ => px (or_field fo32_1 (s.1.trans e38_3) (by rfl))) ?_
    refine sc (fun _ _ _ f _ hE => px (or_load1 to3 f.1 (Blk.at_ (be_ hE b38_g27).2 1 rfl))) ?_
    refine sc (fun _ _ _ f _ _ => px (or_sub f.1 f.2.1 rfl)) ?_
    refine sc (fun _ _ _ f _ _ => px (or_mul f.1 f.2.1 rfl)) ?_
    refine sc (fun _ _ _ _ s _ => px (or_field fo32_1 (s.1.trans e38_4) (by rfl))) ?_
    refine sc (fun _ _ _ f _ hE => px (or_load1 to3 f.1 (Blk.at_ (be_ hE b38_g29).2 1 rfl))) ?_
    refine sc (fun _ _ _ _ s _ => px (or_field fo32_1 (s.1.trans e38_3) (by rfl))) ?_
    refine sc (fun _ _ _ f _ hE => px (or_load1 to3 f.1 (Blk.at_ (be_ hE b38_g27).2 1 rfl))) ?_
    refine sc (fun _ _ _ f _ _ => px (or_sub f.1 f.2.1 rfl)) ?_
    refine sc (fun _ _ _ _ s _ => px (or_field fo32_0 (s.1.trans e38_5) (by rfl))) ?_
    refine sc (fun _ _ _ f _ hE => px (or_load1 to3 f.1 (Blk.at_ (be_ hE b38_g31).2 0 rfl))) ?_
    refine sc (fun _ _ _ _ s _ => px (or_field fo32_0 (s.1.trans e38_3) (by rfl))) ?_
    refine sc (fun _ _ _ f _ hE => px (or_load1 to3 f.1 (Blk.at_ (be_ hE b38_g27).2 0 rfl))) ?_
    refine sc (fun _ _ _ f _ _ => px (or_sub f.1 f.2.1 rfl)) ?_
    refine sc (fun _ _ _ f _ _ => px (or_mul f.1 f.2.1 rfl)) ?_
    refine sc (fun _ _ _ f _ _ => px (or_sub f.1 f.2.1 (osome hx41).symm)) ?_
    refine sc (fun _ _ _ f _ _ => px (or_assign f.1)) ?_
    exact steps_nil
  intro own42 a42 w42 hd42 hz42 hk42 hf42 hE42
  obtain ⟨(e42_6 : a42.eval (.tmp 6) = .int .i64 x41), -⟩ := hf42 [23] rfl
  have hX42 := es_ hX38 hE42
  refine fl_ret ?_
  obtain rfl := (osome hs).symm
  exact hret _ _ _ _ (.inl rfl) hd42 (results1_ rfl (RVal.tmp_ e42_6)) ⟨own42, rfl, hX42⟩
theorem ring_edges_1_w (w : World) (own : Own) (Sx : Type) (yy : Sx → ((Int × Int) × (Int × Int)) → Option (Bool × Sx)) (Jx : Sq Sx) (lx : Nat) (sx0 : Sx) (f1 : List (Int × Int)) (gf1 : Nat) (tf1 : TypeId) (Af1_0 : Option Addr) (cf1_0 : Nat) (hown : ∀ b, own b ≤ 1) (hYx : Rounds Try.prog lx (fun (x : (Int × Int) × (Int × Int)) => #[.agg #[.int .i64 x.1.1, .int .i64 x.1.2], .agg #[.int .i64 x.2.1, .int .i64 x.2.2]]) yy Jx) (hJx : SqO Jx own 1 w sx0) (hgf1 : BlkO own 0 w gf1 tf1 #[.slice Af1_0 f1.length cf1_0]) (hAf1_0 : RdO own [0] w R32 Af1_0 cf1_0 f1) (r : Sx) (hs : ring_edges_1 Sx yy sx0 f1 = some r) :
    Calls Try.prog 55 #[.func (.yield lx) #[] #[], .pointer (some ⟨gf1, 0, none⟩)] w fun e w' => ∃ (own' : Own), e = .returned (.tuple #[]) ∧ Evo [1] own own' w w' ∧ SqO Jx own' 1 w' r := by
  refine fl_enter (n := 25) rfl rfl rfl (Nat.le_of_ble_eq_true rfl) ?_
  intro a0 Q hd0 hz0 harg hret
  have ha0 := harg 0 _ rfl
  have ha1 := harg 1 _ rfl
  clear harg
  have hE0 : Evo [1] own own w w := Evo.refl _ _ _
  refine rg0_seq 25 own [0, 1, 0] [⟨[], [1], [], Fct.val 5 (.slice Af1_0 f1.length cf1_0)⟩, ⟨[0], [], [], Fct.val 6 (.int .i64 (f1.length : Int))⟩, ⟨[], [], [], Fct.val 7 (.int .i64 0)⟩] hz0 hd0 (by kernel_rfl) ?_ ?_
  · refine sc (fun _ _ _ _ s hE => px (or_load1 to22 (s.1.trans ha1) (Blk.at_ (be_ hE hgf1).2 0 rfl))) ?_
    refine sc (fun _ _ _ f _ _ => px (or_len tu22 f.1 rfl)) ?_
    refine sc (fun _ _ _ _ _ _ => px (or_move rfl)) ?_
    exact steps_nil
  intro own78 a78 w78 hd78 hz78 hk78 hf78 hE78
  have e78_0 := (hk78 0 rfl).trans ha0
  have e78_1 := (hk78 1 rfl).trans ha1
  obtain ⟨(e78_5 : a78.eval (.tmp 5) = .slice Af1_0 f1.length cf1_0), (e78_6 : a78.eval (.tmp 6) = .int .i64 (f1.length : Int)), (e78_7 : a78.eval (.tmp 7) = .int .i64 0), -⟩ := hf78 [0, 1, 2] rfl
  have hX78 := Evo.step hE0 hown hE78 rfl
  have b78_Jx := SqO.evo (by decide) hE78 hJx
  have b78_Af1_0 := RdO.evo rfl hE78 hAf1_0
  have b78_gf1 := be_ hE78 hgf1
  refine fl_block (fun Q79 hn79 hx79 hp79 => ?_)
  refine fl_loop (body := (fun s => ring_edges_1_b1 Sx yy f1 s.1 s.2)) (z := r) (show loopO _ _ = _ from hs) (fun (s : Int × Sx) a wx => match s with | (x100, sx101) => ∃ (ox : Own), a.defers = [] ∧ a.tmps.size = 25 ∧ a.eval (.tmp 0) = .func (.yield lx) #[] #[] ∧ a.eval (.tmp 1) = .pointer (some ⟨gf1, 0, none⟩) ∧ a.eval (.tmp 5) = .slice Af1_0 f1.length cf1_0 ∧ a.eval (.tmp 6) = .int .i64 (f1.length : Int) ∧ a.eval (.tmp 7) = .int .i64 x100 ∧ Evo [1] own ox w wx ∧ BlkO ox 0 wx gf1 tf1 #[.slice Af1_0 f1.length cf1_0] ∧ RdO ox [0] wx R32 Af1_0 cf1_0 f1 ∧ SqO Jx ox 102 wx sx101) ?_ ?_
  · exact ⟨(rl [(1, 102)] own78), hd78, hz78, e78_0, e78_1, e78_5, e78_6, e78_7, (Evo.rl_ hX78 hown rfl), (BlkO.rl_ (mm := [(1, 102)]) b78_gf1), (RdO.rl_ (mm := [(1, 102)]) b78_Af1_0), (SqO.rl_ (mm := [(1, 102)]) b78_Jx rfl (by decide))⟩
  · rintro ⟨x100, sx101⟩ zz123 a123 w123 ⟨own123, hd124, hz124, e124_0, e124_1, e124_5, e124_6, e124_7, hE124, b124_gf1, b124_Af1_0, b124_Jx⟩ hs Q123 hn123 hp123 hz123
    have hs : ring_edges_1_b1 Sx yy f1 x100 sx101 = some zz123 := hs
    refine rg0_seq 25 own123 (bz 1) [⟨[], [7, 6], [], Fct.val 8 (.bool (decide (x100 < (f1.length : Int))))⟩] hz124 hd124 (by kernel_rfl) ?_ ?_
    · refine sc (fun _ _ _ _ s _ => px (or_lss (s.1.trans e124_7) (s.2.1.trans e124_6) rfl)) ?_
      exact steps_nil
    intro own125 a125 w125 hd125 hz125 hk125 hf125 hE125
    have e125_0 := (hk125 0 rfl).trans e124_0
    have e125_1 := (hk125 1 rfl).trans e124_1
    have e125_5 := (hk125 5 rfl).trans e124_5
    have e125_6 := (hk125 6 rfl).trans e124_6
    have e125_7 := (hk125 7 rfl).trans e124_7
    obtain ⟨(e125_8 : a125.eval (.tmp 8) = .bool (decide (x100 < (f1.length : Int)))), -⟩ := hf125 [0] rfl
    have hX125 := Evo.step hE124 hown hE125 rfl
    have b125_gf1 := be_ hE125 b124_gf1
    have b125_Af1_0 := RdO.evo rfl hE125 b124_Af1_0
    have b125_Jx := SqO.evo (by decide) hE125 b124_Jx
    refine fl_seq (fun Q126 hn126 hp126 => ?_)
    refine fl_cond e125_8 hs (fun c127 hs => ?_) (fun c127 hs => ?_)
    · refine fl_skip ?_
      refine hn126 _ _ ?_
      refine fl_seq (fun Q128 hn128 hp128 => ?_)
      refine fl_block (fun Q129 hn129 hx129 hp129 => ?_)
      obtain ⟨x130, hx130, hs⟩ := obind hs
      refine rg_plain_seq (n := 25) (rs := []) (own0 := own125) (K := [132]) (bs := [0, 0, 2, 0, 15, 31]) (ds := [⟨[], [7], [], Fct.val 9 (.int .i64 x100)⟩, ⟨[], [5, 7], [], Fct.val 10 (.pointer (some ((adr Af1_0).add ((x100 : Int).toNat * R32.s))))⟩, ⟨[1], [], [], Fct.val 11 (.agg #[.int .i64 x130.1, .int .i64 x130.2])⟩, ⟨[], [], [], Fct.blk 132 4 (fun g => .pointer (some ⟨g, 0, none⟩)) 32 #[.int .i64 0, .int .i64 0]⟩, ⟨[0], [], [], Fct.val 3 (.int .i64 x100)⟩, ⟨[3, 2], [], [132], Fct.blk 133 4 (fun g => .pointer (some ⟨g, 0, none⟩)) 32 #[.int .i64 x130.1, .int .i64 x130.2]⟩]) (by kernel_rfl) hz125 hd125 nm_ ?_ ?_
      · refine sc (fun _ _ _ _ s _ => px (or_move (s.1.trans e125_7))) ?_
        refine sc (fun _ _ _ _ s _ => px (or_index (R := R32) (l := f1) tl22 (s.1.trans e125_5) (s.2.1.trans e125_7) (RdO.some_ b125_Af1_0 hx130) hx130)) ?_
        refine sc (fun _ _ _ f _ hE => px (or_load (l := E32.f x130) ta32 f.1 (RdO.cells (F := E32) (RdO.evo rfl hE b125_Af1_0) hx130) rfl)) ?_
        refine sc (fun _ _ _ _ _ _ => px (or_new [] rfl rfl trivial (by kernel_rfl))) ?_
        refine sc (fun _ _ _ f _ _ => px (or_assign f.1)) ?_
        refine sc (fun own a wx hf hsl hE => ?_) ?_
        · obtain ⟨⟨g131, f_4, b_g131⟩, f_11, -⟩ := hf
          exact px (or_store (l := #[.int .i64 x130.1, .int .i64 x130.2]) (lab := 132) (lab2 := 133) ts32 f_4 f_11 b_g131 (by simp) (by kernel_rfl) (mem_of rfl) (by decide) (by kernel_rfl) (fun own' a' w' ha hb => ⟨_, (ha 4).trans f_4, hb⟩))
        exact steps_nil
      intro own134 a134 w134 hd134 hz134 hk134 hf134 hE134
      have e134_0 := (hk134 0 rfl).trans e125_0
      have e134_1 := (hk134 1 rfl).trans e125_1
      have e134_5 := (hk134 5 rfl).trans e125_5
      have e134_6 := (hk134 6 rfl).trans e125_6
      have e134_7 := (hk134 7 rfl).trans e125_7
      obtain ⟨⟨g131, (e134_4 : a134.eval (.tmp 4) = .pointer (some ⟨g131, 0, none⟩)), (b134_g131 : BlkO own134 133 w134 g131 32 #[.int .i64 x130.1, .int .i64 x130.2])⟩, (e134_3 : a134.eval (.tmp 3) = .int .i64 x100), -⟩ := hf134 [5, 4] rfl
      have hX134 := Evo.step hX125 hown hE134 rfl
      have b134_gf1 := be_ hE134 b125_gf1
      have b134_Af1_0 := RdO.evo rfl hE134 b125_Af1_0
      have b134_Jx := SqO.evo (by decide) hE134 b125_Jx
      obtain ⟨x137, hx137, hs⟩ := obind hs
      obtain ⟨x138, hx138, hs⟩ := obind hs
      obtain ⟨z139, hz139, hs⟩ := obind hs
      refine rg_draw_seq g_mixed (n := 25) (rs := [Fct.seqAt Jx 102 sx101]) (own0 := own134) (K := [102]) (bs := [0, 0, 0, 0, 8, 0, 32, 120, 252, 508, 1023, 2047]) (ds := [⟨[], [0], [], Fct.val 12 (.func (.yield lx) #[] #[])⟩, ⟨[], [4], [], Fct.val 13 (.agg #[.int .i64 x130.1, .int .i64 x130.2])⟩, ⟨[], [1], [], Fct.val 14 (.slice Af1_0 f1.length cf1_0)⟩, ⟨[], [3], [], Fct.val 15 (.int .i64 x100)⟩, ⟨[3], [], [], Fct.val 16 (.int .i64 (ad x100 1))⟩, ⟨[], [1], [], Fct.val 17 (.slice Af1_0 f1.length cf1_0)⟩, ⟨[5], [], [], Fct.val 18 (.int .i64 (f1.length : Int))⟩, ⟨[4, 6], [], [], Fct.val 19 (.int .i64 x137)⟩, ⟨[2, 7], [], [], Fct.val 20 (.pointer (some ((adr Af1_0).add ((x137 : Int).toNat * R32.s))))⟩, ⟨[8], [], [], Fct.val 21 (.agg #[.int .i64 x138.1, .int .i64 x138.2])⟩, ⟨[0, 1, 9, 12], [], [102], Fct.seq Jx 140 22 z139.1 z139.2⟩, ⟨[10], [], [], Fct.val 23 (.bool (!z139.1))⟩]) (by kernel_rfl) hz134 hd134 (by simp only [List.forall_mem_cons]; exact ⟨b134_Jx, fun _ h => nomatch h⟩) ?_ ?_
      · refine sc (fun _ _ _ _ s _ => px (or_move (s.1.trans e134_0))) ?_
        refine sc (fun _ _ _ _ s hE => px (or_load (l := [.int .i64 x130.1, .int .i64 x130.2]) ta32 (s.1.trans e134_4) (Blk.cellsFrom (be_ hE b134_g131).2 0 rfl) rfl)) ?_
        refine sc (fun _ _ _ _ s hE => px (or_load1 to22 (s.1.trans e134_1) (Blk.at_ (be_ hE b134_gf1).2 0 rfl))) ?_
        refine sc (fun _ _ _ _ s _ => px (or_move (s.1.trans e134_3))) ?_
        refine sc (fun _ _ _ f _ _ => px (or_add f.1 rfl rfl)) ?_
        refine sc (fun _ _ _ _ s hE => px (or_load1 to22 (s.1.trans e134_1) (Blk.at_ (be_ hE b134_gf1).2 0 rfl))) ?_
        refine sc (fun _ _ _ f _ _ => px (or_len tu22 f.1 rfl)) ?_
        refine sc (fun _ _ _ f _ _ => px (or_rem f.1 f.2.1 hx137)) ?_
        refine sc (fun _ _ _ f _ _ => px (or_index (R := R32) (l := f1) tl22 f.1 f.2.1 (RdO.some_ b134_Af1_0 hx138) hx138)) ?_
        refine sc (fun _ _ _ f _ hE => px (or_load (l := E32.f x138) ta32 f.1 (RdO.cells (F := E32) (RdO.evo rfl hE b134_Af1_0) hx138) rfl)) ?_
        refine sc (fun own a wx hf hsl hE => ?_) ?_
        · obtain ⟨f_12, f_13, f_21, b_Jx, -⟩ := hf
          exact sg_plainF rfl (or_yield (x := (x130, x138)) (lab := 102) (lab2 := 140) f_12 (args2 f_13 f_21) hYx b_Jx hz139 (mem_of rfl) (by decide))
        refine sc (fun own a wx hf hsl hE => ?_) ?_
        · obtain ⟨⟨f_22, b_Jx⟩, -⟩ := hf
          exact px (or_not f_22 rfl)
        exact steps_nil
      intro own141 a141 w141 hd141 hz141 hk141 hf141 hE141
      have e141_0 := (hk141 0 rfl).trans e134_0
      have e141_1 := (hk141 1 rfl).trans e134_1
      have e141_5 := (hk141 5 rfl).trans e134_5
      have e141_6 := (hk141 6 rfl).trans e134_6
      have e141_7 := (hk141 7 rfl).trans e134_7
      obtain ⟨(e141_23 : a141.eval (.tmp 23) = .bool (!z139.1)), ⟨(f_22 : a141.eval (.tmp 22) = .bool z139.1), (b141_Jx : SqO Jx own141 140 w141 z139.2)⟩, -⟩ := hf141 [11, 10] rfl
      have hX141 := Evo.step hX134 hown hE141 rfl
      have b141_gf1 := be_ hE141 b134_gf1
      have b141_Af1_0 := RdO.evo rfl hE141 b134_Af1_0
      refine fl_cond e141_23 hs (fun c142 hs => ?_) (fun c142 hs => ?_)
      · refine fl_ret ?_
        refine hp129 _ _ _ rfl ?_
        refine hp128 _ _ _ rfl ?_
        replace hs := hz123 _ hs
        refine hp123 _ _ _ rfl ?_
        refine hp79 _ _ _ rfl ?_
        obtain rfl := osome hs
        exact hret _ _ _ _ (.inl rfl) hd141 (results0_ rfl ) ⟨(rl [(140, 1)] own141), rfl, (Evo.rl_ hX141 hown rfl), (SqO.rl_ (mm := [(140, 1)]) b141_Jx rfl (by decide))⟩
      refine fl_skip ?_
      refine hn129 _ _ ?_
      refine hn128 _ _ ?_
      refine rg0 25 own141 (bz 2) [⟨[], [7], [], Fct.val 24 (.int .i64 (ad x100 1))⟩, ⟨[0], [], [], Fct.val 7 (.int .i64 (ad x100 1))⟩] hz141 hd141 (by kernel_rfl) ?_ ?_
      · refine sc (fun _ _ _ _ s _ => px (or_add (s.1.trans e141_7) rfl rfl)) ?_
        refine sc (fun _ _ _ f _ _ => px (or_move f.1)) ?_
        exact steps_nil
      intro own143 a143 w143 hd143 hz143 hk143 hf143 hE143
      have e143_0 := (hk143 0 rfl).trans e141_0
      have e143_1 := (hk143 1 rfl).trans e141_1
      have e143_5 := (hk143 5 rfl).trans e141_5
      have e143_6 := (hk143 6 rfl).trans e141_6
      obtain ⟨(e143_7 : a143.eval (.tmp 7) = .int .i64 (ad x100 1)), -⟩ := hf143 [1] rfl
      have hX143 := Evo.step hX141 hown hE143 rfl
      have b143_gf1 := be_ hE143 b141_gf1
      have b143_Af1_0 := RdO.evo rfl hE143 b141_Af1_0
      have b143_Jx := SqO.evo (by decide) hE143 b141_Jx
      exact hn123 _ _ _ hs ⟨(rl [(140, 102)] own143), hd143, hz143, e143_0, e143_1, e143_5, e143_6, e143_7, (Evo.rl_ hX143 hown rfl), (BlkO.rl_ (mm := [(140, 102)]) b143_gf1), (RdO.rl_ (mm := [(140, 102)]) b143_Af1_0), (SqO.rl_ (mm := [(140, 102)]) b143_Jx rfl (by decide))⟩
    refine fl_exit ?_
    refine hp126 _ _ _ rfl ?_
    replace hs := hz123 _ hs
    refine hp123 _ _ _ rfl ?_
    refine hx79 _ _ ?_
    obtain rfl := (osome hs).symm
    exact hret _ _ _ _ (.inr rfl) hd125 (results0_ rfl ) ⟨(rl [(102, 1)] own125), rfl, (Evo.rl_ hX125 hown rfl), (SqO.rl_ (mm := [(102, 1)]) b125_Jx rfl (by decide))⟩
theorem ring_Area_w (w : World) (l1 : List (Int × Int)) (Al1 : Option Addr) (cl1 : Nat) (hl1 : RdO (fun _ => 0) [0] w R32 Al1 cl1 l1) (r : Int) (hs : ring_Area l1 = some r) :
    Calls Try.prog 13 #[.slice Al1 l1.length cl1] w fun e w' => ∃ own' : Own, e = .returned (.int .i64 r) ∧ Evo [] (fun _ => 0) own' w w' := by
  refine fl_enterM (n := 27) (kD := 11) (by decide) rfl rfl rfl (Nat.le_of_ble_eq_true rfl) ?_
  intro a0 Q hd0 hz0 harg hret
  have ha0 := harg 0 _ rfl
  clear harg
  have hE0 : Evo [] (fun _ => 0) (fun _ => 0) w w := Evo.refl _ _ _
  have hmk0 : MkO (fun _ => 0) 11 w [] := MkO.nil_
  refine rg0_seq 27 (fun _ => 0) [0, 0] [⟨[], [0], [], Fct.blk 93 1 (fun g => .pointer (some ⟨g, 0, none⟩)) 22 #[.slice Al1 l1.length cl1]⟩, ⟨[], [], [], Fct.val 2 (.int .i64 0)⟩] hz0 hd0 (by kernel_rfl) ?_ ?_
  · refine sc (fun _ _ _ _ s _ => px (or_new [(0, .slice Al1 l1.length cl1)] rfl rfl ⟨(s.1.trans ha0), trivial⟩ (by kernel_rfl))) ?_
    refine sc (fun _ _ _ _ _ _ => px (or_assign rfl)) ?_
    exact steps_nil
  intro own94 a94 w94 hd94 hz94 hk94 hf94 hE94
  obtain ⟨⟨g92, (e94_1 : a94.eval (.tmp 1) = .pointer (some ⟨g92, 0, none⟩)), (b94_g92 : BlkO own94 93 w94 g92 22 #[.slice Al1 l1.length cl1])⟩, -⟩ := hf94 [0] rfl
  have hX94 := es_ hE0 hE94
  have b94_Al1 := RdO.evo rfl hE94 hl1
  have b94_mk := MkO.evo (by decide) hE94 hmk0
  refine fl_seq (fun Q95 hn95 hp95 => ?_)
  obtain ⟨r96, hr96, hs⟩ := obind hs
  obtain ⟨x97, hx97, hs⟩ := obind hs
  refine rg0_seq 27 own94 (bz 8) [⟨[], [1], [], Fct.val 6 (.slice Al1 l1.length cl1)⟩, ⟨[0], [], [], Fct.val 7 (.int .i64 (l1.length : Int))⟩, ⟨[1], [], [], Fct.val 8 (.bool (decide ((l1.length : Int) < 3)))⟩, ⟨[2], [], [], Fct.val 9 (.bool (decide ((l1.length : Int) < 3)))⟩, ⟨[3], [1], [], Fct.cond (!(decide ((l1.length : Int) < 3))) (some 10) (Fct.val 10 (.slice Al1 l1.length cl1))⟩, ⟨[3, 4], [], [], Fct.cond (!(decide ((l1.length : Int) < 3))) (some 11) (Fct.val 11 (.bool r96))⟩, ⟨[3, 5], [], [], Fct.cond (!(decide ((l1.length : Int) < 3))) (some 12) (Fct.val 12 (.bool (!r96)))⟩, ⟨[3, 6], [], [], Fct.val 13 (.bool x97)⟩] hz94 hd94 (by kernel_rfl) ?_ ?_
  · refine sc (fun _ _ _ _ s hE => px (or_load1 to22 (s.1.trans e94_1) (Blk.at_ (be_ hE b94_g92).2 0 rfl))) ?_
    refine sc (fun _ _ _ f _ _ => px (or_len tu22 f.1 rfl)) ?_
    refine sc (fun _ _ _ f _ _ => px (or_lss f.1 rfl rfl)) ?_
    refine sc (fun _ _ _ f _ _ => px (or_move f.1)) ?_
    refine sc (fun _ _ _ f s hE => sg_f rfl rfl rfl f.1 (fun hg => or_load1 to22 (s.1.trans e94_1) (Blk.at_ (be_ hE b94_g92).2 0 rfl))) ?_
    refine sc (fun _ _ _ f _ hE => sg_f rfl rfl rfl f.1 (fun hg => or_call cf33 (args1 (f.2.1.1 hg)) (exact_Right_w _ l1 Al1 cl1 (RdO.zero (RdO.evo rfl hE b94_Al1)) r96 (gd_t hr96 hg)) post_val)) ?_
    refine sc (fun _ _ _ f _ _ => sg_f rfl rfl rfl f.1 (fun hg => or_not (f.2.1.1 hg) rfl)) ?_
    refine sc (fun _ _ _ f _ _ => px (or_or f.1 rfl (fun hx => f.2.1.1 hx) (osome hx97).symm)) ?_
    exact steps_nil
  intro own98 a98 w98 hd98 hz98 hk98 hf98 hE98
  have e98_1 := (hk98 1 rfl).trans e94_1
  obtain ⟨(e98_13 : a98.eval (.tmp 13) = .bool x97), -⟩ := hf98 [7] rfl
  have hX98 := es_ hX94 hE98
  have b98_Al1 := RdO.evo rfl hE98 b94_Al1
  have b98_mk := MkO.evo (by decide) hE98 b94_mk
  have b98_g92 := be_ hE98 b94_g92
  refine fl_cond e98_13 hs (fun c99 hs => ?_) (fun c99 hs => ?_)
  · refine rg0_seq 27 own98 (bz 1) [⟨[], [], [], Fct.val 2 (.int .i64 0)⟩] hz98 hd98 (by kernel_rfl) ?_ ?_
    · refine sc (fun _ _ _ _ _ _ => px (or_assign rfl)) ?_
      exact steps_nil
    intro own100 a100 w100 hd100 hz100 hk100 hf100 hE100
    obtain ⟨(e100_2 : a100.eval (.tmp 2) = .int .i64 0), -⟩ := hf100 [0] rfl
    have hX100 := es_ hX98 hE100
    have b100_mk := MkO.evo (by decide) hE100 b98_mk
    refine fl_ret ?_
    refine hp95 _ _ _ rfl ?_
    refine hret _ _ _ _ _ (.inl rfl) hd100 b100_mk (fun own101 w101 hE101 => ?_)
    have hX102 := es_ hX100 hE101
    obtain rfl := osome hs
    exact ⟨_, results1_ rfl (RVal.tmp_ e100_2), ⟨own101, rfl, hX102⟩⟩
  refine fl_skip ?_
  refine hn95 _ _ ?_
  refine rg_plain_seq (n := 27) (rs := []) (own0 := own98) (K := [104]) (bs := (bz 2)) (ds := [⟨[], [], [], Fct.blk 104 3 (fun g => .pointer (some ⟨g, 0, none⟩)) 3 #[.int .i64 0]⟩, ⟨[0], [], [104], Fct.blk 105 3 (fun g => .pointer (some ⟨g, 0, none⟩)) 3 #[.int .i64 0]⟩]) (by kernel_rfl) hz98 hd98 nm_ ?_ ?_
  · refine sc (fun _ _ _ _ _ _ => px (or_new [] rfl rfl trivial (by kernel_rfl))) ?_
    refine sc (fun own a wx hf hsl hE => ?_) ?_
    · obtain ⟨⟨g103, f_3, b_g103⟩, -⟩ := hf
      exact px (or_store1 (lab := 104) (lab2 := 105) ts3 f_3 rfl b_g103 (by simp) rfl (mem_of rfl) (by decide) rfl (fun own' a' w' ha hb => ⟨_, (ha 3).trans f_3, hb⟩))
    exact steps_nil
  intro own106 a106 w106 hd106 hz106 hk106 hf106 hE106
  have e106_1 := (hk106 1 rfl).trans e98_1
  obtain ⟨⟨g103, (e106_3 : a106.eval (.tmp 3) = .pointer (some ⟨g103, 0, none⟩)), (b106_g103 : BlkO own106 105 w106 g103 3 #[.int .i64 0])⟩, -⟩ := hf106 [1] rfl
  have hX106 := es_ hX98 hE106
  have b106_Al1 := RdO.evo rfl hE106 b98_Al1
  have b106_mk := MkO.evo (by decide) hE106 b98_mk
  have b106_g92 := be_ hE106 b98_g92
  refine fl_seq (fun Q107 hn107 hp107 => ?_)
  refine rg0_seq 27 own106 (bz 2) [⟨[], [1], [], Fct.val 14 (.slice Al1 l1.length cl1)⟩, ⟨[0], [], [], Fct.mems [109] 15 (fun (x : Option Addr × Nat) => .func (.func 55) #[] #[.pointer (some ⟨x.2, 0, none⟩)]) (fun (x : Option Addr × Nat) own w => BlkO own 109 w x.2 22 #[.slice Al1 l1.length cl1]) (fun hk he h => BlkO.evo (not_hit hk (by decide)) he h)⟩] hz106 hd106 (by kernel_rfl) ?_ ?_
  · refine sc (fun _ _ _ _ s hE => px (or_load1 to22 (s.1.trans e106_1) (Blk.at_ (be_ hE b106_g92).2 0 rfl))) ?_
    refine sc (fun _ _ _ f _ hE => px (or_call cf34 (args1 f.1) (ring_edges_w _ l1 Al1 cl1 (RdO.zero (RdO.evo rfl hE b106_Al1)) () rfl) (post_mems (m := (fun _ => 0)) (m' := (look0 [(1, 109)])) (fun _ _ => .inl rfl) (fun own' w' a' x h1 h => ⟨x, h1, BlkO.back_ h (by decide)⟩)))) ?_
    exact steps_nil
  intro own110 a110 w110 hd110 hz110 hk110 hf110 hE110
  have e110_1 := (hk110 1 rfl).trans e106_1
  have e110_3 := (hk110 3 rfl).trans e106_3
  obtain ⟨⟨⟨A108, cA108⟩, (e110_15 : a110.eval (.tmp 15) = .func (.func 55) #[] #[.pointer (some ⟨cA108, 0, none⟩)]), (b110_cA108 : BlkO own110 109 w110 cA108 22 #[.slice Al1 l1.length cl1])⟩, -⟩ := hf110 [1] rfl
  have hX110 := es_ hX106 hE110
  have b110_Al1 := RdO.evo rfl hE110 b106_Al1
  have b110_mk := MkO.evo (by decide) hE110 b106_mk
  have b110_g92 := be_ hE110 b106_g92
  have b110_g103 := be_ hE110 b106_g103
  refine fl_block (fun Q111 hn111 hx111 hp111 => ?_)
  obtain ⟨zz150, hzz150, hs⟩ := rngO_some hs
  refine fl_range (S := Int) (D := Empty) (X := (Int × Int) × (Int × Int)) (encs := (fun (x : (Int × Int) × (Int × Int)) => #[.agg #[.int .i64 x.1.1, .int .i64 x.1.2], .agg #[.int .i64 x.2.1, .int .i64 x.2.2]])) (n := 27) [105, 157, 161, 170] 151 11 rfl
      (fun (sum131 : Int) (ox : Own) (wx : World) => Evo [] (fun _ => 0) ox w wx ∧ BlkO ox 93 wx g92 22 #[.slice Al1 l1.length cl1] ∧ RdO ox [0] wx R32 Al1 cl1 l1 ∧ BlkO ox 105 wx g103 3 #[.int .i64 sum131] ∧ BlkO ox 109 wx cA108 22 #[.slice Al1 l1.length cl1])
      (fun (e : Empty) (_ : Own) (_ : World) => nomatch e)
      (fun (e : Empty) => nomatch e) (fun (sr : Int) (xr : (Int × Int) × (Int × Int)) => ring_Area_b1 l1 sr xr) hz110 rfl e110_15 cf55 (cargs := fun l => #[.func (.yield l) #[] #[], .pointer (some ⟨cA108, 0, none⟩)]) (fun _ => by simp) (fun _ => rfl) hd110 b110_mk ?_ ?_ 0 zz150 ⟨hX110, b110_g92, b110_Al1, b110_g103, b110_cA108⟩ ?_ ?_ ?_ ?_
  · rintro sum131 ox ox1 wx wx1 hEs ⟨h150_0, h150_1, h150_2, h150_3, h150_4⟩
    exact ⟨(es_ h150_0 hEs), (be_ hEs h150_1), (RdO.evo rfl hEs h150_2), (be_ hEs h150_3), (be_ hEs h150_4)⟩
  · intro e; exact nomatch e
  · intro l150 own1 w1 J150 hE1 hJ1 hR1
    exact (ring_edges_1_w w1 (forth own1 (look0 (kj 151 [105, 157, 161, 170]))) (Int ⊕ Empty) (yb (fun (sr : Int) (xr : (Int × Int) × (Int × Int)) => ring_Area_b1 l1 sr xr)) J150 l150 (Sum.inl 0) l1 cA108 22 Al1 cl1 (look0_le rfl) hR1 hJ1 (BlkO.forth_ (be_ hE1 b110_cA108)) (RdO.forth0_ (RdO.evo rfl hE1 b110_Al1) rfl) zz150 hzz150).mono fun e wz ⟨oz, he, _, hJz⟩ => ⟨_, oz, he, hJz⟩
  · rintro l154 sum131 x153 zz2 own154 a154 w154 Ds154 ⟨hE155, b155_g92, b155_Al1, b155_g103, b155_cA108⟩ - hrc154 hs ⟨hd154, hz154, hkp154, hpar154⟩ Q154 hn154
    have hs : ring_Area_b1 l1 sum131 x153 = some zz2 := hs
    replace hz154 := hz154.trans hz110
    have e154_1 : a154.eval (.tmp 1) = .pointer (some ⟨g92, 0, none⟩) := (hkp154 1 rfl).trans e110_1
    have e154_3 : a154.eval (.tmp 3) = .pointer (some ⟨g103, 0, none⟩) := (hkp154 3 rfl).trans e110_3
    have e154_15 : a154.eval (.tmp 15) = .func (.func 55) #[] #[.pointer (some ⟨cA108, 0, none⟩)] := (hkp154 15 rfl).trans e110_15
    have e154_16 : a154.eval (.tmp 16) = .agg #[.int .i64 x153.1.1, .int .i64 x153.1.2] := hpar154 0 16 _ rfl rfl
    have e154_17 : a154.eval (.tmp 17) = .agg #[.int .i64 x153.2.1, .int .i64 x153.2.2] := hpar154 1 17 _ rfl rfl
    have hE154 := Evo.refl [105, 157, 161, 170] own154 w154
    have hrc0_154 := hrc154
    refine rg_plain_seq (n := 27) (rs := []) (own0 := own154) (K := [157]) (bs := (bz 2)) (ds := [⟨[], [], [], Fct.blk 157 4 (fun g => .pointer (some ⟨g, 0, none⟩)) 32 #[.int .i64 0, .int .i64 0]⟩, ⟨[0], [16], [157], Fct.blk 158 4 (fun g => .pointer (some ⟨g, 0, none⟩)) 32 #[.int .i64 x153.1.1, .int .i64 x153.1.2]⟩]) (by kernel_rfl) hz154 hd154 nm_ ?_ ?_
    · refine sc (fun _ _ _ _ _ _ => px (or_new [] rfl rfl trivial (by kernel_rfl))) ?_
      refine sc (fun own a wx hf hsl hE => ?_) ?_
      · obtain ⟨⟨g156, f_4, b_g156⟩, -⟩ := hf
        obtain ⟨s_16, -⟩ := hsl
        exact px (or_store (l := #[.int .i64 x153.1.1, .int .i64 x153.1.2]) (lab := 157) (lab2 := 158) ts32 f_4 (s_16.trans e154_16) b_g156 (by simp) (by kernel_rfl) (mem_of rfl) (by decide) (by kernel_rfl) (fun own' a' w' ha hb => ⟨_, (ha 4).trans f_4, hb⟩))
      exact steps_nil
    intro own159 a159 w159 hd159 hz159 hk159 hf159 hE159
    have e159_1 := (hk159 1 rfl).trans e154_1
    have e159_3 := (hk159 3 rfl).trans e154_3
    have e159_15 := (hk159 15 rfl).trans e154_15
    have e159_17 := (hk159 17 rfl).trans e154_17
    obtain ⟨⟨g156, (e159_4 : a159.eval (.tmp 4) = .pointer (some ⟨g156, 0, none⟩)), (b159_g156 : BlkO own159 158 w159 g156 32 #[.int .i64 x153.1.1, .int .i64 x153.1.2])⟩, -⟩ := hf159 [1] rfl
    have hX159 := Evo.stepK hE154 hE159 rfl
    have b159_g92 := be_ hE159 b155_g92
    have b159_Al1 := RdO.evo rfl hE159 b155_Al1
    have b159_g103 := be_ hE159 b155_g103
    have b159_cA108 := be_ hE159 b155_cA108
    refine rg_plain (n := 27) (rs := []) (own0 := own159) (K := [161]) (bs := (bz 2)) (ds := [⟨[], [], [], Fct.blk 161 5 (fun g => .pointer (some ⟨g, 0, none⟩)) 32 #[.int .i64 0, .int .i64 0]⟩, ⟨[0], [17], [161], Fct.blk 162 5 (fun g => .pointer (some ⟨g, 0, none⟩)) 32 #[.int .i64 x153.2.1, .int .i64 x153.2.2]⟩]) (by kernel_rfl) hz159 hd159 nm_ ?_ ?_
    · refine sc (fun _ _ _ _ _ _ => px (or_new [] rfl rfl trivial (by kernel_rfl))) ?_
      refine sc (fun own a wx hf hsl hE => ?_) ?_
      · obtain ⟨⟨g160, f_5, b_g160⟩, -⟩ := hf
        obtain ⟨s_17, -⟩ := hsl
        exact px (or_store (l := #[.int .i64 x153.2.1, .int .i64 x153.2.2]) (lab := 161) (lab2 := 162) ts32 f_5 (s_17.trans e159_17) b_g160 (by simp) (by kernel_rfl) (mem_of rfl) (by decide) (by kernel_rfl) (fun own' a' w' ha hb => ⟨_, (ha 5).trans f_5, hb⟩))
      exact steps_nil
    intro own163 a163 w163 hd163 hz163 hk163 hf163 hE163
    have e163_1 := (hk163 1 rfl).trans e159_1
    have e163_3 := (hk163 3 rfl).trans e159_3
    have e163_4 := (hk163 4 rfl).trans e159_4
    have e163_15 := (hk163 15 rfl).trans e159_15
    obtain ⟨⟨g160, (e163_5 : a163.eval (.tmp 5) = .pointer (some ⟨g160, 0, none⟩)), (b163_g160 : BlkO own163 162 w163 g160 32 #[.int .i64 x153.2.1, .int .i64 x153.2.2])⟩, -⟩ := hf163 [1] rfl
    have hX163 := Evo.stepK hX159 hE163 rfl
    have b163_g92 := be_ hE163 b159_g92
    have b163_Al1 := RdO.evo rfl hE163 b159_Al1
    have b163_g103 := be_ hE163 b159_g103
    have b163_cA108 := be_ hE163 b159_cA108
    have b163_g156 := be_ hE163 b159_g156
    refine hn154 _ _ _ hX163 (fun w164 own164 hE164 hrc164 => ?_)
    have b164_g92 := be_ hE164 b163_g92
    have b164_Al1 := RdO.evo rfl hE164 b163_Al1
    have b164_g103 := be_ hE164 b163_g103
    have b164_cA108 := be_ hE164 b163_cA108
    have b164_g156 := be_ hE164 b163_g156
    have b164_g160 := be_ hE164 b163_g160
    have hU164 := es_ (es_ hE155 hX163) hE164
    have hX164 := Evo.refl [105, 157, 161, 170] own164 w164
    have hmk164 : MkO own164 11 w164 [] := MkO.nil_
    refine fl_block (fun Q165 hn165 hx165 hp165 => ?_)
    obtain ⟨x168, hx168, hs⟩ := obind hs
    obtain ⟨r169, hr169, hs⟩ := obind hs
    refine rg_draw g_mixed (n := 27) (rs := [Fct.at_ 105 g103 3 #[.int .i64 sum131]]) (own0 := own164) (K := [105]) (bs := [0, 0, 2, 6, 0, 0, 62, 127, 255]) (ds := [⟨[9], [3], [], Fct.val 18 (.int .i64 sum131)⟩, ⟨[], [1], [], Fct.val 19 (.slice Al1 l1.length cl1)⟩, ⟨[1], [], [], Fct.val 20 (.pointer (some ((adr Al1).add ((0 : Int).toNat * R32.s))))⟩, ⟨[2], [], [], Fct.val 21 (.agg #[.int .i64 x168.1, .int .i64 x168.2])⟩, ⟨[], [4], [], Fct.val 22 (.agg #[.int .i64 x153.1.1, .int .i64 x153.1.2])⟩, ⟨[], [5], [], Fct.val 23 (.agg #[.int .i64 x153.2.1, .int .i64 x153.2.2])⟩, ⟨[3, 4, 5], [], [], Fct.val 24 (.int .i64 r169)⟩, ⟨[0, 6], [], [], Fct.val 25 (.int .i64 (ad sum131 r169))⟩, ⟨[7, 9], [3], [105], Fct.at_ 170 g103 3 #[.int .i64 (ad sum131 r169)]⟩]) (by kernel_rfl) hz163 hd163 (by simp only [List.forall_mem_cons]; exact ⟨b164_g103, fun _ h => nomatch h⟩) ?_ ?_
    · refine sc (fun own a wx hf hsl hE => ?_) ?_
      · obtain ⟨(b_g103 : BlkO own 105 wx g103 3 #[.int .i64 sum131]), -⟩ := hf
        obtain ⟨s_3, -⟩ := hsl
        exact px (or_load1 to3 (s_3.trans e163_3) (Blk.at_ b_g103.2 0 rfl))
      refine sc (fun _ _ _ _ s hE => px (or_load1 to22 (s.1.trans e163_1) (Blk.at_ (be_ hE b164_g92).2 0 rfl))) ?_
      refine sc (fun _ _ _ f _ _ => px (or_index (R := R32) (l := l1) tl22 f.1 rfl (RdO.some_ b164_Al1 hx168) hx168)) ?_
      refine sc (fun _ _ _ f _ hE => px (or_load (l := E32.f x168) ta32 f.1 (RdO.cells (F := E32) (RdO.evo rfl hE b164_Al1) hx168) rfl)) ?_
      refine sc (fun _ _ _ _ s hE => px (or_load (l := [.int .i64 x153.1.1, .int .i64 x153.1.2]) ta32 (s.1.trans e163_4) (Blk.cellsFrom (be_ hE b164_g156).2 0 rfl) rfl)) ?_
      refine sc (fun _ _ _ _ s hE => px (or_load (l := [.int .i64 x153.2.1, .int .i64 x153.2.2]) ta32 (s.1.trans e163_5) (Blk.cellsFrom (be_ hE b164_g160).2 0 rfl) rfl)) ?_
      refine sc (fun _ _ _ f _ _ => px (or_call cf35 (args3 f.1 f.2.1 f.2.2.1) (exact_Cross_w _ x168 x153.1 x153.2  r169 hr169) post_val)) ?_
      refine sc (fun _ _ _ f _ _ => px (or_add f.1 f.2.1 rfl)) ?_
      refine sc (fun own a wx hf hsl hE => ?_) ?_
      · obtain ⟨f_25, b_g103, -⟩ := hf
        obtain ⟨s_3, -⟩ := hsl
        exact px (or_store1 (lab := 105) (lab2 := 170) ts3 (s_3.trans e163_3) f_25 b_g103 (by simp) rfl (mem_of rfl) (by decide) rfl (fun own' a' w' ha hb => hb))
      exact steps_nil
    intro own171 a171 w171 hd171 hz171 hk171 hf171 hE171
    have e171_1 := (hk171 1 rfl).trans e163_1
    have e171_3 := (hk171 3 rfl).trans e163_3
    have e171_15 := (hk171 15 rfl).trans e163_15
    obtain ⟨(b171_g103 : BlkO own171 170 w171 g103 3 #[.int .i64 (ad sum131 r169)]), -⟩ := hf171 [8] rfl
    have hX171 := Evo.stepK hX164 hE171 rfl
    have b171_g92 := be_ hE171 b164_g92
    have b171_Al1 := RdO.evo rfl hE171 b164_Al1
    have b171_cA108 := be_ hE171 b164_cA108
    have b171_rc := RcO.evo (by decide) hE171 hrc164
    have b171_mk := MkO.evo (by decide) hE171 hmk164
    refine hn165 _ _ ?_
    exact ⟨_, (rl [(170, 105)] own171), osome hs, (Evo.rlK hX171 rfl), (es_ hU164 (Evo.rlK hX171 rfl)), (BlkO.rl_ (mm := [(170, 105)]) b171_g92), (RdO.rl_ (mm := [(170, 105)]) b171_Al1), (BlkO.rl_ (mm := [(170, 105)]) b171_g103), (BlkO.rl_ (mm := [(170, 105)]) b171_cA108)⟩
  · rintro sum131 a172 own172 w172 Ds172 hzz172 hd172 hz172 hkp172 hmk172 ⟨hE172, b172_g92, b172_Al1, b172_g103, b172_cA108⟩
    subst hzz172
    have hs : ring_Area_b2 sum131 = some r := hs
    have e172_1 : a172.eval (.tmp 1) = .pointer (some ⟨g92, 0, none⟩) := (hkp172 1).trans e110_1
    have e172_3 : a172.eval (.tmp 3) = .pointer (some ⟨g103, 0, none⟩) := (hkp172 3).trans e110_3
    have e172_15 : a172.eval (.tmp 15) = .func (.func 55) #[] #[.pointer (some ⟨cA108, 0, none⟩)] := (hkp172 15).trans e110_15
    refine hn111 _ _ ?_
    refine hn107 _ _ ?_
    refine rg0_seq 27 own172 (bz 2) [⟨[], [3], [], Fct.val 26 (.int .i64 sum131)⟩, ⟨[0], [], [], Fct.val 2 (.int .i64 sum131)⟩] hz172 hd172 (by kernel_rfl) ?_ ?_
    · refine sc (fun _ _ _ _ s hE => px (or_load1 to3 (s.1.trans e172_3) (Blk.at_ (be_ hE b172_g103).2 0 rfl))) ?_
      refine sc (fun _ _ _ f _ _ => px (or_assign f.1)) ?_
      exact steps_nil
    intro own173 a173 w173 hd173 hz173 hk173 hf173 hE173
    obtain ⟨(e173_2 : a173.eval (.tmp 2) = .int .i64 sum131), -⟩ := hf173 [1] rfl
    have hX173 := es_ hE172 hE173
    have b173_mk := MkO.evo (by decide) hE173 hmk172
    refine fl_ret ?_
    refine hret _ _ _ _ _ (.inl rfl) hd173 b173_mk (fun own174 w174 hE174 => ?_)
    have hX175 := es_ hX173 hE174
    obtain rfl := (osome hs).symm
    exact ⟨_, results1_ rfl (RVal.tmp_ e173_2), ⟨own174, rfl, hX175⟩⟩
  · intro e; exact nomatch e
theorem exact_Turn_w (w : World) (x1 : Int × Int) (b2 : Int × Int) (c3 : Int × Int) (r : Int) (hs : exact_Turn x1 b2 c3 = some r) :
    Calls Try.prog 38 #[.agg #[.int .i64 x1.1, .int .i64 x1.2], .agg #[.int .i64 b2.1, .int .i64 b2.2], .agg #[.int .i64 c3.1, .int .i64 c3.2]] w fun e w' => ∃ own' : Own, e = .returned (.int .i64 r) ∧ Evo [] (fun _ => 0) own' w w' := by
  refine fl_enter (n := 18) rfl rfl rfl (Nat.le_of_ble_eq_true rfl) ?_
  intro a0 Q hd0 hz0 harg hret
  have ha0 := harg 0 _ rfl
  have ha1 := harg 1 _ rfl
  have ha2 := harg 2 _ rfl
  clear harg
  have hE0 : Evo [] (fun _ => 0) (fun _ => 0) w w := Evo.refl _ _ _
  refine rg0_seq 18 (fun _ => 0) [0, 0, 0, 0] [⟨[], [0], [], Fct.blk 30 3 (fun g => .pointer (some ⟨g, 0, none⟩)) 32 #[.int .i64 x1.1, .int .i64 x1.2]⟩, ⟨[], [1], [], Fct.blk 32 4 (fun g => .pointer (some ⟨g, 0, none⟩)) 32 #[.int .i64 b2.1, .int .i64 b2.2]⟩, ⟨[], [2], [], Fct.blk 34 5 (fun g => .pointer (some ⟨g, 0, none⟩)) 32 #[.int .i64 c3.1, .int .i64 c3.2]⟩, ⟨[], [], [], Fct.val 6 (.int .i64 0)⟩] hz0 hd0 (by kernel_rfl) ?_ ?_
  · refine sc (fun _ _ _ _ s _ => px (or_new [(0, .agg #[.int .i64 x1.1, .int .i64 x1.2])] rfl rfl ⟨(s.1.trans ha0), trivial⟩ (by kernel_rfl))) ?_
    refine sc (fun _ _ _ _ s _ => px (or_new [(1, .agg #[.int .i64 b2.1, .int .i64 b2.2])] rfl rfl ⟨(s.1.trans ha1), trivial⟩ (by kernel_rfl))) ?_
    refine sc (fun _ _ _ _ s _ => px (or_new [(2, .agg #[.int .i64 c3.1, .int .i64 c3.2])] rfl rfl ⟨(s.1.trans ha2), trivial⟩ (by kernel_rfl))) ?_
    refine sc (fun _ _ _ _ _ _ => px (or_assign rfl)) ?_
    exact steps_nil
  intro own35 a35 w35 hd35 hz35 hk35 hf35 hE35
  obtain ⟨⟨g29, (e35_3 : a35.eval (.tmp 3) = .pointer (some ⟨g29, 0, none⟩)), (b35_g29 : BlkO own35 30 w35 g29 32 #[.int .i64 x1.1, .int .i64 x1.2])⟩, ⟨g31, (e35_4 : a35.eval (.tmp 4) = .pointer (some ⟨g31, 0, none⟩)), (b35_g31 : BlkO own35 32 w35 g31 32 #[.int .i64 b2.1, .int .i64 b2.2])⟩, ⟨g33, (e35_5 : a35.eval (.tmp 5) = .pointer (some ⟨g33, 0, none⟩)), (b35_g33 : BlkO own35 34 w35 g33 32 #[.int .i64 c3.1, .int .i64 c3.2])⟩, -⟩ := hf35 [0, 1, 2] rfl
  have hX35 := es_ hE0 hE35
  refine fl_seq (fun Q36 hn36 hp36 => ?_)
  obtain ⟨r37, hr37, hs⟩ := obind hs
  refine rg0_seq 18 own35 [0, 0, 0, 7, 15] [⟨[], [3], [], Fct.val 8 (.agg #[.int .i64 x1.1, .int .i64 x1.2])⟩, ⟨[], [4], [], Fct.val 9 (.agg #[.int .i64 b2.1, .int .i64 b2.2])⟩, ⟨[], [5], [], Fct.val 10 (.agg #[.int .i64 c3.1, .int .i64 c3.2])⟩, ⟨[0, 1, 2], [], [], Fct.val 11 (.int .i64 r37)⟩, ⟨[3], [], [], Fct.val 7 (.int .i64 r37)⟩] hz35 hd35 (by kernel_rfl) ?_ ?_
  · refine sc (fun _ _ _ _ s hE => px (or_load (l := [.int .i64 x1.1, .int .i64 x1.2]) ta32 (s.1.trans e35_3) (Blk.cellsFrom (be_ hE b35_g29).2 0 rfl) rfl)) ?_
    refine sc (fun _ _ _ _ s hE => px (or_load (l := [.int .i64 b2.1, .int .i64 b2.2]) ta32 (s.1.trans e35_4) (Blk.cellsFrom (be_ hE b35_g31).2 0 rfl) rfl)) ?_
    refine sc (fun _ _ _ _ s hE => px (or_load (l := [.int .i64 c3.1, .int .i64 c3.2]) ta32 (s.1.trans e35_5) (Blk.cellsFrom (be_ hE b35_g33).2 0 rfl) rfl)) ?_
    refine sc (fun _ _ _ f _ _ => px (or_call cf35 (args3 f.1 f.2.1 f.2.2.1) (exact_Cross_w _ x1 b2 c3  r37 hr37) post_val)) ?_
    refine sc (fun _ _ _ f _ _ => px (or_assign f.1)) ?_
    exact steps_nil
  intro own38 a38 w38 hd38 hz38 hk38 hf38 hE38
  obtain ⟨(e38_7 : a38.eval (.tmp 7) = .int .i64 r37), -⟩ := hf38 [4] rfl
  have hX38 := es_ hX35 hE38
  refine fl_block (fun Q39 hn39 hx39 hp39 => ?_)
  refine rg0_seq 18 own38 (bz 3) [⟨[], [7], [], Fct.val 13 (.int .i64 r37)⟩, ⟨[0], [], [], Fct.val 14 (.bool (decide (0 < r37)))⟩, ⟨[1], [], [], Fct.val 12 (.bool (decide (0 < r37)))⟩] hz38 hd38 (by kernel_rfl) ?_ ?_
  · refine sc (fun _ _ _ _ s _ => px (or_move (s.1.trans e38_7))) ?_
    refine sc (fun _ _ _ f _ _ => px (or_gtr f.1 rfl rfl)) ?_
    refine sc (fun _ _ _ f _ _ => px (or_assign f.1)) ?_
    exact steps_nil
  intro own40 a40 w40 hd40 hz40 hk40 hf40 hE40
  have e40_7 := (hk40 7 rfl).trans e38_7
  obtain ⟨(e40_12 : a40.eval (.tmp 12) = .bool (decide (0 < r37))), -⟩ := hf40 [2] rfl
  have hX40 := es_ hX38 hE40
  refine fl_cond e40_12 hs (fun c41 hs => ?_) (fun c41 hs => ?_)
  · refine rg0_seq 18 own40 (bz 1) [⟨[], [], [], Fct.val 6 (.int .i64 1)⟩] hz40 hd40 (by kernel_rfl) ?_ ?_
    · refine sc (fun _ _ _ _ _ _ => px (or_assign rfl)) ?_
      exact steps_nil
    intro own42 a42 w42 hd42 hz42 hk42 hf42 hE42
    obtain ⟨(e42_6 : a42.eval (.tmp 6) = .int .i64 1), -⟩ := hf42 [0] rfl
    have hX42 := es_ hX40 hE42
    refine fl_ret ?_
    refine hp39 _ _ _ rfl ?_
    refine hp36 _ _ _ rfl ?_
    obtain rfl := osome hs
    exact hret _ _ _ _ (.inl rfl) hd42 (results1_ rfl (RVal.tmp_ e42_6)) ⟨own42, rfl, hX42⟩
  refine rg0_seq 18 own40 (bz 3) [⟨[], [7], [], Fct.val 16 (.int .i64 r37)⟩, ⟨[0], [], [], Fct.val 17 (.bool (decide (r37 < 0)))⟩, ⟨[1], [], [], Fct.val 15 (.bool (decide (r37 < 0)))⟩] hz40 hd40 (by kernel_rfl) ?_ ?_
  · refine sc (fun _ _ _ _ s _ => px (or_move (s.1.trans e40_7))) ?_
    refine sc (fun _ _ _ f _ _ => px (or_lss f.1 rfl rfl)) ?_
    refine sc (fun _ _ _ f _ _ => px (or_assign f.1)) ?_
    exact steps_nil
  intro own43 a43 w43 hd43 hz43 hk43 hf43 hE43
  obtain ⟨(e43_15 : a43.eval (.tmp 15) = .bool (decide (r37 < 0))), -⟩ := hf43 [2] rfl
  have hX43 := es_ hX40 hE43
  refine fl_cond e43_15 hs (fun c44 hs => ?_) (fun c44 hs => ?_)
  · refine rg0_seq 18 own43 (bz 1) [⟨[], [], [], Fct.val 6 (.int .i64 (-1))⟩] hz43 hd43 (by kernel_rfl) ?_ ?_
    · refine sc (fun _ _ _ _ _ _ => px (or_assign rfl)) ?_
      exact steps_nil
    intro own45 a45 w45 hd45 hz45 hk45 hf45 hE45
    obtain ⟨(e45_6 : a45.eval (.tmp 6) = .int .i64 (-1)), -⟩ := hf45 [0] rfl
    have hX45 := es_ hX43 hE45
    refine fl_ret ?_
    refine hp39 _ _ _ rfl ?_
    refine hp36 _ _ _ rfl ?_
    obtain rfl := osome hs
    exact hret _ _ _ _ (.inl rfl) hd45 (results1_ rfl (RVal.tmp_ e45_6)) ⟨own45, rfl, hX45⟩
  refine fl_skip ?_
  refine hn39 _ _ ?_
  refine hn36 _ _ ?_
  refine rg0_seq 18 own43 (bz 1) [⟨[], [], [], Fct.val 6 (.int .i64 0)⟩] hz43 hd43 (by kernel_rfl) ?_ ?_
  · refine sc (fun _ _ _ _ _ _ => px (or_assign rfl)) ?_
    exact steps_nil
  intro own46 a46 w46 hd46 hz46 hk46 hf46 hE46
  obtain ⟨(e46_6 : a46.eval (.tmp 6) = .int .i64 0), -⟩ := hf46 [0] rfl
  have hX46 := es_ hX43 hE46
  refine fl_ret ?_
  obtain rfl := osome hs
  exact hret _ _ _ _ (.inl rfl) hd46 (results1_ rfl (RVal.tmp_ e46_6)) ⟨own46, rfl, hX46⟩
theorem exact_Less_w (w : World) (x1 : Int × Int) (b2 : Int × Int) (r : Bool) (hs : exact_Less x1 b2 = some r) :
    Calls Try.prog 48 #[.agg #[.int .i64 x1.1, .int .i64 x1.2], .agg #[.int .i64 b2.1, .int .i64 b2.2]] w fun e w' => ∃ own' : Own, e = .returned (.bool r) ∧ Evo [] (fun _ => 0) own' w w' := by
  refine fl_enter (n := 24) rfl rfl rfl (Nat.le_of_ble_eq_true rfl) ?_
  intro a0 Q hd0 hz0 harg hret
  have ha0 := harg 0 _ rfl
  have ha1 := harg 1 _ rfl
  clear harg
  have hE0 : Evo [] (fun _ => 0) (fun _ => 0) w w := Evo.refl _ _ _
  refine rg0_seq 24 (fun _ => 0) [0, 0, 0] [⟨[], [0], [], Fct.blk 19 2 (fun g => .pointer (some ⟨g, 0, none⟩)) 32 #[.int .i64 x1.1, .int .i64 x1.2]⟩, ⟨[], [1], [], Fct.blk 21 3 (fun g => .pointer (some ⟨g, 0, none⟩)) 32 #[.int .i64 b2.1, .int .i64 b2.2]⟩, ⟨[], [], [], Fct.val 4 (.bool false)⟩] hz0 hd0 (by kernel_rfl) ?_ ?_
  · refine sc (fun _ _ _ _ s _ => px (or_new [(0, .agg #[.int .i64 x1.1, .int .i64 x1.2])] rfl rfl ⟨(s.1.trans ha0), trivial⟩ (by kernel_rfl))) ?_
    refine sc (fun _ _ _ _ s _ => px (or_new [(1, .agg #[.int .i64 b2.1, .int .i64 b2.2])] rfl rfl ⟨(s.1.trans ha1), trivial⟩ (by kernel_rfl))) ?_
    refine sc (fun _ _ _ _ _ _ => px (or_assign rfl)) ?_
    exact steps_nil
  intro own22 a22 w22 hd22 hz22 hk22 hf22 hE22
  obtain ⟨⟨g18, (e22_2 : a22.eval (.tmp 2) = .pointer (some ⟨g18, 0, none⟩)), (b22_g18 : BlkO own22 19 w22 g18 32 #[.int .i64 x1.1, .int .i64 x1.2])⟩, ⟨g20, (e22_3 : a22.eval (.tmp 3) = .pointer (some ⟨g20, 0, none⟩)), (b22_g20 : BlkO own22 21 w22 g20 32 #[.int .i64 b2.1, .int .i64 b2.2])⟩, -⟩ := hf22 [0, 1] rfl
  have hX22 := es_ hE0 hE22
  obtain ⟨x23, hx23, hs⟩ := obind hs
  refine rg0_seq 24 own22 [0, 1, 0, 4, 15, 31, 63, 127, 63, 319, 1023, 2047, 4095, 8191, 4095, 20479, 65535, 131071, 262143, 524287] [⟨[], [2], [], Fct.val 5 (.pointer (some ⟨g18, 0, none⟩))⟩, ⟨[0], [], [], Fct.val 6 (.int .i64 x1.1)⟩, ⟨[], [3], [], Fct.val 7 (.pointer (some ⟨g20, 0, none⟩))⟩, ⟨[2], [], [], Fct.val 8 (.int .i64 b2.1)⟩, ⟨[1, 3], [], [], Fct.val 9 (.bool (decide (x1.1 < b2.1)))⟩, ⟨[4], [], [], Fct.val 10 (.bool (decide (x1.1 < b2.1)))⟩, ⟨[5], [2], [], Fct.cond (!(decide (x1.1 < b2.1))) (some 11) (Fct.val 11 (.pointer (some ⟨g18, 0, none⟩)))⟩, ⟨[5, 6], [], [], Fct.cond (!(decide (x1.1 < b2.1))) (some 12) (Fct.val 12 (.int .i64 x1.1))⟩, ⟨[5], [3], [], Fct.cond (!(decide (x1.1 < b2.1))) (some 13) (Fct.val 13 (.pointer (some ⟨g20, 0, none⟩)))⟩, ⟨[5, 8], [], [], Fct.cond (!(decide (x1.1 < b2.1))) (some 14) (Fct.val 14 (.int .i64 b2.1))⟩, ⟨[5, 7, 9], [], [], Fct.cond (!(decide (x1.1 < b2.1))) (some 15) (Fct.val 15 (.bool (decide (x1.1 = b2.1))))⟩, ⟨[5, 10], [], [], Fct.cond (!(decide (x1.1 < b2.1))) (some 16) (Fct.val 16 (.bool (decide (x1.1 = b2.1))))⟩, ⟨[11], [2], [], Fct.cond ((!(decide (x1.1 < b2.1))) && (decide (x1.1 = b2.1))) (some 17) (Fct.val 17 (.pointer (some ⟨g18, 1, none⟩)))⟩, ⟨[11, 12], [], [], Fct.cond ((!(decide (x1.1 < b2.1))) && (decide (x1.1 = b2.1))) (some 18) (Fct.val 18 (.int .i64 x1.2))⟩, ⟨[11], [3], [], Fct.cond ((!(decide (x1.1 < b2.1))) && (decide (x1.1 = b2.1))) (some 19) (Fct.val 19 (.pointer (some ⟨g20, 1, none⟩)))⟩, ⟨[11, 14], [], [], Fct.cond ((!(decide (x1.1 < b2.1))) && (decide (x1.1 = b2.1))) (some 20) (Fct.val 20 (.int .i64 b2.2))⟩, ⟨[11, 13, 15], [], [], Fct.cond ((!(decide (x1.1 < b2.1))) && (decide (x1.1 = b2.1))) (some 21) (Fct.val 21 (.bool (decide (x1.2 < b2.2))))⟩, ⟨[5, 11, 16], [], [], Fct.cond (!(decide (x1.1 < b2.1))) (some 22) (Fct.val 22 (.bool x23))⟩, ⟨[5, 17], [], [], Fct.val 23 (.bool ((decide (x1.1 < b2.1)) || x23))⟩, ⟨[18], [], [], Fct.val 4 (.bool ((decide (x1.1 < b2.1)) || x23))⟩] hz22 hd22 (by kernel_rfl) ?_ ?_
  · refine sc (fun _ _ _ _ s _ => px (or_field fo32_0 (s.1.trans e22_2) (by rfl))) ?_
    refine sc (fun _ _ _ f _ hE => px (or_load1 to3 f.1 (Blk.at_ (be_ hE b22_g18).2 0 rfl))) ?_
    refine sc (fun _ _ _ _ s _ => px (or_field fo32_0 (s.1.trans e22_3) (by rfl))) ?_
    refine sc (fun _ _ _ f _ hE => px (or_load1 to3 f.1 (Blk.at_ (be_ hE b22_g20).2 0 rfl))) ?_
    refine sc (fun _ _ _ f _ _ => px (or_lss f.1 f.2.1 rfl)) ?_
    refine sc (fun _ _ _ f _ _ => px (or_move f.1)) ?_
    refine sc (fun _ _ _ f s _ => sg_f rfl rfl rfl f.1 (fun hg => or_field fo32_0 (s.1.trans e22_2) (by rfl))) ?_
    refine sc (fun _ _ _ f _ hE => sg_f rfl rfl rfl f.1 (fun hg => or_load1 to3 (f.2.1.1 hg) (Blk.at_ (be_ hE b22_g18).2 0 rfl))) ?_
    refine sc (fun _ _ _ f s _ => sg_f rfl rfl rfl f.1 (fun hg => or_field fo32_0 (s.1.trans e22_3) (by rfl))) ?_
    refine sc (fun _ _ _ f _ hE => sg_f rfl rfl rfl f.1 (fun hg => or_load1 to3 (f.2.1.1 hg) (Blk.at_ (be_ hE b22_g20).2 0 rfl))) ?_
    refine sc (fun _ _ _ f _ _ => sg_f rfl rfl rfl f.1 (fun hg => or_eql (f.2.1.1 hg) (f.2.2.1.1 hg) rfl)) ?_
    refine sc (fun _ _ _ f _ _ => sg_f rfl rfl rfl f.1 (fun hg => or_move (f.2.1.1 hg))) ?_
    refine sc (fun _ _ _ f s _ => sg_tc rfl rfl rfl f.1 (fun hg => or_field fo32_1 (s.1.trans e22_2) (by rfl))) ?_
    refine sc (fun _ _ _ f _ hE => sg_tc rfl rfl rfl f.1 (fun hg => or_load1 to3 (f.2.1.1 hg) (Blk.at_ (be_ hE b22_g18).2 1 rfl))) ?_
    refine sc (fun _ _ _ f s _ => sg_tc rfl rfl rfl f.1 (fun hg => or_field fo32_1 (s.1.trans e22_3) (by rfl))) ?_
    refine sc (fun _ _ _ f _ hE => sg_tc rfl rfl rfl f.1 (fun hg => or_load1 to3 (f.2.1.1 hg) (Blk.at_ (be_ hE b22_g20).2 1 rfl))) ?_
    refine sc (fun _ _ _ f _ _ => sg_tc rfl rfl rfl f.1 (fun hg => or_lss (f.2.1.1 hg) (f.2.2.1.1 hg) rfl)) ?_
    refine sc (fun _ _ _ f _ _ => sg_f rfl rfl rfl f.1 (fun hg => or_and (f.2.1.1 hg) (fun hx => f.2.2.1.1 (gI hg hx)) rfl (osome hx23).symm)) ?_
    refine sc (fun _ _ _ f _ _ => px (or_or f.1 rfl (fun hx => f.2.1.1 hx) rfl)) ?_
    refine sc (fun _ _ _ f _ _ => px (or_assign f.1)) ?_
    exact steps_nil
  intro own24 a24 w24 hd24 hz24 hk24 hf24 hE24
  obtain ⟨(e24_4 : a24.eval (.tmp 4) = .bool ((decide (x1.1 < b2.1)) || x23)), -⟩ := hf24 [19] rfl
  have hX24 := es_ hX22 hE24
  refine fl_ret ?_
  obtain rfl := osome hs
  exact hret _ _ _ _ (.inl rfl) hd24 (results1_ rfl (RVal.tmp_ e24_4)) ⟨own24, rfl, hX24⟩
theorem seg_line_w (w : World) (x1 : Int × Int) (b2 : Int × Int) (c3 : Int × Int) (d4 : Int × Int) (r : Int) (hs : seg_line x1 b2 c3 d4 = some r) :
    Calls Try.prog 56 #[.agg #[.int .i64 x1.1, .int .i64 x1.2], .agg #[.int .i64 b2.1, .int .i64 b2.2], .agg #[.int .i64 c3.1, .int .i64 c3.2], .agg #[.int .i64 d4.1, .int .i64 d4.2]] w fun e w' => ∃ own' : Own, e = .returned (.int .i64 r) ∧ Evo [] (fun _ => 0) own' w w' := by
  refine fl_enter (n := 37) rfl rfl rfl (Nat.le_of_ble_eq_true rfl) ?_
  intro a0 Q hd0 hz0 harg hret
  have ha0 := harg 0 _ rfl
  have ha1 := harg 1 _ rfl
  have ha2 := harg 2 _ rfl
  have ha3 := harg 3 _ rfl
  clear harg
  have hE0 : Evo [] (fun _ => 0) (fun _ => 0) w w := Evo.refl _ _ _
  refine rg0_seq 37 (fun _ => 0) [0, 0, 0, 0, 0] [⟨[], [0], [], Fct.blk 75 4 (fun g => .pointer (some ⟨g, 0, none⟩)) 32 #[.int .i64 x1.1, .int .i64 x1.2]⟩, ⟨[], [1], [], Fct.blk 77 5 (fun g => .pointer (some ⟨g, 0, none⟩)) 32 #[.int .i64 b2.1, .int .i64 b2.2]⟩, ⟨[], [2], [], Fct.blk 79 6 (fun g => .pointer (some ⟨g, 0, none⟩)) 32 #[.int .i64 c3.1, .int .i64 c3.2]⟩, ⟨[], [3], [], Fct.blk 81 7 (fun g => .pointer (some ⟨g, 0, none⟩)) 32 #[.int .i64 d4.1, .int .i64 d4.2]⟩, ⟨[], [], [], Fct.val 8 (.int .i64 0)⟩] hz0 hd0 (by kernel_rfl) ?_ ?_
  · refine sc (fun _ _ _ _ s _ => px (or_new [(0, .agg #[.int .i64 x1.1, .int .i64 x1.2])] rfl rfl ⟨(s.1.trans ha0), trivial⟩ (by kernel_rfl))) ?_
    refine sc (fun _ _ _ _ s _ => px (or_new [(1, .agg #[.int .i64 b2.1, .int .i64 b2.2])] rfl rfl ⟨(s.1.trans ha1), trivial⟩ (by kernel_rfl))) ?_
    refine sc (fun _ _ _ _ s _ => px (or_new [(2, .agg #[.int .i64 c3.1, .int .i64 c3.2])] rfl rfl ⟨(s.1.trans ha2), trivial⟩ (by kernel_rfl))) ?_
    refine sc (fun _ _ _ _ s _ => px (or_new [(3, .agg #[.int .i64 d4.1, .int .i64 d4.2])] rfl rfl ⟨(s.1.trans ha3), trivial⟩ (by kernel_rfl))) ?_
    refine sc (fun _ _ _ _ _ _ => px (or_assign rfl)) ?_
    exact steps_nil
  intro own82 a82 w82 hd82 hz82 hk82 hf82 hE82
  obtain ⟨⟨g74, (e82_4 : a82.eval (.tmp 4) = .pointer (some ⟨g74, 0, none⟩)), (b82_g74 : BlkO own82 75 w82 g74 32 #[.int .i64 x1.1, .int .i64 x1.2])⟩, ⟨g76, (e82_5 : a82.eval (.tmp 5) = .pointer (some ⟨g76, 0, none⟩)), (b82_g76 : BlkO own82 77 w82 g76 32 #[.int .i64 b2.1, .int .i64 b2.2])⟩, ⟨g78, (e82_6 : a82.eval (.tmp 6) = .pointer (some ⟨g78, 0, none⟩)), (b82_g78 : BlkO own82 79 w82 g78 32 #[.int .i64 c3.1, .int .i64 c3.2])⟩, ⟨g80, (e82_7 : a82.eval (.tmp 7) = .pointer (some ⟨g80, 0, none⟩)), (b82_g80 : BlkO own82 81 w82 g80 32 #[.int .i64 d4.1, .int .i64 d4.2])⟩, -⟩ := hf82 [0, 1, 2, 3] rfl
  have hX82 := es_ hE0 hE82
  refine fl_seq (fun Q83 hn83 hp83 => ?_)
  have K95 : ∀ (a95 : Act) (w95 : World) (own95 : Own) (x92 : Int × Int) (b94 : Int × Int), a95.defers = [] → a95.tmps.size = 37 → a95.eval (.tmp 4) = .pointer (some ⟨g74, 0, none⟩) → a95.eval (.tmp 5) = .pointer (some ⟨g76, 0, none⟩) → a95.eval (.tmp 6) = .pointer (some ⟨g78, 0, none⟩) → a95.eval (.tmp 7) = .pointer (some ⟨g80, 0, none⟩) → Evo [] (fun _ => 0) own95 w w95 → BlkO own95 91 w95 g74 32 #[.int .i64 x92.1, .int .i64 x92.2] → BlkO own95 93 w95 g76 32 #[.int .i64 b94.1, .int .i64 b94.2] → BlkO own95 79 w95 g78 32 #[.int .i64 c3.1, .int .i64 c3.2] → BlkO own95 81 w95 g80 32 #[.int .i64 d4.1, .int .i64 d4.2] → seg_line_k1 c3 d4 x92 b94 = some r → Q83 .normal a95 w95 := by
    intro a95 w95 own95 x92 b94 hd96 hz96 e96_4 e96_5 e96_6 e96_7 hE96 b96_g74 b96_g76 b96_g78 b96_g80 hs
    refine hn83 _ _ ?_
    refine fl_seq (fun Q97 hn97 hp97 => ?_)
    have K109 : ∀ (a109 : Act) (w109 : World) (own109 : Own) (c106 : Int × Int) (d108 : Int × Int), a109.defers = [] → a109.tmps.size = 37 → a109.eval (.tmp 4) = .pointer (some ⟨g74, 0, none⟩) → a109.eval (.tmp 5) = .pointer (some ⟨g76, 0, none⟩) → a109.eval (.tmp 6) = .pointer (some ⟨g78, 0, none⟩) → a109.eval (.tmp 7) = .pointer (some ⟨g80, 0, none⟩) → Evo [] (fun _ => 0) own109 w w109 → BlkO own109 91 w109 g74 32 #[.int .i64 x92.1, .int .i64 x92.2] → BlkO own109 93 w109 g76 32 #[.int .i64 b94.1, .int .i64 b94.2] → BlkO own109 105 w109 g78 32 #[.int .i64 c106.1, .int .i64 c106.2] → BlkO own109 107 w109 g80 32 #[.int .i64 d108.1, .int .i64 d108.2] → seg_line_k2 x92 b94 c106 d108 = some r → Q97 .normal a109 w109 := by
      intro a109 w109 own109 c106 d108 hd110 hz110 e110_4 e110_5 e110_6 e110_7 hE110 b110_g74 b110_g76 b110_g78 b110_g80 hs
      refine hn97 _ _ ?_
      refine fl_seq (fun Q111 hn111 hp111 => ?_)
      refine fl_block (fun Q112 hn112 hx112 hp112 => ?_)
      obtain ⟨r113, hr113, hs⟩ := obind hs
      obtain ⟨r114, hr114, hs⟩ := obind hs
      refine rg0_seq 37 own109 [0, 0, 3, 7, 15, 15, 63, 127, 255] [⟨[], [5], [], Fct.val 20 (.agg #[.int .i64 b94.1, .int .i64 b94.2])⟩, ⟨[], [6], [], Fct.val 21 (.agg #[.int .i64 c106.1, .int .i64 c106.2])⟩, ⟨[0, 1], [], [], Fct.val 22 (.bool r113)⟩, ⟨[2], [], [], Fct.val 23 (.bool r113)⟩, ⟨[3], [7], [], Fct.cond (!r113) (some 24) (Fct.val 24 (.agg #[.int .i64 d108.1, .int .i64 d108.2]))⟩, ⟨[3], [4], [], Fct.cond (!r113) (some 25) (Fct.val 25 (.agg #[.int .i64 x92.1, .int .i64 x92.2]))⟩, ⟨[3, 4, 5], [], [], Fct.cond (!r113) (some 26) (Fct.val 26 (.bool r114))⟩, ⟨[3, 6], [], [], Fct.val 27 (.bool (r113 || r114))⟩, ⟨[7], [], [], Fct.val 19 (.bool (r113 || r114))⟩] hz110 hd110 (by kernel_rfl) ?_ ?_
      · refine sc (fun _ _ _ _ s hE => px (or_load (l := [.int .i64 b94.1, .int .i64 b94.2]) ta32 (s.1.trans e110_5) (Blk.cellsFrom (be_ hE b110_g76).2 0 rfl) rfl)) ?_
        refine sc (fun _ _ _ _ s hE => px (or_load (l := [.int .i64 c106.1, .int .i64 c106.2]) ta32 (s.1.trans e110_6) (Blk.cellsFrom (be_ hE b110_g78).2 0 rfl) rfl)) ?_
        refine sc (fun _ _ _ f _ _ => px (or_call cf48 (args2 f.1 f.2.1) (exact_Less_w _ b94 c106  r113 hr113) post_val)) ?_
        refine sc (fun _ _ _ f _ _ => px (or_move f.1)) ?_
        refine sc (fun _ _ _ f s hE => sg_f rfl rfl rfl f.1 (fun hg => or_load (l := [.int .i64 d108.1, .int .i64 d108.2]) ta32 (s.1.trans e110_7) (Blk.cellsFrom (be_ hE b110_g80).2 0 rfl) rfl)) ?_
        refine sc (fun _ _ _ f s hE => sg_f rfl rfl rfl f.1 (fun hg => or_load (l := [.int .i64 x92.1, .int .i64 x92.2]) ta32 (s.1.trans e110_4) (Blk.cellsFrom (be_ hE b110_g74).2 0 rfl) rfl)) ?_
        refine sc (fun _ _ _ f _ _ => sg_f rfl rfl rfl f.1 (fun hg => or_call cf48 (args2 (f.2.1.1 hg) (f.2.2.1.1 hg)) (exact_Less_w _ d108 x92  r114 (gd_t hr114 hg)) post_val)) ?_
        refine sc (fun _ _ _ f _ _ => px (or_or f.1 rfl (fun hx => f.2.1.1 hx) rfl)) ?_
        refine sc (fun _ _ _ f _ _ => px (or_assign f.1)) ?_
        exact steps_nil
      intro own115 a115 w115 hd115 hz115 hk115 hf115 hE115
      have e115_4 := (hk115 4 rfl).trans e110_4
      have e115_5 := (hk115 5 rfl).trans e110_5
      have e115_6 := (hk115 6 rfl).trans e110_6
      have e115_7 := (hk115 7 rfl).trans e110_7
      obtain ⟨(e115_19 : a115.eval (.tmp 19) = .bool (r113 || r114)), -⟩ := hf115 [8] rfl
      have hX115 := es_ hE110 hE115
      have b115_g74 := be_ hE115 b110_g74
      have b115_g76 := be_ hE115 b110_g76
      have b115_g78 := be_ hE115 b110_g78
      have b115_g80 := be_ hE115 b110_g80
      refine fl_cond e115_19 hs (fun c116 hs => ?_) (fun c116 hs => ?_)
      · refine rg0_seq 37 own115 (bz 1) [⟨[], [], [], Fct.val 8 (.int .i64 0)⟩] hz115 hd115 (by kernel_rfl) ?_ ?_
        · refine sc (fun _ _ _ _ _ _ => px (or_assign rfl)) ?_
          exact steps_nil
        intro own117 a117 w117 hd117 hz117 hk117 hf117 hE117
        obtain ⟨(e117_8 : a117.eval (.tmp 8) = .int .i64 0), -⟩ := hf117 [0] rfl
        have hX117 := es_ hX115 hE117
        refine fl_ret ?_
        refine hp112 _ _ _ rfl ?_
        refine hp111 _ _ _ rfl ?_
        obtain rfl := osome hs
        exact hret _ _ _ _ (.inl rfl) hd117 (results1_ rfl (RVal.tmp_ e117_8)) ⟨own117, rfl, hX117⟩
      obtain ⟨x118, hx118, hs⟩ := obind hs
      refine rg0_seq 37 own115 [0, 0, 3, 7, 15, 15, 63, 127, 255] [⟨[], [5], [], Fct.val 29 (.agg #[.int .i64 b94.1, .int .i64 b94.2])⟩, ⟨[], [6], [], Fct.val 30 (.agg #[.int .i64 c106.1, .int .i64 c106.2])⟩, ⟨[0, 1], [], [], Fct.val 31 (.bool (decide (b94 = c106)))⟩, ⟨[2], [], [], Fct.val 32 (.bool (decide (b94 = c106)))⟩, ⟨[3], [7], [], Fct.cond (!(decide (b94 = c106))) (some 33) (Fct.val 33 (.agg #[.int .i64 d108.1, .int .i64 d108.2]))⟩, ⟨[3], [4], [], Fct.cond (!(decide (b94 = c106))) (some 34) (Fct.val 34 (.agg #[.int .i64 x92.1, .int .i64 x92.2]))⟩, ⟨[3, 4, 5], [], [], Fct.cond (!(decide (b94 = c106))) (some 35) (Fct.val 35 (.bool (decide (d108 = x92))))⟩, ⟨[3, 6], [], [], Fct.val 36 (.bool x118)⟩, ⟨[7], [], [], Fct.val 28 (.bool x118)⟩] hz115 hd115 (by kernel_rfl) ?_ ?_
      · refine sc (fun _ _ _ _ s hE => px (or_load (l := [.int .i64 b94.1, .int .i64 b94.2]) ta32 (s.1.trans e115_5) (Blk.cellsFrom (be_ hE b115_g76).2 0 rfl) rfl)) ?_
        refine sc (fun _ _ _ _ s hE => px (or_load (l := [.int .i64 c106.1, .int .i64 c106.2]) ta32 (s.1.trans e115_6) (Blk.cellsFrom (be_ hE b115_g78).2 0 rfl) rfl)) ?_
        refine sc (fun _ _ _ f _ _ => px (or_eqlA sg32 f.1 f.2.1 (se32 b94.1 b94.2 c106.1 c106.2 _) rfl)) ?_
        refine sc (fun _ _ _ f _ _ => px (or_move f.1)) ?_
        refine sc (fun _ _ _ f s hE => sg_f rfl rfl rfl f.1 (fun hg => or_load (l := [.int .i64 d108.1, .int .i64 d108.2]) ta32 (s.1.trans e115_7) (Blk.cellsFrom (be_ hE b115_g80).2 0 rfl) rfl)) ?_
        refine sc (fun _ _ _ f s hE => sg_f rfl rfl rfl f.1 (fun hg => or_load (l := [.int .i64 x92.1, .int .i64 x92.2]) ta32 (s.1.trans e115_4) (Blk.cellsFrom (be_ hE b115_g74).2 0 rfl) rfl)) ?_
        refine sc (fun _ _ _ f _ _ => sg_f rfl rfl rfl f.1 (fun hg => or_eqlA sg32 (f.2.1.1 hg) (f.2.2.1.1 hg) (se32 d108.1 d108.2 x92.1 x92.2 _) rfl)) ?_
        refine sc (fun _ _ _ f _ _ => px (or_or f.1 rfl (fun hx => f.2.1.1 hx) (osome hx118).symm)) ?_
        refine sc (fun _ _ _ f _ _ => px (or_assign f.1)) ?_
        exact steps_nil
      intro own119 a119 w119 hd119 hz119 hk119 hf119 hE119
      obtain ⟨(e119_28 : a119.eval (.tmp 28) = .bool x118), -⟩ := hf119 [8] rfl
      have hX119 := es_ hX115 hE119
      refine fl_cond e119_28 hs (fun c120 hs => ?_) (fun c120 hs => ?_)
      · refine rg0_seq 37 own119 (bz 1) [⟨[], [], [], Fct.val 8 (.int .i64 1)⟩] hz119 hd119 (by kernel_rfl) ?_ ?_
        · refine sc (fun _ _ _ _ _ _ => px (or_assign rfl)) ?_
          exact steps_nil
        intro own121 a121 w121 hd121 hz121 hk121 hf121 hE121
        obtain ⟨(e121_8 : a121.eval (.tmp 8) = .int .i64 1), -⟩ := hf121 [0] rfl
        have hX121 := es_ hX119 hE121
        refine fl_ret ?_
        refine hp112 _ _ _ rfl ?_
        refine hp111 _ _ _ rfl ?_
        obtain rfl := osome hs
        exact hret _ _ _ _ (.inl rfl) hd121 (results1_ rfl (RVal.tmp_ e121_8)) ⟨own121, rfl, hX121⟩
      refine fl_skip ?_
      refine hn112 _ _ ?_
      refine hn111 _ _ ?_
      refine rg0_seq 37 own119 (bz 1) [⟨[], [], [], Fct.val 8 (.int .i64 4)⟩] hz119 hd119 (by kernel_rfl) ?_ ?_
      · refine sc (fun _ _ _ _ _ _ => px (or_assign rfl)) ?_
        exact steps_nil
      intro own122 a122 w122 hd122 hz122 hk122 hf122 hE122
      obtain ⟨(e122_8 : a122.eval (.tmp 8) = .int .i64 4), -⟩ := hf122 [0] rfl
      have hX122 := es_ hX119 hE122
      refine fl_ret ?_
      obtain rfl := osome hs
      exact hret _ _ _ _ (.inl rfl) hd122 (results1_ rfl (RVal.tmp_ e122_8)) ⟨own122, rfl, hX122⟩
    obtain ⟨r123, hr123, hs⟩ := obind hs
    refine rg0_seq 37 own95 [0, 0, 3] [⟨[], [7], [], Fct.val 14 (.agg #[.int .i64 d4.1, .int .i64 d4.2])⟩, ⟨[], [6], [], Fct.val 15 (.agg #[.int .i64 c3.1, .int .i64 c3.2])⟩, ⟨[0, 1], [], [], Fct.val 16 (.bool r123)⟩] hz96 hd96 (by kernel_rfl) ?_ ?_
    · refine sc (fun _ _ _ _ s hE => px (or_load (l := [.int .i64 d4.1, .int .i64 d4.2]) ta32 (s.1.trans e96_7) (Blk.cellsFrom (be_ hE b96_g80).2 0 rfl) rfl)) ?_
      refine sc (fun _ _ _ _ s hE => px (or_load (l := [.int .i64 c3.1, .int .i64 c3.2]) ta32 (s.1.trans e96_6) (Blk.cellsFrom (be_ hE b96_g78).2 0 rfl) rfl)) ?_
      refine sc (fun _ _ _ f _ _ => px (or_call cf48 (args2 f.1 f.2.1) (exact_Less_w _ d4 c3  r123 hr123) post_val)) ?_
      exact steps_nil
    intro own124 a124 w124 hd124 hz124 hk124 hf124 hE124
    have e124_4 := (hk124 4 rfl).trans e96_4
    have e124_5 := (hk124 5 rfl).trans e96_5
    have e124_6 := (hk124 6 rfl).trans e96_6
    have e124_7 := (hk124 7 rfl).trans e96_7
    obtain ⟨(e124_16 : a124.eval (.tmp 16) = .bool r123), -⟩ := hf124 [2] rfl
    have hX124 := es_ hE96 hE124
    have b124_g74 := be_ hE124 b96_g74
    have b124_g76 := be_ hE124 b96_g76
    have b124_g78 := be_ hE124 b96_g78
    have b124_g80 := be_ hE124 b96_g80
    refine fl_cond e124_16 hs (fun c125 hs => ?_) (fun c125 hs => ?_)
    · refine rg_plain (n := 37) (rs := [Fct.at_ 79 g78 32 #[.int .i64 c3.1, .int .i64 c3.2], Fct.at_ 81 g80 32 #[.int .i64 d4.1, .int .i64 d4.2]]) (own0 := own124) (K := [79, 81]) (bs := [0, 0, 3, 7]) (ds := [⟨[5], [7], [], Fct.val 17 (.agg #[.int .i64 d4.1, .int .i64 d4.2])⟩, ⟨[4], [6], [], Fct.val 18 (.agg #[.int .i64 c3.1, .int .i64 c3.2])⟩, ⟨[0, 4], [6], [79], Fct.at_ 127 g78 32 #[.int .i64 d4.1, .int .i64 d4.2]⟩, ⟨[1, 5], [7], [81], Fct.at_ 128 g80 32 #[.int .i64 c3.1, .int .i64 c3.2]⟩]) (by kernel_rfl) hz124 hd124 (by simp only [List.forall_mem_cons]; exact ⟨b124_g78, b124_g80, fun _ h => nomatch h⟩) ?_ ?_
      · refine sc (fun own a wx hf hsl hE => ?_) ?_
        · obtain ⟨(b_g80 : BlkO own 81 wx g80 32 #[.int .i64 d4.1, .int .i64 d4.2]), -⟩ := hf
          obtain ⟨s_7, -⟩ := hsl
          exact px (or_load (l := [.int .i64 d4.1, .int .i64 d4.2]) ta32 (s_7.trans e124_7) (Blk.cellsFrom b_g80.2 0 rfl) rfl)
        refine sc (fun own a wx hf hsl hE => ?_) ?_
        · obtain ⟨(b_g78 : BlkO own 79 wx g78 32 #[.int .i64 c3.1, .int .i64 c3.2]), -⟩ := hf
          obtain ⟨s_6, -⟩ := hsl
          exact px (or_load (l := [.int .i64 c3.1, .int .i64 c3.2]) ta32 (s_6.trans e124_6) (Blk.cellsFrom b_g78.2 0 rfl) rfl)
        refine sc (fun own a wx hf hsl hE => ?_) ?_
        · obtain ⟨f_17, b_g78, -⟩ := hf
          obtain ⟨s_6, -⟩ := hsl
          exact px (or_store (l := #[.int .i64 d4.1, .int .i64 d4.2]) (lab := 79) (lab2 := 127) ts32 (s_6.trans e124_6) f_17 b_g78 (by simp) (by kernel_rfl) (mem_of rfl) (by decide) (by kernel_rfl) (fun own' a' w' ha hb => hb))
        refine sc (fun own a wx hf hsl hE => ?_) ?_
        · obtain ⟨f_18, b_g80, -⟩ := hf
          obtain ⟨s_7, -⟩ := hsl
          exact px (or_store (l := #[.int .i64 c3.1, .int .i64 c3.2]) (lab := 81) (lab2 := 128) ts32 (s_7.trans e124_7) f_18 b_g80 (by simp) (by kernel_rfl) (mem_of rfl) (by decide) (by kernel_rfl) (fun own' a' w' ha hb => hb))
        exact steps_nil
      intro own129 a129 w129 hd129 hz129 hk129 hf129 hE129
      have e129_4 := (hk129 4 rfl).trans e124_4
      have e129_5 := (hk129 5 rfl).trans e124_5
      have e129_6 := (hk129 6 rfl).trans e124_6
      have e129_7 := (hk129 7 rfl).trans e124_7
      obtain ⟨(b129_g78 : BlkO own129 127 w129 g78 32 #[.int .i64 d4.1, .int .i64 d4.2]), (b129_g80 : BlkO own129 128 w129 g80 32 #[.int .i64 c3.1, .int .i64 c3.2]), -⟩ := hf129 [2, 3] rfl
      have hX129 := es_ hX124 hE129
      have b129_g74 := be_ hE129 b124_g74
      have b129_g76 := be_ hE129 b124_g76
      exact (K109 _ _ (rl [(127, 105), (128, 107)] own129) d4 c3 hd129 hz129 e129_4 e129_5 e129_6 e129_7 (Evo.rl_ hX129 (fun _ => Nat.le_refl 0) rfl) (BlkO.rl_ (mm := [(127, 105), (128, 107)]) b129_g74) (BlkO.rl_ (mm := [(127, 105), (128, 107)]) b129_g76) (BlkO.rl_ (mm := [(127, 105), (128, 107)]) b129_g78) (BlkO.rl_ (mm := [(127, 105), (128, 107)]) b129_g80) hs)
    refine fl_skip ?_
    exact (K109 _ _ (rl [(79, 105), (81, 107)] own124) c3 d4 hd124 hz124 e124_4 e124_5 e124_6 e124_7 (Evo.rl_ hX124 (fun _ => Nat.le_refl 0) rfl) (BlkO.rl_ (mm := [(79, 105), (81, 107)]) b124_g74) (BlkO.rl_ (mm := [(79, 105), (81, 107)]) b124_g76) (BlkO.rl_ (mm := [(79, 105), (81, 107)]) b124_g78) (BlkO.rl_ (mm := [(79, 105), (81, 107)]) b124_g80) hs)
  obtain ⟨r130, hr130, hs⟩ := obind hs
  refine rg0_seq 37 own82 [0, 0, 3] [⟨[], [5], [], Fct.val 9 (.agg #[.int .i64 b2.1, .int .i64 b2.2])⟩, ⟨[], [4], [], Fct.val 10 (.agg #[.int .i64 x1.1, .int .i64 x1.2])⟩, ⟨[0, 1], [], [], Fct.val 11 (.bool r130)⟩] hz82 hd82 (by kernel_rfl) ?_ ?_
  · refine sc (fun _ _ _ _ s hE => px (or_load (l := [.int .i64 b2.1, .int .i64 b2.2]) ta32 (s.1.trans e82_5) (Blk.cellsFrom (be_ hE b82_g76).2 0 rfl) rfl)) ?_
    refine sc (fun _ _ _ _ s hE => px (or_load (l := [.int .i64 x1.1, .int .i64 x1.2]) ta32 (s.1.trans e82_4) (Blk.cellsFrom (be_ hE b82_g74).2 0 rfl) rfl)) ?_
    refine sc (fun _ _ _ f _ _ => px (or_call cf48 (args2 f.1 f.2.1) (exact_Less_w _ b2 x1  r130 hr130) post_val)) ?_
    exact steps_nil
  intro own131 a131 w131 hd131 hz131 hk131 hf131 hE131
  have e131_4 := (hk131 4 rfl).trans e82_4
  have e131_5 := (hk131 5 rfl).trans e82_5
  have e131_6 := (hk131 6 rfl).trans e82_6
  have e131_7 := (hk131 7 rfl).trans e82_7
  obtain ⟨(e131_11 : a131.eval (.tmp 11) = .bool r130), -⟩ := hf131 [2] rfl
  have hX131 := es_ hX82 hE131
  have b131_g74 := be_ hE131 b82_g74
  have b131_g76 := be_ hE131 b82_g76
  have b131_g78 := be_ hE131 b82_g78
  have b131_g80 := be_ hE131 b82_g80
  refine fl_cond e131_11 hs (fun c132 hs => ?_) (fun c132 hs => ?_)
  · refine rg_plain (n := 37) (rs := [Fct.at_ 75 g74 32 #[.int .i64 x1.1, .int .i64 x1.2], Fct.at_ 77 g76 32 #[.int .i64 b2.1, .int .i64 b2.2]]) (own0 := own131) (K := [75, 77]) (bs := [0, 0, 3, 7]) (ds := [⟨[5], [5], [], Fct.val 12 (.agg #[.int .i64 b2.1, .int .i64 b2.2])⟩, ⟨[4], [4], [], Fct.val 13 (.agg #[.int .i64 x1.1, .int .i64 x1.2])⟩, ⟨[0, 4], [4], [75], Fct.at_ 134 g74 32 #[.int .i64 b2.1, .int .i64 b2.2]⟩, ⟨[1, 5], [5], [77], Fct.at_ 135 g76 32 #[.int .i64 x1.1, .int .i64 x1.2]⟩]) (by kernel_rfl) hz131 hd131 (by simp only [List.forall_mem_cons]; exact ⟨b131_g74, b131_g76, fun _ h => nomatch h⟩) ?_ ?_
    · refine sc (fun own a wx hf hsl hE => ?_) ?_
      · obtain ⟨(b_g76 : BlkO own 77 wx g76 32 #[.int .i64 b2.1, .int .i64 b2.2]), -⟩ := hf
        obtain ⟨s_5, -⟩ := hsl
        exact px (or_load (l := [.int .i64 b2.1, .int .i64 b2.2]) ta32 (s_5.trans e131_5) (Blk.cellsFrom b_g76.2 0 rfl) rfl)
      refine sc (fun own a wx hf hsl hE => ?_) ?_
      · obtain ⟨(b_g74 : BlkO own 75 wx g74 32 #[.int .i64 x1.1, .int .i64 x1.2]), -⟩ := hf
        obtain ⟨s_4, -⟩ := hsl
        exact px (or_load (l := [.int .i64 x1.1, .int .i64 x1.2]) ta32 (s_4.trans e131_4) (Blk.cellsFrom b_g74.2 0 rfl) rfl)
      refine sc (fun own a wx hf hsl hE => ?_) ?_
      · obtain ⟨f_12, b_g74, -⟩ := hf
        obtain ⟨s_4, -⟩ := hsl
        exact px (or_store (l := #[.int .i64 b2.1, .int .i64 b2.2]) (lab := 75) (lab2 := 134) ts32 (s_4.trans e131_4) f_12 b_g74 (by simp) (by kernel_rfl) (mem_of rfl) (by decide) (by kernel_rfl) (fun own' a' w' ha hb => hb))
      refine sc (fun own a wx hf hsl hE => ?_) ?_
      · obtain ⟨f_13, b_g76, -⟩ := hf
        obtain ⟨s_5, -⟩ := hsl
        exact px (or_store (l := #[.int .i64 x1.1, .int .i64 x1.2]) (lab := 77) (lab2 := 135) ts32 (s_5.trans e131_5) f_13 b_g76 (by simp) (by kernel_rfl) (mem_of rfl) (by decide) (by kernel_rfl) (fun own' a' w' ha hb => hb))
      exact steps_nil
    intro own136 a136 w136 hd136 hz136 hk136 hf136 hE136
    have e136_4 := (hk136 4 rfl).trans e131_4
    have e136_5 := (hk136 5 rfl).trans e131_5
    have e136_6 := (hk136 6 rfl).trans e131_6
    have e136_7 := (hk136 7 rfl).trans e131_7
    obtain ⟨(b136_g74 : BlkO own136 134 w136 g74 32 #[.int .i64 b2.1, .int .i64 b2.2]), (b136_g76 : BlkO own136 135 w136 g76 32 #[.int .i64 x1.1, .int .i64 x1.2]), -⟩ := hf136 [2, 3] rfl
    have hX136 := es_ hX131 hE136
    have b136_g78 := be_ hE136 b131_g78
    have b136_g80 := be_ hE136 b131_g80
    exact (K95 _ _ (rl [(134, 91), (135, 93)] own136) b2 x1 hd136 hz136 e136_4 e136_5 e136_6 e136_7 (Evo.rl_ hX136 (fun _ => Nat.le_refl 0) rfl) (BlkO.rl_ (mm := [(134, 91), (135, 93)]) b136_g74) (BlkO.rl_ (mm := [(134, 91), (135, 93)]) b136_g76) (BlkO.rl_ (mm := [(134, 91), (135, 93)]) b136_g78) (BlkO.rl_ (mm := [(134, 91), (135, 93)]) b136_g80) hs)
  refine fl_skip ?_
  exact (K95 _ _ (rl [(75, 91), (77, 93)] own131) x1 b2 hd131 hz131 e131_4 e131_5 e131_6 e131_7 (Evo.rl_ hX131 (fun _ => Nat.le_refl 0) rfl) (BlkO.rl_ (mm := [(75, 91), (77, 93)]) b131_g74) (BlkO.rl_ (mm := [(75, 91), (77, 93)]) b131_g76) (BlkO.rl_ (mm := [(75, 91), (77, 93)]) b131_g78) (BlkO.rl_ (mm := [(75, 91), (77, 93)]) b131_g80) hs)
theorem seg_Class_w (w : World) (x1 : Int × Int) (b2 : Int × Int) (c3 : Int × Int) (d4 : Int × Int) (r : Int × Int) (hs : seg_Class x1 b2 c3 d4 = some r) :
    Calls Try.prog 36 #[.agg #[.int .i64 x1.1, .int .i64 x1.2], .agg #[.int .i64 b2.1, .int .i64 b2.2], .agg #[.int .i64 c3.1, .int .i64 c3.2], .agg #[.int .i64 d4.1, .int .i64 d4.2]] w fun e w' => ∃ own' : Own, e = .returned (.tuple #[.int .i64 r.1, .int .i64 r.2]) ∧ Evo [] (fun _ => 0) own' w w' := by
  refine fl_enter (n := 103) rfl rfl rfl (Nat.le_of_ble_eq_true rfl) ?_
  intro a0 Q hd0 hz0 harg hret
  have ha0 := harg 0 _ rfl
  have ha1 := harg 1 _ rfl
  have ha2 := harg 2 _ rfl
  have ha3 := harg 3 _ rfl
  clear harg
  have hE0 : Evo [] (fun _ => 0) (fun _ => 0) w w := Evo.refl _ _ _
  refine rg0_seq 103 (fun _ => 0) [0, 0, 0, 0, 0, 16] [⟨[], [0], [], Fct.blk 78 4 (fun g => .pointer (some ⟨g, 0, none⟩)) 32 #[.int .i64 x1.1, .int .i64 x1.2]⟩, ⟨[], [1], [], Fct.blk 80 5 (fun g => .pointer (some ⟨g, 0, none⟩)) 32 #[.int .i64 b2.1, .int .i64 b2.2]⟩, ⟨[], [2], [], Fct.blk 82 6 (fun g => .pointer (some ⟨g, 0, none⟩)) 32 #[.int .i64 c3.1, .int .i64 c3.2]⟩, ⟨[], [3], [], Fct.blk 84 7 (fun g => .pointer (some ⟨g, 0, none⟩)) 32 #[.int .i64 d4.1, .int .i64 d4.2]⟩, ⟨[], [], [], Fct.val 8 (.int .i64 0)⟩, ⟨[], [], [], Fct.val 9 (.int .i64 0)⟩] hz0 hd0 (by kernel_rfl) ?_ ?_
  · refine sc (fun _ _ _ _ s _ => px (or_new [(0, .agg #[.int .i64 x1.1, .int .i64 x1.2])] rfl rfl ⟨(s.1.trans ha0), trivial⟩ (by kernel_rfl))) ?_
    refine sc (fun _ _ _ _ s _ => px (or_new [(1, .agg #[.int .i64 b2.1, .int .i64 b2.2])] rfl rfl ⟨(s.1.trans ha1), trivial⟩ (by kernel_rfl))) ?_
    refine sc (fun _ _ _ _ s _ => px (or_new [(2, .agg #[.int .i64 c3.1, .int .i64 c3.2])] rfl rfl ⟨(s.1.trans ha2), trivial⟩ (by kernel_rfl))) ?_
    refine sc (fun _ _ _ _ s _ => px (or_new [(3, .agg #[.int .i64 d4.1, .int .i64 d4.2])] rfl rfl ⟨(s.1.trans ha3), trivial⟩ (by kernel_rfl))) ?_
    refine sc (fun _ _ _ _ _ _ => px (or_assign rfl)) ?_
    refine sc (fun _ _ _ _ _ _ => px (or_assign rfl)) ?_
    exact steps_nil
  intro own85 a85 w85 hd85 hz85 hk85 hf85 hE85
  obtain ⟨⟨g77, (e85_4 : a85.eval (.tmp 4) = .pointer (some ⟨g77, 0, none⟩)), (b85_g77 : BlkO own85 78 w85 g77 32 #[.int .i64 x1.1, .int .i64 x1.2])⟩, ⟨g79, (e85_5 : a85.eval (.tmp 5) = .pointer (some ⟨g79, 0, none⟩)), (b85_g79 : BlkO own85 80 w85 g79 32 #[.int .i64 b2.1, .int .i64 b2.2])⟩, ⟨g81, (e85_6 : a85.eval (.tmp 6) = .pointer (some ⟨g81, 0, none⟩)), (b85_g81 : BlkO own85 82 w85 g81 32 #[.int .i64 c3.1, .int .i64 c3.2])⟩, ⟨g83, (e85_7 : a85.eval (.tmp 7) = .pointer (some ⟨g83, 0, none⟩)), (b85_g83 : BlkO own85 84 w85 g83 32 #[.int .i64 d4.1, .int .i64 d4.2])⟩, -⟩ := hf85 [0, 1, 2, 3] rfl
  have hX85 := es_ hE0 hE85
  refine fl_seq (fun Q86 hn86 hp86 => ?_)
  refine fl_block (fun Q87 hn87 hx87 hp87 => ?_)
  obtain ⟨r90, hr90, hs⟩ := obind hs
  refine rg0_seq 103 own85 [0, 0, 0, 0, 15, 31, 63, 127] [⟨[], [4], [], Fct.val 16 (.agg #[.int .i64 x1.1, .int .i64 x1.2])⟩, ⟨[], [5], [], Fct.val 17 (.agg #[.int .i64 b2.1, .int .i64 b2.2])⟩, ⟨[], [6], [], Fct.val 18 (.agg #[.int .i64 c3.1, .int .i64 c3.2])⟩, ⟨[], [7], [], Fct.val 19 (.agg #[.int .i64 d4.1, .int .i64 d4.2])⟩, ⟨[0, 1, 2, 3], [], [], Fct.row 89 [] 20 32 R32 [x1, b2, c3, d4]⟩, ⟨[4], [], [], Fct.val 21 (.bool r90)⟩, ⟨[5], [], [], Fct.val 22 (.bool (!r90))⟩, ⟨[6], [], [], Fct.val 15 (.bool (!r90))⟩] hz85 hd85 (by kernel_rfl) ?_ ?_
  · refine sc (fun _ _ _ _ s hE => px (or_load (l := [.int .i64 x1.1, .int .i64 x1.2]) ta32 (s.1.trans e85_4) (Blk.cellsFrom (be_ hE b85_g77).2 0 rfl) rfl)) ?_
    refine sc (fun _ _ _ _ s hE => px (or_load (l := [.int .i64 b2.1, .int .i64 b2.2]) ta32 (s.1.trans e85_5) (Blk.cellsFrom (be_ hE b85_g79).2 0 rfl) rfl)) ?_
    refine sc (fun _ _ _ _ s hE => px (or_load (l := [.int .i64 c3.1, .int .i64 c3.2]) ta32 (s.1.trans e85_6) (Blk.cellsFrom (be_ hE b85_g81).2 0 rfl) rfl)) ?_
    refine sc (fun _ _ _ _ s hE => px (or_load (l := [.int .i64 d4.1, .int .i64 d4.2]) ta32 (s.1.trans e85_7) (Blk.cellsFrom (be_ hE b85_g83).2 0 rfl) rfl)) ?_
    refine sc (fun _ _ _ f _ _ => px (or_lit (lab := 89) (e := 32) (cs := #[.int .i64 x1.1, .int .i64 x1.2, .int .i64 b2.1, .int .i64 b2.2, .int .i64 c3.1, .int .i64 c3.2, .int .i64 d4.1, .int .i64 d4.2]) (F := E32) (or_new [(16, .agg #[.int .i64 x1.1, .int .i64 x1.2]), (17, .agg #[.int .i64 b2.1, .int .i64 b2.2]), (18, .agg #[.int .i64 c3.1, .int .i64 c3.2]), (19, .agg #[.int .i64 d4.1, .int .i64 d4.2])] rfl rfl ⟨f.1, f.2.1, f.2.2.1, f.2.2.2.1, trivial⟩ (by kernel_rfl)) rfl rfl (show 4 ≤ maxLen by decide))) ?_
    refine sc (fun own a wx hf hsl hE => ?_) ?_
    · obtain ⟨⟨⟨A88, cA88⟩, f_20, b_A88⟩, -⟩ := hf
      exact px (or_call cf33 (args1 f_20) (exact_Right_w _ [x1, b2, c3, d4] A88 cA88 (RdO.zero (RwO.rd b_A88)) r90 hr90) post_val)
    refine sc (fun _ _ _ f _ _ => px (or_not f.1 rfl)) ?_
    refine sc (fun _ _ _ f _ _ => px (or_assign f.1)) ?_
    exact steps_nil
  intro own91 a91 w91 hd91 hz91 hk91 hf91 hE91
  have e91_4 := (hk91 4 rfl).trans e85_4
  have e91_5 := (hk91 5 rfl).trans e85_5
  have e91_6 := (hk91 6 rfl).trans e85_6
  have e91_7 := (hk91 7 rfl).trans e85_7
  obtain ⟨(e91_15 : a91.eval (.tmp 15) = .bool (!r90)), -⟩ := hf91 [7] rfl
  have hX91 := es_ hX85 hE91
  have b91_g77 := be_ hE91 b85_g77
  have b91_g79 := be_ hE91 b85_g79
  have b91_g81 := be_ hE91 b85_g81
  have b91_g83 := be_ hE91 b85_g83
  refine fl_cond e91_15 hs (fun c92 hs => ?_) (fun c92 hs => ?_)
  · refine rg0_seq 103 own91 (bz 2) [⟨[], [], [], Fct.val 8 (.int .i64 0)⟩, ⟨[], [], [], Fct.val 9 (.int .i64 5)⟩] hz91 hd91 (by kernel_rfl) ?_ ?_
    · refine sc (fun _ _ _ _ _ _ => px (or_assign rfl)) ?_
      refine sc (fun _ _ _ _ _ _ => px (or_assign rfl)) ?_
      exact steps_nil
    intro own93 a93 w93 hd93 hz93 hk93 hf93 hE93
    obtain ⟨(e93_8 : a93.eval (.tmp 8) = .int .i64 0), (e93_9 : a93.eval (.tmp 9) = .int .i64 5), -⟩ := hf93 [0, 1] rfl
    have hX93 := es_ hX91 hE93
    refine fl_ret ?_
    refine hp87 _ _ _ rfl ?_
    refine hp86 _ _ _ rfl ?_
    obtain rfl := osome hs
    exact hret _ _ _ _ (.inl rfl) hd93 (results2_ rfl (RVal.tmp_ e93_8) (RVal.tmp_ e93_9)) ⟨own93, rfl, hX93⟩
  obtain ⟨x94, hx94, hs⟩ := obind hs
  refine rg0_seq 103 own91 [0, 0, 3, 7, 15, 15, 63, 127, 255] [⟨[], [4], [], Fct.val 24 (.agg #[.int .i64 x1.1, .int .i64 x1.2])⟩, ⟨[], [5], [], Fct.val 25 (.agg #[.int .i64 b2.1, .int .i64 b2.2])⟩, ⟨[0, 1], [], [], Fct.val 26 (.bool (decide (x1 = b2)))⟩, ⟨[2], [], [], Fct.val 27 (.bool (decide (x1 = b2)))⟩, ⟨[3], [6], [], Fct.cond (!(decide (x1 = b2))) (some 28) (Fct.val 28 (.agg #[.int .i64 c3.1, .int .i64 c3.2]))⟩, ⟨[3], [7], [], Fct.cond (!(decide (x1 = b2))) (some 29) (Fct.val 29 (.agg #[.int .i64 d4.1, .int .i64 d4.2]))⟩, ⟨[3, 4, 5], [], [], Fct.cond (!(decide (x1 = b2))) (some 30) (Fct.val 30 (.bool (decide (c3 = d4))))⟩, ⟨[3, 6], [], [], Fct.val 31 (.bool x94)⟩, ⟨[7], [], [], Fct.val 23 (.bool x94)⟩] hz91 hd91 (by kernel_rfl) ?_ ?_
  · refine sc (fun _ _ _ _ s hE => px (or_load (l := [.int .i64 x1.1, .int .i64 x1.2]) ta32 (s.1.trans e91_4) (Blk.cellsFrom (be_ hE b91_g77).2 0 rfl) rfl)) ?_
    refine sc (fun _ _ _ _ s hE => px (or_load (l := [.int .i64 b2.1, .int .i64 b2.2]) ta32 (s.1.trans e91_5) (Blk.cellsFrom (be_ hE b91_g79).2 0 rfl) rfl)) ?_
    refine sc (fun _ _ _ f _ _ => px (or_eqlA sg32 f.1 f.2.1 (se32 x1.1 x1.2 b2.1 b2.2 _) rfl)) ?_
    refine sc (fun _ _ _ f _ _ => px (or_move f.1)) ?_
    refine sc (fun _ _ _ f s hE => sg_f rfl rfl rfl f.1 (fun hg => or_load (l := [.int .i64 c3.1, .int .i64 c3.2]) ta32 (s.1.trans e91_6) (Blk.cellsFrom (be_ hE b91_g81).2 0 rfl) rfl)) ?_
    refine sc (fun _ _ _ f s hE => sg_f rfl rfl rfl f.1 (fun hg => or_load (l := [.int .i64 d4.1, .int .i64 d4.2]) ta32 (s.1.trans e91_7) (Blk.cellsFrom (be_ hE b91_g83).2 0 rfl) rfl)) ?_
    refine sc (fun _ _ _ f _ _ => sg_f rfl rfl rfl f.1 (fun hg => or_eqlA sg32 (f.2.1.1 hg) (f.2.2.1.1 hg) (se32 c3.1 c3.2 d4.1 d4.2 _) rfl)) ?_
    refine sc (fun _ _ _ f _ _ => px (or_or f.1 rfl (fun hx => f.2.1.1 hx) (osome hx94).symm)) ?_
    refine sc (fun _ _ _ f _ _ => px (or_assign f.1)) ?_
    exact steps_nil
  intro own95 a95 w95 hd95 hz95 hk95 hf95 hE95
  have e95_4 := (hk95 4 rfl).trans e91_4
  have e95_5 := (hk95 5 rfl).trans e91_5
  have e95_6 := (hk95 6 rfl).trans e91_6
  have e95_7 := (hk95 7 rfl).trans e91_7
  obtain ⟨(e95_23 : a95.eval (.tmp 23) = .bool x94), -⟩ := hf95 [8] rfl
  have hX95 := es_ hX91 hE95
  have b95_g77 := be_ hE95 b91_g77
  have b95_g79 := be_ hE95 b91_g79
  have b95_g81 := be_ hE95 b91_g81
  have b95_g83 := be_ hE95 b91_g83
  refine fl_cond e95_23 hs (fun c96 hs => ?_) (fun c96 hs => ?_)
  · refine rg0_seq 103 own95 (bz 2) [⟨[], [], [], Fct.val 8 (.int .i64 0)⟩, ⟨[], [], [], Fct.val 9 (.int .i64 1)⟩] hz95 hd95 (by kernel_rfl) ?_ ?_
    · refine sc (fun _ _ _ _ _ _ => px (or_assign rfl)) ?_
      refine sc (fun _ _ _ _ _ _ => px (or_assign rfl)) ?_
      exact steps_nil
    intro own97 a97 w97 hd97 hz97 hk97 hf97 hE97
    obtain ⟨(e97_8 : a97.eval (.tmp 8) = .int .i64 0), (e97_9 : a97.eval (.tmp 9) = .int .i64 1), -⟩ := hf97 [0, 1] rfl
    have hX97 := es_ hX95 hE97
    refine fl_ret ?_
    refine hp87 _ _ _ rfl ?_
    refine hp86 _ _ _ rfl ?_
    obtain rfl := osome hs
    exact hret _ _ _ _ (.inl rfl) hd97 (results2_ rfl (RVal.tmp_ e97_8) (RVal.tmp_ e97_9)) ⟨own97, rfl, hX97⟩
  obtain ⟨x98, hx98, hs⟩ := obind hs
  obtain ⟨x99, hx99, hs⟩ := obind hs
  refine rg0_seq 103 own95 [0, 0, 3, 7, 15, 15, 63, 127, 255, 511, 511, 2047, 4095, 8191, 8191, 32767, 65535, 131071, 262143] [⟨[], [4], [], Fct.val 33 (.agg #[.int .i64 x1.1, .int .i64 x1.2])⟩, ⟨[], [6], [], Fct.val 34 (.agg #[.int .i64 c3.1, .int .i64 c3.2])⟩, ⟨[0, 1], [], [], Fct.val 35 (.bool (decide (x1 = c3)))⟩, ⟨[2], [], [], Fct.val 36 (.bool (decide (x1 = c3)))⟩, ⟨[3], [5], [], Fct.cond (decide (x1 = c3)) (some 37) (Fct.val 37 (.agg #[.int .i64 b2.1, .int .i64 b2.2]))⟩, ⟨[3], [7], [], Fct.cond (decide (x1 = c3)) (some 38) (Fct.val 38 (.agg #[.int .i64 d4.1, .int .i64 d4.2]))⟩, ⟨[3, 4, 5], [], [], Fct.cond (decide (x1 = c3)) (some 39) (Fct.val 39 (.bool (decide (b2 = d4))))⟩, ⟨[3, 6], [], [], Fct.val 40 (.bool x98)⟩, ⟨[7], [], [], Fct.val 41 (.bool x98)⟩, ⟨[8], [4], [], Fct.cond (!x98) (some 42) (Fct.val 42 (.agg #[.int .i64 x1.1, .int .i64 x1.2]))⟩, ⟨[8], [7], [], Fct.cond (!x98) (some 43) (Fct.val 43 (.agg #[.int .i64 d4.1, .int .i64 d4.2]))⟩, ⟨[8, 9, 10], [], [], Fct.cond (!x98) (some 44) (Fct.val 44 (.bool (decide (x1 = d4))))⟩, ⟨[8, 11], [], [], Fct.cond (!x98) (some 45) (Fct.val 45 (.bool (decide (x1 = d4))))⟩, ⟨[12], [5], [], Fct.cond ((!x98) && (decide (x1 = d4))) (some 46) (Fct.val 46 (.agg #[.int .i64 b2.1, .int .i64 b2.2]))⟩, ⟨[12], [6], [], Fct.cond ((!x98) && (decide (x1 = d4))) (some 47) (Fct.val 47 (.agg #[.int .i64 c3.1, .int .i64 c3.2]))⟩, ⟨[12, 13, 14], [], [], Fct.cond ((!x98) && (decide (x1 = d4))) (some 48) (Fct.val 48 (.bool (decide (b2 = c3))))⟩, ⟨[8, 12, 15], [], [], Fct.cond (!x98) (some 49) (Fct.val 49 (.bool x99))⟩, ⟨[8, 16], [], [], Fct.val 50 (.bool (x98 || x99))⟩, ⟨[17], [], [], Fct.val 32 (.bool (x98 || x99))⟩] hz95 hd95 (by kernel_rfl) ?_ ?_
  · refine sc (fun _ _ _ _ s hE => px (or_load (l := [.int .i64 x1.1, .int .i64 x1.2]) ta32 (s.1.trans e95_4) (Blk.cellsFrom (be_ hE b95_g77).2 0 rfl) rfl)) ?_
    refine sc (fun _ _ _ _ s hE => px (or_load (l := [.int .i64 c3.1, .int .i64 c3.2]) ta32 (s.1.trans e95_6) (Blk.cellsFrom (be_ hE b95_g81).2 0 rfl) rfl)) ?_
    refine sc (fun _ _ _ f _ _ => px (or_eqlA sg32 f.1 f.2.1 (se32 x1.1 x1.2 c3.1 c3.2 _) rfl)) ?_
    refine sc (fun _ _ _ f _ _ => px (or_move f.1)) ?_
    refine sc (fun _ _ _ f s hE => sg_t rfl rfl rfl f.1 (fun hg => or_load (l := [.int .i64 b2.1, .int .i64 b2.2]) ta32 (s.1.trans e95_5) (Blk.cellsFrom (be_ hE b95_g79).2 0 rfl) rfl)) ?_
    refine sc (fun _ _ _ f s hE => sg_t rfl rfl rfl f.1 (fun hg => or_load (l := [.int .i64 d4.1, .int .i64 d4.2]) ta32 (s.1.trans e95_7) (Blk.cellsFrom (be_ hE b95_g83).2 0 rfl) rfl)) ?_
    refine sc (fun _ _ _ f _ _ => sg_t rfl rfl rfl f.1 (fun hg => or_eqlA sg32 (f.2.1.1 hg) (f.2.2.1.1 hg) (se32 b2.1 b2.2 d4.1 d4.2 _) rfl)) ?_
    refine sc (fun _ _ _ f _ _ => px (or_and f.1 (fun hx => f.2.1.1 hx) rfl (osome hx98).symm)) ?_
    refine sc (fun _ _ _ f _ _ => px (or_move f.1)) ?_
    refine sc (fun _ _ _ f s hE => sg_f rfl rfl rfl f.1 (fun hg => or_load (l := [.int .i64 x1.1, .int .i64 x1.2]) ta32 (s.1.trans e95_4) (Blk.cellsFrom (be_ hE b95_g77).2 0 rfl) rfl)) ?_
    refine sc (fun _ _ _ f s hE => sg_f rfl rfl rfl f.1 (fun hg => or_load (l := [.int .i64 d4.1, .int .i64 d4.2]) ta32 (s.1.trans e95_7) (Blk.cellsFrom (be_ hE b95_g83).2 0 rfl) rfl)) ?_
    refine sc (fun _ _ _ f _ _ => sg_f rfl rfl rfl f.1 (fun hg => or_eqlA sg32 (f.2.1.1 hg) (f.2.2.1.1 hg) (se32 x1.1 x1.2 d4.1 d4.2 _) rfl)) ?_
    refine sc (fun _ _ _ f _ _ => sg_f rfl rfl rfl f.1 (fun hg => or_move (f.2.1.1 hg))) ?_
    refine sc (fun _ _ _ f s hE => sg_tc rfl rfl rfl f.1 (fun hg => or_load (l := [.int .i64 b2.1, .int .i64 b2.2]) ta32 (s.1.trans e95_5) (Blk.cellsFrom (be_ hE b95_g79).2 0 rfl) rfl)) ?_
    refine sc (fun _ _ _ f s hE => sg_tc rfl rfl rfl f.1 (fun hg => or_load (l := [.int .i64 c3.1, .int .i64 c3.2]) ta32 (s.1.trans e95_6) (Blk.cellsFrom (be_ hE b95_g81).2 0 rfl) rfl)) ?_
    refine sc (fun _ _ _ f _ _ => sg_tc rfl rfl rfl f.1 (fun hg => or_eqlA sg32 (f.2.1.1 hg) (f.2.2.1.1 hg) (se32 b2.1 b2.2 c3.1 c3.2 _) rfl)) ?_
    refine sc (fun _ _ _ f _ _ => sg_f rfl rfl rfl f.1 (fun hg => or_and (f.2.1.1 hg) (fun hx => f.2.2.1.1 (gI hg hx)) rfl (osome hx99).symm)) ?_
    refine sc (fun _ _ _ f _ _ => px (or_or f.1 rfl (fun hx => f.2.1.1 hx) rfl)) ?_
    refine sc (fun _ _ _ f _ _ => px (or_assign f.1)) ?_
    exact steps_nil
  intro own100 a100 w100 hd100 hz100 hk100 hf100 hE100
  have e100_4 := (hk100 4 rfl).trans e95_4
  have e100_5 := (hk100 5 rfl).trans e95_5
  have e100_6 := (hk100 6 rfl).trans e95_6
  have e100_7 := (hk100 7 rfl).trans e95_7
  obtain ⟨(e100_32 : a100.eval (.tmp 32) = .bool (x98 || x99)), -⟩ := hf100 [18] rfl
  have hX100 := es_ hX95 hE100
  have b100_g77 := be_ hE100 b95_g77
  have b100_g79 := be_ hE100 b95_g79
  have b100_g81 := be_ hE100 b95_g81
  have b100_g83 := be_ hE100 b95_g83
  refine fl_cond e100_32 hs (fun c101 hs => ?_) (fun c101 hs => ?_)
  · refine rg0_seq 103 own100 (bz 2) [⟨[], [], [], Fct.val 8 (.int .i64 5)⟩, ⟨[], [], [], Fct.val 9 (.int .i64 0)⟩] hz100 hd100 (by kernel_rfl) ?_ ?_
    · refine sc (fun _ _ _ _ _ _ => px (or_assign rfl)) ?_
      refine sc (fun _ _ _ _ _ _ => px (or_assign rfl)) ?_
      exact steps_nil
    intro own102 a102 w102 hd102 hz102 hk102 hf102 hE102
    obtain ⟨(e102_8 : a102.eval (.tmp 8) = .int .i64 5), (e102_9 : a102.eval (.tmp 9) = .int .i64 0), -⟩ := hf102 [0, 1] rfl
    have hX102 := es_ hX100 hE102
    refine fl_ret ?_
    refine hp87 _ _ _ rfl ?_
    refine hp86 _ _ _ rfl ?_
    obtain rfl := osome hs
    exact hret _ _ _ _ (.inl rfl) hd102 (results2_ rfl (RVal.tmp_ e102_8) (RVal.tmp_ e102_9)) ⟨own102, rfl, hX102⟩
  refine fl_skip ?_
  refine hn87 _ _ ?_
  refine hn86 _ _ ?_
  obtain ⟨r103, hr103, hs⟩ := obind hs
  obtain ⟨r104, hr104, hs⟩ := obind hs
  refine rg_draw_seq g_mixed (n := 103) (rs := []) (own0 := own100) (K := []) (bs := [0, 0, 0, 7, 0, 0, 0, 127, 255, 511]) (ds := [⟨[], [4], [], Fct.val 51 (.agg #[.int .i64 x1.1, .int .i64 x1.2])⟩, ⟨[], [5], [], Fct.val 52 (.agg #[.int .i64 b2.1, .int .i64 b2.2])⟩, ⟨[], [6], [], Fct.val 53 (.agg #[.int .i64 c3.1, .int .i64 c3.2])⟩, ⟨[0, 1, 2], [], [], Fct.val 54 (.int .i64 r103)⟩, ⟨[], [4], [], Fct.val 55 (.agg #[.int .i64 x1.1, .int .i64 x1.2])⟩, ⟨[], [5], [], Fct.val 56 (.agg #[.int .i64 b2.1, .int .i64 b2.2])⟩, ⟨[], [7], [], Fct.val 57 (.agg #[.int .i64 d4.1, .int .i64 d4.2])⟩, ⟨[4, 5, 6], [], [], Fct.val 58 (.int .i64 r104)⟩, ⟨[3], [], [], Fct.val 10 (.int .i64 r103)⟩, ⟨[7], [], [], Fct.val 11 (.int .i64 r104)⟩]) (by kernel_rfl) hz100 hd100 nm_ ?_ ?_
  · refine sc (fun _ _ _ _ s hE => px (or_load (l := [.int .i64 x1.1, .int .i64 x1.2]) ta32 (s.1.trans e100_4) (Blk.cellsFrom (be_ hE b100_g77).2 0 rfl) rfl)) ?_
    refine sc (fun _ _ _ _ s hE => px (or_load (l := [.int .i64 b2.1, .int .i64 b2.2]) ta32 (s.1.trans e100_5) (Blk.cellsFrom (be_ hE b100_g79).2 0 rfl) rfl)) ?_
    refine sc (fun _ _ _ _ s hE => px (or_load (l := [.int .i64 c3.1, .int .i64 c3.2]) ta32 (s.1.trans e100_6) (Blk.cellsFrom (be_ hE b100_g81).2 0 rfl) rfl)) ?_
    refine sc (fun _ _ _ f _ _ => px (or_call cf38 (args3 f.1 f.2.1 f.2.2.1) (exact_Turn_w _ x1 b2 c3  r103 hr103) post_val)) ?_
    refine sc (fun _ _ _ _ s hE => px (or_load (l := [.int .i64 x1.1, .int .i64 x1.2]) ta32 (s.1.trans e100_4) (Blk.cellsFrom (be_ hE b100_g77).2 0 rfl) rfl)) ?_
    refine sc (fun _ _ _ _ s hE => px (or_load (l := [.int .i64 b2.1, .int .i64 b2.2]) ta32 (s.1.trans e100_5) (Blk.cellsFrom (be_ hE b100_g79).2 0 rfl) rfl)) ?_
    refine sc (fun _ _ _ _ s hE => px (or_load (l := [.int .i64 d4.1, .int .i64 d4.2]) ta32 (s.1.trans e100_7) (Blk.cellsFrom (be_ hE b100_g83).2 0 rfl) rfl)) ?_
    refine sc (fun _ _ _ f _ _ => px (or_call cf38 (args3 f.1 f.2.1 f.2.2.1) (exact_Turn_w _ x1 b2 d4  r104 hr104) post_val)) ?_
    refine sc (fun _ _ _ f _ _ => px (or_assign f.1)) ?_
    refine sc (fun _ _ _ f _ _ => px (or_assign f.1)) ?_
    exact steps_nil
  intro own105 a105 w105 hd105 hz105 hk105 hf105 hE105
  have e105_4 := (hk105 4 rfl).trans e100_4
  have e105_5 := (hk105 5 rfl).trans e100_5
  have e105_6 := (hk105 6 rfl).trans e100_6
  have e105_7 := (hk105 7 rfl).trans e100_7
  obtain ⟨(e105_10 : a105.eval (.tmp 10) = .int .i64 r103), (e105_11 : a105.eval (.tmp 11) = .int .i64 r104), -⟩ := hf105 [8, 9] rfl
  have hX105 := es_ hX100 hE105
  have b105_g77 := be_ hE105 b100_g77
  have b105_g79 := be_ hE105 b100_g79
  have b105_g81 := be_ hE105 b100_g81
  have b105_g83 := be_ hE105 b100_g83
  obtain ⟨r106, hr106, hs⟩ := obind hs
  obtain ⟨r107, hr107, hs⟩ := obind hs
  refine rg_draw_seq g_mixed (n := 103) (rs := []) (own0 := own105) (K := []) (bs := [0, 0, 0, 7, 0, 0, 0, 127, 255, 511]) (ds := [⟨[], [6], [], Fct.val 59 (.agg #[.int .i64 c3.1, .int .i64 c3.2])⟩, ⟨[], [7], [], Fct.val 60 (.agg #[.int .i64 d4.1, .int .i64 d4.2])⟩, ⟨[], [4], [], Fct.val 61 (.agg #[.int .i64 x1.1, .int .i64 x1.2])⟩, ⟨[0, 1, 2], [], [], Fct.val 62 (.int .i64 r106)⟩, ⟨[], [6], [], Fct.val 63 (.agg #[.int .i64 c3.1, .int .i64 c3.2])⟩, ⟨[], [7], [], Fct.val 64 (.agg #[.int .i64 d4.1, .int .i64 d4.2])⟩, ⟨[], [5], [], Fct.val 65 (.agg #[.int .i64 b2.1, .int .i64 b2.2])⟩, ⟨[4, 5, 6], [], [], Fct.val 66 (.int .i64 r107)⟩, ⟨[3], [], [], Fct.val 12 (.int .i64 r106)⟩, ⟨[7], [], [], Fct.val 13 (.int .i64 r107)⟩]) (by kernel_rfl) hz105 hd105 nm_ ?_ ?_
  · refine sc (fun _ _ _ _ s hE => px (or_load (l := [.int .i64 c3.1, .int .i64 c3.2]) ta32 (s.1.trans e105_6) (Blk.cellsFrom (be_ hE b105_g81).2 0 rfl) rfl)) ?_
    refine sc (fun _ _ _ _ s hE => px (or_load (l := [.int .i64 d4.1, .int .i64 d4.2]) ta32 (s.1.trans e105_7) (Blk.cellsFrom (be_ hE b105_g83).2 0 rfl) rfl)) ?_
    refine sc (fun _ _ _ _ s hE => px (or_load (l := [.int .i64 x1.1, .int .i64 x1.2]) ta32 (s.1.trans e105_4) (Blk.cellsFrom (be_ hE b105_g77).2 0 rfl) rfl)) ?_
    refine sc (fun _ _ _ f _ _ => px (or_call cf38 (args3 f.1 f.2.1 f.2.2.1) (exact_Turn_w _ c3 d4 x1  r106 hr106) post_val)) ?_
    refine sc (fun _ _ _ _ s hE => px (or_load (l := [.int .i64 c3.1, .int .i64 c3.2]) ta32 (s.1.trans e105_6) (Blk.cellsFrom (be_ hE b105_g81).2 0 rfl) rfl)) ?_
    refine sc (fun _ _ _ _ s hE => px (or_load (l := [.int .i64 d4.1, .int .i64 d4.2]) ta32 (s.1.trans e105_7) (Blk.cellsFrom (be_ hE b105_g83).2 0 rfl) rfl)) ?_
    refine sc (fun _ _ _ _ s hE => px (or_load (l := [.int .i64 b2.1, .int .i64 b2.2]) ta32 (s.1.trans e105_5) (Blk.cellsFrom (be_ hE b105_g79).2 0 rfl) rfl)) ?_
    refine sc (fun _ _ _ f _ _ => px (or_call cf38 (args3 f.1 f.2.1 f.2.2.1) (exact_Turn_w _ c3 d4 b2  r107 hr107) post_val)) ?_
    refine sc (fun _ _ _ f _ _ => px (or_assign f.1)) ?_
    refine sc (fun _ _ _ f _ _ => px (or_assign f.1)) ?_
    exact steps_nil
  intro own108 a108 w108 hd108 hz108 hk108 hf108 hE108
  have e108_4 := (hk108 4 rfl).trans e105_4
  have e108_5 := (hk108 5 rfl).trans e105_5
  have e108_6 := (hk108 6 rfl).trans e105_6
  have e108_7 := (hk108 7 rfl).trans e105_7
  have e108_10 := (hk108 10 rfl).trans e105_10
  have e108_11 := (hk108 11 rfl).trans e105_11
  obtain ⟨(e108_12 : a108.eval (.tmp 12) = .int .i64 r106), (e108_13 : a108.eval (.tmp 13) = .int .i64 r107), -⟩ := hf108 [8, 9] rfl
  have hX108 := es_ hX105 hE108
  have b108_g77 := be_ hE108 b105_g77
  have b108_g79 := be_ hE108 b105_g79
  have b108_g81 := be_ hE108 b105_g81
  have b108_g83 := be_ hE108 b105_g83
  refine fl_seq (fun Q109 hn109 hp109 => ?_)
  obtain ⟨x110, hx110, hs⟩ := obind hs
  refine rg0_seq 103 own108 (bz 6) [⟨[], [10], [], Fct.val 67 (.int .i64 r103)⟩, ⟨[0], [], [], Fct.val 68 (.bool (decide (r103 = 0)))⟩, ⟨[1], [], [], Fct.val 69 (.bool (decide (r103 = 0)))⟩, ⟨[2], [11], [], Fct.cond (decide (r103 = 0)) (some 70) (Fct.val 70 (.int .i64 r104))⟩, ⟨[2, 3], [], [], Fct.cond (decide (r103 = 0)) (some 71) (Fct.val 71 (.bool (decide (r104 = 0))))⟩, ⟨[2, 4], [], [], Fct.val 72 (.bool x110)⟩] hz108 hd108 (by kernel_rfl) ?_ ?_
  · refine sc (fun _ _ _ _ s _ => px (or_move (s.1.trans e108_10))) ?_
    refine sc (fun _ _ _ f _ _ => px (or_eql f.1 rfl rfl)) ?_
    refine sc (fun _ _ _ f _ _ => px (or_move f.1)) ?_
    refine sc (fun _ _ _ f s _ => sg_t rfl rfl rfl f.1 (fun hg => or_move (s.1.trans e108_11))) ?_
    refine sc (fun _ _ _ f _ _ => sg_t rfl rfl rfl f.1 (fun hg => or_eql (f.2.1.1 hg) rfl rfl)) ?_
    refine sc (fun _ _ _ f _ _ => px (or_and f.1 (fun hx => f.2.1.1 hx) rfl (osome hx110).symm)) ?_
    exact steps_nil
  intro own111 a111 w111 hd111 hz111 hk111 hf111 hE111
  have e111_4 := (hk111 4 rfl).trans e108_4
  have e111_5 := (hk111 5 rfl).trans e108_5
  have e111_6 := (hk111 6 rfl).trans e108_6
  have e111_7 := (hk111 7 rfl).trans e108_7
  have e111_10 := (hk111 10 rfl).trans e108_10
  have e111_11 := (hk111 11 rfl).trans e108_11
  have e111_12 := (hk111 12 rfl).trans e108_12
  have e111_13 := (hk111 13 rfl).trans e108_13
  obtain ⟨(e111_72 : a111.eval (.tmp 72) = .bool x110), -⟩ := hf111 [5] rfl
  have hX111 := es_ hX108 hE111
  have b111_g77 := be_ hE111 b108_g77
  have b111_g79 := be_ hE111 b108_g79
  have b111_g81 := be_ hE111 b108_g81
  have b111_g83 := be_ hE111 b108_g83
  refine fl_cond e111_72 hs (fun c112 hs => ?_) (fun c112 hs => ?_)
  · obtain ⟨r113, hr113, hs⟩ := obind hs
    refine rg0_seq 103 own111 [0, 0, 0, 0, 15, 31, 63] [⟨[], [4], [], Fct.val 73 (.agg #[.int .i64 x1.1, .int .i64 x1.2])⟩, ⟨[], [5], [], Fct.val 74 (.agg #[.int .i64 b2.1, .int .i64 b2.2])⟩, ⟨[], [6], [], Fct.val 75 (.agg #[.int .i64 c3.1, .int .i64 c3.2])⟩, ⟨[], [7], [], Fct.val 76 (.agg #[.int .i64 d4.1, .int .i64 d4.2])⟩, ⟨[0, 1, 2, 3], [], [], Fct.val 77 (.int .i64 r113)⟩, ⟨[4], [], [], Fct.val 8 (.int .i64 r113)⟩, ⟨[], [], [], Fct.val 9 (.int .i64 0)⟩] hz111 hd111 (by kernel_rfl) ?_ ?_
    · refine sc (fun _ _ _ _ s hE => px (or_load (l := [.int .i64 x1.1, .int .i64 x1.2]) ta32 (s.1.trans e111_4) (Blk.cellsFrom (be_ hE b111_g77).2 0 rfl) rfl)) ?_
      refine sc (fun _ _ _ _ s hE => px (or_load (l := [.int .i64 b2.1, .int .i64 b2.2]) ta32 (s.1.trans e111_5) (Blk.cellsFrom (be_ hE b111_g79).2 0 rfl) rfl)) ?_
      refine sc (fun _ _ _ _ s hE => px (or_load (l := [.int .i64 c3.1, .int .i64 c3.2]) ta32 (s.1.trans e111_6) (Blk.cellsFrom (be_ hE b111_g81).2 0 rfl) rfl)) ?_
      refine sc (fun _ _ _ _ s hE => px (or_load (l := [.int .i64 d4.1, .int .i64 d4.2]) ta32 (s.1.trans e111_7) (Blk.cellsFrom (be_ hE b111_g83).2 0 rfl) rfl)) ?_
      refine sc (fun _ _ _ f _ _ => px (or_call cf56 (args4 f.1 f.2.1 f.2.2.1 f.2.2.2.1) (seg_line_w _ x1 b2 c3 d4  r113 hr113) post_val)) ?_
      refine sc (fun _ _ _ f _ _ => px (or_assign f.1)) ?_
      refine sc (fun _ _ _ _ _ _ => px (or_assign rfl)) ?_
      exact steps_nil
    intro own114 a114 w114 hd114 hz114 hk114 hf114 hE114
    obtain ⟨(e114_8 : a114.eval (.tmp 8) = .int .i64 r113), (e114_9 : a114.eval (.tmp 9) = .int .i64 0), -⟩ := hf114 [5, 6] rfl
    have hX114 := es_ hX111 hE114
    refine fl_ret ?_
    refine hp109 _ _ _ rfl ?_
    obtain rfl := osome hs
    exact hret _ _ _ _ (.inl rfl) hd114 (results2_ rfl (RVal.tmp_ e114_8) (RVal.tmp_ e114_9)) ⟨own114, rfl, hX114⟩
  refine fl_skip ?_
  refine hn109 _ _ ?_
  refine fl_seq (fun Q115 hn115 hp115 => ?_)
  obtain ⟨x116, hx116, hs⟩ := obind hs
  refine rg0_seq 103 own111 [0, 0, 3, 7, 15, 31, 31, 127, 255, 511] [⟨[], [10], [], Fct.val 78 (.int .i64 r103)⟩, ⟨[], [11], [], Fct.val 79 (.int .i64 r104)⟩, ⟨[0, 1], [], [], Fct.val 80 (.int .i64 (ml r103 r104))⟩, ⟨[2], [], [], Fct.val 81 (.bool (decide (0 < (ml r103 r104))))⟩, ⟨[3], [], [], Fct.val 82 (.bool (decide (0 < (ml r103 r104))))⟩, ⟨[4], [12], [], Fct.cond (!(decide (0 < (ml r103 r104)))) (some 83) (Fct.val 83 (.int .i64 r106))⟩, ⟨[4], [13], [], Fct.cond (!(decide (0 < (ml r103 r104)))) (some 84) (Fct.val 84 (.int .i64 r107))⟩, ⟨[4, 5, 6], [], [], Fct.cond (!(decide (0 < (ml r103 r104)))) (some 85) (Fct.val 85 (.int .i64 (ml r106 r107)))⟩, ⟨[4, 7], [], [], Fct.cond (!(decide (0 < (ml r103 r104)))) (some 86) (Fct.val 86 (.bool (decide (0 < (ml r106 r107)))))⟩, ⟨[4, 8], [], [], Fct.val 87 (.bool x116)⟩] hz111 hd111 (by kernel_rfl) ?_ ?_
  · refine sc (fun _ _ _ _ s _ => px (or_move (s.1.trans e111_10))) ?_
    refine sc (fun _ _ _ _ s _ => px (or_move (s.1.trans e111_11))) ?_
    refine sc (fun _ _ _ f _ _ => px (or_mul f.1 f.2.1 rfl)) ?_
    refine sc (fun _ _ _ f _ _ => px (or_gtr f.1 rfl rfl)) ?_
    refine sc (fun _ _ _ f _ _ => px (or_move f.1)) ?_
    refine sc (fun _ _ _ f s _ => sg_f rfl rfl rfl f.1 (fun hg => or_move (s.1.trans e111_12))) ?_
    refine sc (fun _ _ _ f s _ => sg_f rfl rfl rfl f.1 (fun hg => or_move (s.1.trans e111_13))) ?_
    refine sc (fun _ _ _ f _ _ => sg_f rfl rfl rfl f.1 (fun hg => or_mul (f.2.1.1 hg) (f.2.2.1.1 hg) rfl)) ?_
    refine sc (fun _ _ _ f _ _ => sg_f rfl rfl rfl f.1 (fun hg => or_gtr (f.2.1.1 hg) rfl rfl)) ?_
    refine sc (fun _ _ _ f _ _ => px (or_or f.1 rfl (fun hx => f.2.1.1 hx) (osome hx116).symm)) ?_
    exact steps_nil
  intro own117 a117 w117 hd117 hz117 hk117 hf117 hE117
  have e117_10 := (hk117 10 rfl).trans e111_10
  have e117_11 := (hk117 11 rfl).trans e111_11
  have e117_12 := (hk117 12 rfl).trans e111_12
  have e117_13 := (hk117 13 rfl).trans e111_13
  obtain ⟨(e117_87 : a117.eval (.tmp 87) = .bool x116), -⟩ := hf117 [9] rfl
  have hX117 := es_ hX111 hE117
  refine fl_cond e117_87 hs (fun c118 hs => ?_) (fun c118 hs => ?_)
  · refine rg0_seq 103 own117 (bz 2) [⟨[], [], [], Fct.val 8 (.int .i64 0)⟩, ⟨[], [], [], Fct.val 9 (.int .i64 0)⟩] hz117 hd117 (by kernel_rfl) ?_ ?_
    · refine sc (fun _ _ _ _ _ _ => px (or_assign rfl)) ?_
      refine sc (fun _ _ _ _ _ _ => px (or_assign rfl)) ?_
      exact steps_nil
    intro own119 a119 w119 hd119 hz119 hk119 hf119 hE119
    obtain ⟨(e119_8 : a119.eval (.tmp 8) = .int .i64 0), (e119_9 : a119.eval (.tmp 9) = .int .i64 0), -⟩ := hf119 [0, 1] rfl
    have hX119 := es_ hX117 hE119
    refine fl_ret ?_
    refine hp115 _ _ _ rfl ?_
    obtain rfl := osome hs
    exact hret _ _ _ _ (.inl rfl) hd119 (results2_ rfl (RVal.tmp_ e119_8) (RVal.tmp_ e119_9)) ⟨own119, rfl, hX119⟩
  refine fl_skip ?_
  refine hn115 _ _ ?_
  refine rg0_seq 103 own117 (bz 1) [⟨[], [], [], Fct.val 14 (.int .i64 0)⟩] hz117 hd117 (by kernel_rfl) ?_ ?_
  · refine sc (fun _ _ _ _ _ _ => px (or_assign rfl)) ?_
    exact steps_nil
  intro own120 a120 w120 hd120 hz120 hk120 hf120 hE120
  have e120_10 := (hk120 10 rfl).trans e117_10
  have e120_11 := (hk120 11 rfl).trans e117_11
  have e120_12 := (hk120 12 rfl).trans e117_12
  have e120_13 := (hk120 13 rfl).trans e117_13
  obtain ⟨(e120_14 : a120.eval (.tmp 14) = .int .i64 0), -⟩ := hf120 [0] rfl
  have hX120 := es_ hX117 hE120
  refine fl_seq (fun Q121 hn121 hp121 => ?_)
  have K126 : ∀ (a126 : Act) (w126 : World) (own126 : Own) (ends125 : Int), a126.defers = [] → a126.tmps.size = 103 → a126.eval (.tmp 12) = .int .i64 r106 → a126.eval (.tmp 13) = .int .i64 r107 → a126.eval (.tmp 14) = .int .i64 ends125 → Evo [] (fun _ => 0) own126 w w126 → seg_Class_k1 r106 r107 ends125 = some r → Q121 .normal a126 w126 := by
    intro a126 w126 own126 ends125 hd127 hz127 e127_12 e127_13 e127_14 hE127 hs
    refine hn121 _ _ ?_
    refine fl_seq (fun Q128 hn128 hp128 => ?_)
    have K133 : ∀ (a133 : Act) (w133 : World) (own133 : Own) (ends132 : Int), a133.defers = [] → a133.tmps.size = 103 → a133.eval (.tmp 14) = .int .i64 ends132 → Evo [] (fun _ => 0) own133 w w133 → seg_Class_k2 ends132 = some r → Q128 .normal a133 w133 := by
      intro a133 w133 own133 ends132 hd134 hz134 e134_14 hE134 hs
      refine hn128 _ _ ?_
      obtain ⟨x135, hx135, hs⟩ := obind hs
      refine rg0_seq 103 own133 [0, 0, 3, 7, 15] [⟨[], [], [], Fct.val 100 (.agg #[.int .i64 3, .int .i64 2, .int .i64 1])⟩, ⟨[], [14], [], Fct.val 101 (.int .i64 ends132)⟩, ⟨[0, 1], [], [], Fct.val 102 (.int .i64 x135)⟩, ⟨[2], [], [], Fct.val 8 (.int .i64 x135)⟩, ⟨[], [], [], Fct.val 9 (.int .i64 0)⟩] hz134 hd134 (by kernel_rfl) ?_ ?_
      · refine sc (fun _ _ _ _ _ _ => px (or_k [] rfl rfl trivial (by kernel_rfl))) ?_
        refine sc (fun _ _ _ _ s _ => px (or_move (s.1.trans e134_14))) ?_
        refine sc (fun _ _ _ f _ _ => px (or_indexA1 (F := E3) (l := [3, 2, 1]) (v := x135) tr74 to3 ts3 rfl rfl rfl f.1 rfl f.2.1 hx135)) ?_
        refine sc (fun _ _ _ f _ _ => px (or_assign f.1)) ?_
        refine sc (fun _ _ _ _ _ _ => px (or_assign rfl)) ?_
        exact steps_nil
      intro own136 a136 w136 hd136 hz136 hk136 hf136 hE136
      obtain ⟨(e136_8 : a136.eval (.tmp 8) = .int .i64 x135), (e136_9 : a136.eval (.tmp 9) = .int .i64 0), -⟩ := hf136 [3, 4] rfl
      have hX136 := es_ hE134 hE136
      refine fl_ret ?_
      obtain rfl := osome hs
      exact hret _ _ _ _ (.inl rfl) hd136 (results2_ rfl (RVal.tmp_ e136_8) (RVal.tmp_ e136_9)) ⟨own136, rfl, hX136⟩
    refine rg0_seq 103 own126 [0, 0, 3, 7] [⟨[], [12], [], Fct.val 94 (.int .i64 r106)⟩, ⟨[], [13], [], Fct.val 95 (.int .i64 r107)⟩, ⟨[0, 1], [], [], Fct.val 96 (.int .i64 (ml r106 r107))⟩, ⟨[2], [], [], Fct.val 97 (.bool (decide ((ml r106 r107) = 0)))⟩] hz127 hd127 (by kernel_rfl) ?_ ?_
    · refine sc (fun _ _ _ _ s _ => px (or_move (s.1.trans e127_12))) ?_
      refine sc (fun _ _ _ _ s _ => px (or_move (s.1.trans e127_13))) ?_
      refine sc (fun _ _ _ f _ _ => px (or_mul f.1 f.2.1 rfl)) ?_
      refine sc (fun _ _ _ f _ _ => px (or_eql f.1 rfl rfl)) ?_
      exact steps_nil
    intro own137 a137 w137 hd137 hz137 hk137 hf137 hE137
    have e137_14 := (hk137 14 rfl).trans e127_14
    obtain ⟨(e137_97 : a137.eval (.tmp 97) = .bool (decide ((ml r106 r107) = 0))), -⟩ := hf137 [3] rfl
    have hX137 := es_ hE127 hE137
    refine fl_cond e137_97 hs (fun c138 hs => ?_) (fun c138 hs => ?_)
    · refine rg0 103 own137 (bz 3) [⟨[], [14], [], Fct.val 98 (.int .i64 ends125)⟩, ⟨[0], [], [], Fct.val 99 (.int .i64 (ad ends125 1))⟩, ⟨[1], [], [], Fct.val 14 (.int .i64 (ad ends125 1))⟩] hz137 hd137 (by kernel_rfl) ?_ ?_
      · refine sc (fun _ _ _ _ s _ => px (or_move (s.1.trans e137_14))) ?_
        refine sc (fun _ _ _ f _ _ => px (or_add f.1 rfl rfl)) ?_
        refine sc (fun _ _ _ f _ _ => px (or_assign f.1)) ?_
        exact steps_nil
      intro own139 a139 w139 hd139 hz139 hk139 hf139 hE139
      obtain ⟨(e139_14 : a139.eval (.tmp 14) = .int .i64 (ad ends125 1)), -⟩ := hf139 [2] rfl
      have hX139 := es_ hX137 hE139
      exact (K133 _ _ own139 _ hd139 hz139 e139_14 hX139 hs)
    refine fl_skip ?_
    exact (K133 _ _ own137 _ hd137 hz137 e137_14 hX137 hs)
  refine rg0_seq 103 own120 [0, 0, 3, 7] [⟨[], [10], [], Fct.val 88 (.int .i64 r103)⟩, ⟨[], [11], [], Fct.val 89 (.int .i64 r104)⟩, ⟨[0, 1], [], [], Fct.val 90 (.int .i64 (ml r103 r104))⟩, ⟨[2], [], [], Fct.val 91 (.bool (decide ((ml r103 r104) = 0)))⟩] hz120 hd120 (by kernel_rfl) ?_ ?_
  · refine sc (fun _ _ _ _ s _ => px (or_move (s.1.trans e120_10))) ?_
    refine sc (fun _ _ _ _ s _ => px (or_move (s.1.trans e120_11))) ?_
    refine sc (fun _ _ _ f _ _ => px (or_mul f.1 f.2.1 rfl)) ?_
    refine sc (fun _ _ _ f _ _ => px (or_eql f.1 rfl rfl)) ?_
    exact steps_nil
  intro own140 a140 w140 hd140 hz140 hk140 hf140 hE140
  have e140_12 := (hk140 12 rfl).trans e120_12
  have e140_13 := (hk140 13 rfl).trans e120_13
  have e140_14 := (hk140 14 rfl).trans e120_14
  obtain ⟨(e140_91 : a140.eval (.tmp 91) = .bool (decide ((ml r103 r104) = 0))), -⟩ := hf140 [3] rfl
  have hX140 := es_ hX120 hE140
  refine fl_cond e140_91 hs (fun c141 hs => ?_) (fun c141 hs => ?_)
  · refine rg0 103 own140 (bz 3) [⟨[], [14], [], Fct.val 92 (.int .i64 0)⟩, ⟨[0], [], [], Fct.val 93 (.int .i64 1)⟩, ⟨[1], [], [], Fct.val 14 (.int .i64 1)⟩] hz140 hd140 (by kernel_rfl) ?_ ?_
    · refine sc (fun _ _ _ _ s _ => px (or_move (s.1.trans e140_14))) ?_
      refine sc (fun _ _ _ f _ _ => px (or_add f.1 rfl (by decide))) ?_
      refine sc (fun _ _ _ f _ _ => px (or_assign f.1)) ?_
      exact steps_nil
    intro own142 a142 w142 hd142 hz142 hk142 hf142 hE142
    have e142_12 := (hk142 12 rfl).trans e140_12
    have e142_13 := (hk142 13 rfl).trans e140_13
    obtain ⟨(e142_14 : a142.eval (.tmp 14) = .int .i64 1), -⟩ := hf142 [2] rfl
    have hX142 := es_ hX140 hE142
    exact (K126 _ _ own142 _ hd142 hz142 e142_12 e142_13 e142_14 hX142 hs)
  refine fl_skip ?_
  exact (K126 _ _ own140 _ hd140 hz140 e140_12 e140_13 e140_14 hX140 hs)
theorem ring_Simple_w (w : World) (l1 : List (Int × Int)) (Al1 : Option Addr) (cl1 : Nat) (hl1 : RdO (fun _ => 0) [0] w R32 Al1 cl1 l1) (r : Bool) (hs : ring_Simple l1 = some r) :
    Calls Try.prog 14 #[.slice Al1 l1.length cl1] w fun e w' => ∃ own' : Own, e = .returned (.bool r) ∧ Evo [] (fun _ => 0) own' w w' := by
  refine fl_enter (n := 99) rfl rfl rfl (Nat.le_of_ble_eq_true rfl) ?_
  intro a0 Q hd0 hz0 harg hret
  have ha0 := harg 0 _ rfl
  clear harg
  have hE0 : Evo [] (fun _ => 0) (fun _ => 0) w w := Evo.refl _ _ _
  refine rg0_seq 99 (fun _ => 0) (bz 1) [⟨[], [], [], Fct.val 2 (.bool false)⟩] hz0 hd0 (by kernel_rfl) ?_ ?_
  · refine sc (fun _ _ _ _ _ _ => px (or_assign rfl)) ?_
    exact steps_nil
  intro own624 a624 w624 hd624 hz624 hk624 hf624 hE624
  have e624_0 := (hk624 0 rfl).trans ha0
  have hX624 := es_ hE0 hE624
  have b624_Al1 := RdO.evo rfl hE624 hl1
  refine fl_fwd (l := 0) rfl ?_
  intro Q625 hj625 hp625
  have K929 : ∀ (a929 : Act) (w929 : World) (own929 : Own), a929.defers = [] → a929.tmps.size = 99 → Evo [] (fun _ => 0) own929 w w929 → ring_Simple_k1 = some r → Q625 (.goto 0) a929 w929 := by
    intro a929 w929 own929  hd930 hz930 hE930 hs
    refine hj625 _ _ (fun Q931 hp931 => ?_)
    refine fl_seq (fun Q932 hn932 hp932 => ?_)
    refine fl_skip ?_
    refine hn932 _ _ ?_
    refine rg0_seq 99 own929 (bz 1) [⟨[], [], [], Fct.val 2 (.bool false)⟩] hz930 hd930 (by kernel_rfl) ?_ ?_
    · refine sc (fun _ _ _ _ _ _ => px (or_assign rfl)) ?_
      exact steps_nil
    intro own933 a933 w933 hd933 hz933 hk933 hf933 hE933
    obtain ⟨(e933_2 : a933.eval (.tmp 2) = .bool false), -⟩ := hf933 [0] rfl
    have hX933 := es_ hE930 hE933
    refine fl_ret ?_
    refine hp931.leaves _ _ _ rfl ?_
    obtain rfl := osome hs
    exact hret _ _ _ _ (.inl rfl) hd933 (results1_ rfl (RVal.tmp_ e933_2)) ⟨own933, rfl, hX933⟩
  refine rg0_seq 99 own624 (bz 3) [⟨[], [0], [], Fct.val 12 (.slice Al1 l1.length cl1)⟩, ⟨[0], [], [], Fct.val 13 (.int .i64 (l1.length : Int))⟩, ⟨[1], [], [], Fct.val 3 (.int .i64 (l1.length : Int))⟩] hz624 hd624 (by kernel_rfl) ?_ ?_
  · refine sc (fun _ _ _ _ s _ => px (or_move (s.1.trans e624_0))) ?_
    refine sc (fun _ _ _ f _ _ => px (or_len tu22 f.1 rfl)) ?_
    refine sc (fun _ _ _ f _ _ => px (or_assign f.1)) ?_
    exact steps_nil
  intro own934 a934 w934 hd934 hz934 hk934 hf934 hE934
  have e934_0 := (hk934 0 rfl).trans e624_0
  obtain ⟨(e934_3 : a934.eval (.tmp 3) = .int .i64 (l1.length : Int)), -⟩ := hf934 [2] rfl
  have hX934 := es_ hX624 hE934
  have b934_Al1 := RdO.evo rfl hE934 b624_Al1
  refine fl_seq (fun Q935 hn935 hp935 => ?_)
  obtain ⟨r936, hr936, hs⟩ := obind hs
  obtain ⟨x937, hx937, hs⟩ := obind hs
  refine rg0_seq 99 own934 (bz 7) [⟨[], [3], [], Fct.val 14 (.int .i64 (l1.length : Int))⟩, ⟨[0], [], [], Fct.val 15 (.bool (decide ((l1.length : Int) < 3)))⟩, ⟨[1], [], [], Fct.val 16 (.bool (decide ((l1.length : Int) < 3)))⟩, ⟨[2], [0], [], Fct.cond (!(decide ((l1.length : Int) < 3))) (some 17) (Fct.val 17 (.slice Al1 l1.length cl1))⟩, ⟨[2, 3], [], [], Fct.cond (!(decide ((l1.length : Int) < 3))) (some 18) (Fct.val 18 (.bool r936))⟩, ⟨[2, 4], [], [], Fct.cond (!(decide ((l1.length : Int) < 3))) (some 19) (Fct.val 19 (.bool (!r936)))⟩, ⟨[2, 5], [], [], Fct.val 20 (.bool x937)⟩] hz934 hd934 (by kernel_rfl) ?_ ?_
  · refine sc (fun _ _ _ _ s _ => px (or_move (s.1.trans e934_3))) ?_
    refine sc (fun _ _ _ f _ _ => px (or_lss f.1 rfl rfl)) ?_
    refine sc (fun _ _ _ f _ _ => px (or_move f.1)) ?_
    refine sc (fun _ _ _ f s _ => sg_f rfl rfl rfl f.1 (fun hg => or_move (s.1.trans e934_0))) ?_
    refine sc (fun _ _ _ f _ hE => sg_f rfl rfl rfl f.1 (fun hg => or_call cf33 (args1 (f.2.1.1 hg)) (exact_Right_w _ l1 Al1 cl1 (RdO.zero (RdO.evo rfl hE b934_Al1)) r936 (gd_t hr936 hg)) post_val)) ?_
    refine sc (fun _ _ _ f _ _ => sg_f rfl rfl rfl f.1 (fun hg => or_not (f.2.1.1 hg) rfl)) ?_
    refine sc (fun _ _ _ f _ _ => px (or_or f.1 rfl (fun hx => f.2.1.1 hx) (osome hx937).symm)) ?_
    exact steps_nil
  intro own938 a938 w938 hd938 hz938 hk938 hf938 hE938
  have e938_0 := (hk938 0 rfl).trans e934_0
  have e938_3 := (hk938 3 rfl).trans e934_3
  obtain ⟨(e938_20 : a938.eval (.tmp 20) = .bool x937), -⟩ := hf938 [6] rfl
  have hX938 := es_ hX934 hE938
  have b938_Al1 := RdO.evo rfl hE938 b934_Al1
  refine fl_cond e938_20 hs (fun c939 hs => ?_) (fun c939 hs => ?_)
  · refine rg0_seq 99 own938 (bz 1) [⟨[], [], [], Fct.val 2 (.bool false)⟩] hz938 hd938 (by kernel_rfl) ?_ ?_
    · refine sc (fun _ _ _ _ _ _ => px (or_assign rfl)) ?_
      exact steps_nil
    intro own940 a940 w940 hd940 hz940 hk940 hf940 hE940
    obtain ⟨(e940_2 : a940.eval (.tmp 2) = .bool false), -⟩ := hf940 [0] rfl
    have hX940 := es_ hX938 hE940
    refine fl_ret ?_
    refine hp935 _ _ _ rfl ?_
    refine hp625.leaves _ _ _ rfl ?_
    obtain rfl := osome hs
    exact hret _ _ _ _ (.inl rfl) hd940 (results1_ rfl (RVal.tmp_ e940_2)) ⟨own940, rfl, hX940⟩
  refine fl_skip ?_
  refine hn935 _ _ ?_
  refine rg0_seq 99 own938 (bz 2) [⟨[], [], [], Fct.map_ 942 21 vv32 vv4 ([] : List ((Int × Int) × Bool))⟩, ⟨[0], [], [], Fct.rel [4, 21] (fun l => ∀ (g941 : Nat), l.getD 1 undef = .map (some g941) → l.getD 0 undef = .map (some g941))⟩] hz938 hd938 (by kernel_rfl) ?_ ?_
  · refine sc (fun _ _ _ _ _ _ => px (or_makeMap)) ?_
    refine sc (fun own a wx hf hsl hE => ?_) ?_
    · obtain ⟨⟨g941, (f_21 : a.eval (.tmp 21) = .map (some g941)), b_g941⟩, -⟩ := hf
      exact px (or_mono (f := Fct.val 4 (.map (some g941))) (or_assign f_21) (fun own' a' w' v' hp h => fun _ h0' => by cases (f_21.symm.trans ((hp.2 21 (by decide)).symm.trans h0')); exact h))
    exact steps_nil
  intro own943 a943 w943 hd943 hz943 hk943 hf943 hE943
  have e943_0 := (hk943 0 rfl).trans e938_0
  have e943_3 := (hk943 3 rfl).trans e938_3
  obtain ⟨⟨g941, (f_21 : a943.eval (.tmp 21) = .map (some g941)), (b943_g941 : MpO own943 942 w943 g941 vv32 vv4 ([] : List ((Int × Int) × Bool)))⟩, (q_4 : ∀ (g941 : Nat), a943.eval (.tmp 21) = .map (some g941) → a943.eval (.tmp 4) = .map (some g941)), -⟩ := hf943 [0, 1] rfl
  have e943_4 := q_4 _ f_21
  have hX943 := es_ hX938 hE943
  have b943_Al1 := RdO.evo rfl hE943 b938_Al1
  refine fl_seq (fun Q944 hn944 hp944 => ?_)
  refine rg0_seq 99 own943 [0, 1, 0] [⟨[], [0], [], Fct.val 22 (.slice Al1 l1.length cl1)⟩, ⟨[0], [], [], Fct.val 23 (.int .i64 (l1.length : Int))⟩, ⟨[], [], [], Fct.val 24 (.int .i64 0)⟩] hz943 hd943 (by kernel_rfl) ?_ ?_
  · refine sc (fun _ _ _ _ s _ => px (or_move (s.1.trans e943_0))) ?_
    refine sc (fun _ _ _ f _ _ => px (or_len tu22 f.1 rfl)) ?_
    refine sc (fun _ _ _ _ _ _ => px (or_move rfl)) ?_
    exact steps_nil
  intro own945 a945 w945 hd945 hz945 hk945 hf945 hE945
  have e945_0 := (hk945 0 rfl).trans e943_0
  have e945_3 := (hk945 3 rfl).trans e943_3
  have e945_4 := (hk945 4 rfl).trans e943_4
  obtain ⟨(e945_22 : a945.eval (.tmp 22) = .slice Al1 l1.length cl1), (e945_23 : a945.eval (.tmp 23) = .int .i64 (l1.length : Int)), (e945_24 : a945.eval (.tmp 24) = .int .i64 0), -⟩ := hf945 [0, 1, 2] rfl
  have hX945 := es_ hX943 hE945
  have b945_Al1 := RdO.evo rfl hE945 b943_Al1
  have b945_g941 := MpO.evo (by decide) hE945 b943_g941
  refine fl_block (fun Q946 hn946 hx946 hp946 => ?_)
  refine fl_loop (body := (fun s => ring_Simple_b2 l1 s.1 s.2)) (z := r) (show loopO _ _ = _ from hs) (fun (s : (List ((Int × Int) × Bool)) × Int) a wx => match s with | (met967, x968) => ∃ (ox : Own), a.defers = [] ∧ a.tmps.size = 99 ∧ a.eval (.tmp 0) = .slice Al1 l1.length cl1 ∧ a.eval (.tmp 3) = .int .i64 (l1.length : Int) ∧ a.eval (.tmp 4) = .map (some g941) ∧ a.eval (.tmp 22) = .slice Al1 l1.length cl1 ∧ a.eval (.tmp 23) = .int .i64 (l1.length : Int) ∧ a.eval (.tmp 24) = .int .i64 x968 ∧ Evo [] (fun _ => 0) ox w wx ∧ RdO ox [0] wx R32 Al1 cl1 l1 ∧ MpO ox 966 wx g941 vv32 vv4 met967) ?_ ?_
  · exact ⟨(rl [(942, 966)] own945), hd945, hz945, e945_0, e945_3, e945_4, e945_22, e945_23, e945_24, (Evo.rl_ hX945 (fun _ => Nat.le_refl 0) rfl), (RdO.rl_ (mm := [(942, 966)]) b945_Al1), (MpO.rl_ (mm := [(942, 966)]) b945_g941)⟩
  · rintro ⟨met967, x968⟩ zz987 a987 w987 ⟨own987, hd988, hz988, e988_0, e988_3, e988_4, e988_22, e988_23, e988_24, hE988, b988_Al1, b988_g941⟩ hs Q987 hn987 hp987 hz987
    have hs : ring_Simple_b2 l1 met967 x968 = some zz987 := hs
    refine rg0_seq 99 own987 (bz 1) [⟨[], [24, 23], [], Fct.val 25 (.bool (decide (x968 < (l1.length : Int))))⟩] hz988 hd988 (by kernel_rfl) ?_ ?_
    · refine sc (fun _ _ _ _ s _ => px (or_lss (s.1.trans e988_24) (s.2.1.trans e988_23) rfl)) ?_
      exact steps_nil
    intro own989 a989 w989 hd989 hz989 hk989 hf989 hE989
    have e989_0 := (hk989 0 rfl).trans e988_0
    have e989_3 := (hk989 3 rfl).trans e988_3
    have e989_4 := (hk989 4 rfl).trans e988_4
    have e989_22 := (hk989 22 rfl).trans e988_22
    have e989_23 := (hk989 23 rfl).trans e988_23
    have e989_24 := (hk989 24 rfl).trans e988_24
    obtain ⟨(e989_25 : a989.eval (.tmp 25) = .bool (decide (x968 < (l1.length : Int)))), -⟩ := hf989 [0] rfl
    have hX989 := es_ hE988 hE989
    have b989_Al1 := RdO.evo rfl hE989 b988_Al1
    have b989_g941 := MpO.evo (by decide) hE989 b988_g941
    refine fl_seq (fun Q990 hn990 hp990 => ?_)
    refine fl_cond e989_25 hs (fun c991 hs => ?_) (fun c991 hs => ?_)
    · refine fl_skip ?_
      refine hn990 _ _ ?_
      refine fl_seq (fun Q992 hn992 hp992 => ?_)
      refine fl_block (fun Q993 hn993 hx993 hp993 => ?_)
      obtain ⟨x994, hx994, hs⟩ := obind hs
      refine rg_plain_seq (n := 99) (rs := []) (own0 := own989) (K := [996]) (bs := [0, 1, 0, 7]) (ds := [⟨[], [22, 24], [], Fct.val 26 (.pointer (some ((adr Al1).add ((x968 : Int).toNat * R32.s))))⟩, ⟨[0], [], [], Fct.val 27 (.agg #[.int .i64 x994.1, .int .i64 x994.2])⟩, ⟨[], [], [], Fct.blk 996 6 (fun g => .pointer (some ⟨g, 0, none⟩)) 32 #[.int .i64 0, .int .i64 0]⟩, ⟨[2, 1], [], [996], Fct.blk 997 6 (fun g => .pointer (some ⟨g, 0, none⟩)) 32 #[.int .i64 x994.1, .int .i64 x994.2]⟩]) (by kernel_rfl) hz989 hd989 nm_ ?_ ?_
      · refine sc (fun _ _ _ _ s _ => px (or_index (R := R32) (l := l1) tl22 (s.1.trans e989_22) (s.2.1.trans e989_24) (RdO.some_ b989_Al1 hx994) hx994)) ?_
        refine sc (fun _ _ _ f _ hE => px (or_load (l := E32.f x994) ta32 f.1 (RdO.cells (F := E32) (RdO.evo rfl hE b989_Al1) hx994) rfl)) ?_
        refine sc (fun _ _ _ _ _ _ => px (or_new [] rfl rfl trivial (by kernel_rfl))) ?_
        refine sc (fun own a wx hf hsl hE => ?_) ?_
        · obtain ⟨⟨g995, f_6, b_g995⟩, f_27, -⟩ := hf
          exact px (or_store (l := #[.int .i64 x994.1, .int .i64 x994.2]) (lab := 996) (lab2 := 997) ts32 f_6 f_27 b_g995 (by simp) (by kernel_rfl) (mem_of rfl) (by decide) (by kernel_rfl) (fun own' a' w' ha hb => ⟨_, (ha 6).trans f_6, hb⟩))
        exact steps_nil
      intro own998 a998 w998 hd998 hz998 hk998 hf998 hE998
      have e998_0 := (hk998 0 rfl).trans e989_0
      have e998_3 := (hk998 3 rfl).trans e989_3
      have e998_4 := (hk998 4 rfl).trans e989_4
      have e998_22 := (hk998 22 rfl).trans e989_22
      have e998_23 := (hk998 23 rfl).trans e989_23
      have e998_24 := (hk998 24 rfl).trans e989_24
      obtain ⟨⟨g995, (e998_6 : a998.eval (.tmp 6) = .pointer (some ⟨g995, 0, none⟩)), (b998_g995 : BlkO own998 997 w998 g995 32 #[.int .i64 x994.1, .int .i64 x994.2])⟩, -⟩ := hf998 [3] rfl
      have hX998 := es_ hX989 hE998
      have b998_Al1 := RdO.evo rfl hE998 b989_Al1
      have b998_g941 := MpO.evo (by decide) hE998 b989_g941
      refine fl_seq (fun Q999 hn999 hp999 => ?_)
      refine rg0_seq 99 own998 [0, 0, 3] [⟨[], [4], [], Fct.val 28 (.map (some g941))⟩, ⟨[], [6], [], Fct.val 29 (.agg #[.int .i64 x994.1, .int .i64 x994.2])⟩, ⟨[0, 1], [], [], Fct.val 30 (.bool ((lkM met967 x994).getD false))⟩] hz998 hd998 (by kernel_rfl) ?_ ?_
      · refine sc (fun _ _ _ _ s _ => px (or_move (s.1.trans e998_4))) ?_
        refine sc (fun _ _ _ _ s hE => px (or_load (l := [.int .i64 x994.1, .int .i64 x994.2]) ta32 (s.1.trans e998_6) (Blk.cellsFrom (be_ hE b998_g995).2 0 rfl) rfl)) ?_
        refine sc (fun _ _ _ f _ hE => px (or_lookupE (kf := vv32) (vf := vv4) (k := x994) (dv := false) ko32 tm57 tzv57 f.1 f.2.1 (MpO.evo (by decide) hE b998_g941) rfl)) ?_
        exact steps_nil
      intro own1000 a1000 w1000 hd1000 hz1000 hk1000 hf1000 hE1000
      have e1000_0 := (hk1000 0 rfl).trans e998_0
      have e1000_3 := (hk1000 3 rfl).trans e998_3
      have e1000_4 := (hk1000 4 rfl).trans e998_4
      have e1000_6 := (hk1000 6 rfl).trans e998_6
      have e1000_22 := (hk1000 22 rfl).trans e998_22
      have e1000_23 := (hk1000 23 rfl).trans e998_23
      have e1000_24 := (hk1000 24 rfl).trans e998_24
      obtain ⟨(e1000_30 : a1000.eval (.tmp 30) = .bool ((lkM met967 x994).getD false)), -⟩ := hf1000 [2] rfl
      have hX1000 := es_ hX998 hE1000
      have b1000_Al1 := RdO.evo rfl hE1000 b998_Al1
      have b1000_g941 := MpO.evo (by decide) hE1000 b998_g941
      have b1000_g995 := be_ hE1000 b998_g995
      refine fl_cond e1000_30 hs (fun c1001 hs => ?_) (fun c1001 hs => ?_)
      · refine fl_goto ?_
        refine hp999 _ _ _ rfl ?_
        refine hp993 _ _ _ rfl ?_
        refine hp992 _ _ _ rfl ?_
        replace hs := hz987 _ hs
        refine hp987 _ _ _ rfl ?_
        refine hp946 _ _ _ rfl ?_
        refine hp944 _ _ _ rfl ?_
        exact (K929 _ _ own1000  hd1000 hz1000 hX1000 hs)
      refine fl_skip ?_
      refine hn999 _ _ ?_
      obtain ⟨D1002, hD1002, hs⟩ := obind hs
      refine rg_plain (n := 99) (rs := [Fct.mapAt 966 g941 vv32 vv4 met967]) (own0 := own1000) (K := [966]) (bs := [0, 0, 3]) (ds := [⟨[], [4], [], Fct.val 31 (.map (some g941))⟩, ⟨[], [6], [], Fct.val 32 (.agg #[.int .i64 x994.1, .int .i64 x994.2])⟩, ⟨[0, 1, 3], [], [966], Fct.mapAt 1003 g941 vv32 vv4 D1002⟩]) (by kernel_rfl) hz1000 hd1000 (by simp only [List.forall_mem_cons]; exact ⟨b1000_g941, fun _ h => nomatch h⟩) ?_ ?_
      · refine sc (fun _ _ _ _ s _ => px (or_move (s.1.trans e1000_4))) ?_
        refine sc (fun _ _ _ _ s hE => px (or_load (l := [.int .i64 x994.1, .int .i64 x994.2]) ta32 (s.1.trans e1000_6) (Blk.cellsFrom (be_ hE b1000_g995).2 0 rfl) rfl)) ?_
        refine sc (fun own a wx hf hsl hE => ?_) ?_
        · obtain ⟨f_31, f_32, b_g941, -⟩ := hf
          exact px (or_mapUpdate (kf := vv32) (vf := vv4) (k := x994) (v := true) (lab := 966) (lab2 := 1003) ko32 tm57 f_31 f_32 rfl b_g941 (osome hD1002).symm (mem_of rfl) (by decide) (fun own' a' w' hb => hb))
        exact steps_nil
      intro own1004 a1004 w1004 hd1004 hz1004 hk1004 hf1004 hE1004
      have e1004_0 := (hk1004 0 rfl).trans e1000_0
      have e1004_3 := (hk1004 3 rfl).trans e1000_3
      have e1004_4 := (hk1004 4 rfl).trans e1000_4
      have e1004_22 := (hk1004 22 rfl).trans e1000_22
      have e1004_23 := (hk1004 23 rfl).trans e1000_23
      have e1004_24 := (hk1004 24 rfl).trans e1000_24
      obtain ⟨(b1004_g941 : MpO own1004 1003 w1004 g941 vv32 vv4 D1002), -⟩ := hf1004 [2] rfl
      have hX1004 := es_ hX1000 hE1004
      have b1004_Al1 := RdO.evo rfl hE1004 b1000_Al1
      refine hn993 _ _ ?_
      refine hn992 _ _ ?_
      refine rg0 99 own1004 (bz 2) [⟨[], [24], [], Fct.val 33 (.int .i64 (ad x968 1))⟩, ⟨[0], [], [], Fct.val 24 (.int .i64 (ad x968 1))⟩] hz1004 hd1004 (by kernel_rfl) ?_ ?_
      · refine sc (fun _ _ _ _ s _ => px (or_add (s.1.trans e1004_24) rfl rfl)) ?_
        refine sc (fun _ _ _ f _ _ => px (or_move f.1)) ?_
        exact steps_nil
      intro own1005 a1005 w1005 hd1005 hz1005 hk1005 hf1005 hE1005
      have e1005_0 := (hk1005 0 rfl).trans e1004_0
      have e1005_3 := (hk1005 3 rfl).trans e1004_3
      have e1005_4 := (hk1005 4 rfl).trans e1004_4
      have e1005_22 := (hk1005 22 rfl).trans e1004_22
      have e1005_23 := (hk1005 23 rfl).trans e1004_23
      obtain ⟨(e1005_24 : a1005.eval (.tmp 24) = .int .i64 (ad x968 1)), -⟩ := hf1005 [1] rfl
      have hX1005 := es_ hX1004 hE1005
      have b1005_Al1 := RdO.evo rfl hE1005 b1004_Al1
      have b1005_g941 := MpO.evo (by decide) hE1005 b1004_g941
      exact hn987 _ _ _ hs ⟨(rl [(1003, 966)] own1005), hd1005, hz1005, e1005_0, e1005_3, e1005_4, e1005_22, e1005_23, e1005_24, (Evo.rl_ hX1005 (fun _ => Nat.le_refl 0) rfl), (RdO.rl_ (mm := [(1003, 966)]) b1005_Al1), (MpO.rl_ (mm := [(1003, 966)]) b1005_g941)⟩
    refine fl_exit ?_
    refine hp990 _ _ _ rfl ?_
    replace hs := hz987 _ hs
    refine hp987 _ _ _ rfl ?_
    refine hx946 _ _ ?_
    refine hn944 _ _ ?_
    refine fl_seq (fun Q1006 hn1006 hp1006 => ?_)
    refine rg0_seq 99 own989 [0, 0] [⟨[], [3], [], Fct.val 34 (.int .i64 (l1.length : Int))⟩, ⟨[], [], [], Fct.val 35 (.int .i64 0)⟩] hz989 hd989 (by kernel_rfl) ?_ ?_
    · refine sc (fun _ _ _ _ s _ => px (or_move (s.1.trans e989_3))) ?_
      refine sc (fun _ _ _ _ _ _ => px (or_move rfl)) ?_
      exact steps_nil
    intro own1007 a1007 w1007 hd1007 hz1007 hk1007 hf1007 hE1007
    have e1007_0 := (hk1007 0 rfl).trans e989_0
    have e1007_3 := (hk1007 3 rfl).trans e989_3
    obtain ⟨(e1007_34 : a1007.eval (.tmp 34) = .int .i64 (l1.length : Int)), (e1007_35 : a1007.eval (.tmp 35) = .int .i64 0), -⟩ := hf1007 [0, 1] rfl
    have hX1007 := es_ hX989 hE1007
    have b1007_Al1 := RdO.evo rfl hE1007 b989_Al1
    refine fl_block (fun Q1008 hn1008 hx1008 hp1008 => ?_)
    refine fl_loop (body := (fun s => ring_Simple_b3 l1 s)) (z := r) (show loopO _ _ = _ from hs) (fun (x1083 : Int) a wx => ∃ (ox : Own), a.defers = [] ∧ a.tmps.size = 99 ∧ a.eval (.tmp 0) = .slice Al1 l1.length cl1 ∧ a.eval (.tmp 3) = .int .i64 (l1.length : Int) ∧ a.eval (.tmp 34) = .int .i64 (l1.length : Int) ∧ a.eval (.tmp 35) = .int .i64 x1083 ∧ Evo [] (fun _ => 0) ox w wx ∧ RdO ox [0] wx R32 Al1 cl1 l1) ?_ ?_
    · exact ⟨own1007, hd1007, hz1007, e1007_0, e1007_3, e1007_34, e1007_35, hX1007, b1007_Al1⟩
    · rintro x1083 zz1162 a1162 w1162 ⟨own1162, hd1163, hz1163, e1163_0, e1163_3, e1163_34, e1163_35, hE1163, b1163_Al1⟩ hs Q1162 hn1162 hp1162 hz1162
      have hs : ring_Simple_b3 l1 x1083 = some zz1162 := hs
      refine rg0_seq 99 own1162 (bz 1) [⟨[], [35, 34], [], Fct.val 36 (.bool (decide (x1083 < (l1.length : Int))))⟩] hz1163 hd1163 (by kernel_rfl) ?_ ?_
      · refine sc (fun _ _ _ _ s _ => px (or_lss (s.1.trans e1163_35) (s.2.1.trans e1163_34) rfl)) ?_
        exact steps_nil
      intro own1164 a1164 w1164 hd1164 hz1164 hk1164 hf1164 hE1164
      have e1164_0 := (hk1164 0 rfl).trans e1163_0
      have e1164_3 := (hk1164 3 rfl).trans e1163_3
      have e1164_34 := (hk1164 34 rfl).trans e1163_34
      have e1164_35 := (hk1164 35 rfl).trans e1163_35
      obtain ⟨(e1164_36 : a1164.eval (.tmp 36) = .bool (decide (x1083 < (l1.length : Int)))), -⟩ := hf1164 [0] rfl
      have hX1164 := es_ hE1163 hE1164
      have b1164_Al1 := RdO.evo rfl hE1164 b1163_Al1
      refine fl_seq (fun Q1165 hn1165 hp1165 => ?_)
      refine fl_cond e1164_36 hs (fun c1166 hs => ?_) (fun c1166 hs => ?_)
      · refine fl_skip ?_
        refine hn1165 _ _ ?_
        refine fl_seq (fun Q1167 hn1167 hp1167 => ?_)
        refine fl_block (fun Q1168 hn1168 hx1168 hp1168 => ?_)
        refine rg0_seq 99 own1164 (bz 2) [⟨[], [35], [], Fct.val 37 (.int .i64 x1083)⟩, ⟨[0], [], [], Fct.val 7 (.int .i64 x1083)⟩] hz1164 hd1164 (by kernel_rfl) ?_ ?_
        · refine sc (fun _ _ _ _ s _ => px (or_move (s.1.trans e1164_35))) ?_
          refine sc (fun _ _ _ f _ _ => px (or_assign f.1)) ?_
          exact steps_nil
        intro own1169 a1169 w1169 hd1169 hz1169 hk1169 hf1169 hE1169
        have e1169_0 := (hk1169 0 rfl).trans e1164_0
        have e1169_3 := (hk1169 3 rfl).trans e1164_3
        have e1169_34 := (hk1169 34 rfl).trans e1164_34
        have e1169_35 := (hk1169 35 rfl).trans e1164_35
        obtain ⟨(e1169_7 : a1169.eval (.tmp 7) = .int .i64 x1083), -⟩ := hf1169 [1] rfl
        have hX1169 := es_ hX1164 hE1169
        have b1169_Al1 := RdO.evo rfl hE1169 b1164_Al1
        refine rg0_seq 99 own1169 (bz 3) [⟨[], [7], [], Fct.val 38 (.int .i64 x1083)⟩, ⟨[0], [], [], Fct.val 39 (.int .i64 (ad x1083 1))⟩, ⟨[1], [], [], Fct.val 8 (.int .i64 (ad x1083 1))⟩] hz1169 hd1169 (by kernel_rfl) ?_ ?_
        · refine sc (fun _ _ _ _ s _ => px (or_move (s.1.trans e1169_7))) ?_
          refine sc (fun _ _ _ f _ _ => px (or_add f.1 rfl rfl)) ?_
          refine sc (fun _ _ _ f _ _ => px (or_assign f.1)) ?_
          exact steps_nil
        intro own1170 a1170 w1170 hd1170 hz1170 hk1170 hf1170 hE1170
        have e1170_0 := (hk1170 0 rfl).trans e1169_0
        have e1170_3 := (hk1170 3 rfl).trans e1169_3
        have e1170_7 := (hk1170 7 rfl).trans e1169_7
        have e1170_34 := (hk1170 34 rfl).trans e1169_34
        have e1170_35 := (hk1170 35 rfl).trans e1169_35
        obtain ⟨(e1170_8 : a1170.eval (.tmp 8) = .int .i64 (ad x1083 1)), -⟩ := hf1170 [2] rfl
        have hX1170 := es_ hX1169 hE1170
        have b1170_Al1 := RdO.evo rfl hE1170 b1169_Al1
        refine fl_block (fun Q1171 hn1171 hx1171 hp1171 => ?_)
        refine fl_loop (body := (fun s => ring_Simple_b4 l1 x1083 s)) (z := zz1162) (show loopO _ _ = _ from hs) (fun (k1194 : Int) a wx => ∃ (ox : Own), a.defers = [] ∧ a.tmps.size = 99 ∧ a.eval (.tmp 0) = .slice Al1 l1.length cl1 ∧ a.eval (.tmp 3) = .int .i64 (l1.length : Int) ∧ a.eval (.tmp 7) = .int .i64 x1083 ∧ a.eval (.tmp 8) = .int .i64 k1194 ∧ a.eval (.tmp 34) = .int .i64 (l1.length : Int) ∧ a.eval (.tmp 35) = .int .i64 x1083 ∧ Evo [] (fun _ => 0) ox w wx ∧ RdO ox [0] wx R32 Al1 cl1 l1) ?_ ?_
        · exact ⟨own1170, hd1170, hz1170, e1170_0, e1170_3, e1170_7, e1170_8, e1170_34, e1170_35, hX1170, b1170_Al1⟩
        · rintro k1194 zz1217 a1217 w1217 ⟨own1217, hd1218, hz1218, e1218_0, e1218_3, e1218_7, e1218_8, e1218_34, e1218_35, hE1218, b1218_Al1⟩ hs Q1217 hn1217 hp1217 hz1217
          have hs : ring_Simple_b4 l1 x1083 k1194 = some zz1217 := hs
          refine fl_seq (fun Q1219 hn1219 hp1219 => ?_)
          refine rg0_seq 99 own1217 [0, 0, 3] [⟨[], [8], [], Fct.val 40 (.int .i64 k1194)⟩, ⟨[], [3], [], Fct.val 41 (.int .i64 (l1.length : Int))⟩, ⟨[0, 1], [], [], Fct.val 42 (.bool (decide (k1194 < (l1.length : Int))))⟩] hz1218 hd1218 (by kernel_rfl) ?_ ?_
          · refine sc (fun _ _ _ _ s _ => px (or_move (s.1.trans e1218_8))) ?_
            refine sc (fun _ _ _ _ s _ => px (or_move (s.1.trans e1218_3))) ?_
            refine sc (fun _ _ _ f _ _ => px (or_lss f.1 f.2.1 rfl)) ?_
            exact steps_nil
          intro own1220 a1220 w1220 hd1220 hz1220 hk1220 hf1220 hE1220
          have e1220_0 := (hk1220 0 rfl).trans e1218_0
          have e1220_3 := (hk1220 3 rfl).trans e1218_3
          have e1220_7 := (hk1220 7 rfl).trans e1218_7
          have e1220_8 := (hk1220 8 rfl).trans e1218_8
          have e1220_34 := (hk1220 34 rfl).trans e1218_34
          have e1220_35 := (hk1220 35 rfl).trans e1218_35
          obtain ⟨(e1220_42 : a1220.eval (.tmp 42) = .bool (decide (k1194 < (l1.length : Int)))), -⟩ := hf1220 [2] rfl
          have hX1220 := es_ hE1218 hE1220
          have b1220_Al1 := RdO.evo rfl hE1220 b1218_Al1
          refine fl_cond e1220_42 hs (fun c1221 hs => ?_) (fun c1221 hs => ?_)
          · refine fl_skip ?_
            refine hn1219 _ _ ?_
            refine fl_seq (fun Q1222 hn1222 hp1222 => ?_)
            refine fl_block (fun Q1223 hn1223 hx1223 hp1223 => ?_)
            obtain ⟨x1224, hx1224, hs⟩ := obind hs
            obtain ⟨x1225, hx1225, hs⟩ := obind hs
            obtain ⟨x1226, hx1226, hs⟩ := obind hs
            obtain ⟨x1227, hx1227, hs⟩ := obind hs
            obtain ⟨x1228, hx1228, hs⟩ := obind hs
            obtain ⟨x1229, hx1229, hs⟩ := obind hs
            obtain ⟨r1230, hr1230, hs⟩ := obind hs
            refine rg_draw_seq g_mixed (n := 99) (rs := []) (own0 := own1220) (K := []) (bs := [0, 0, 3, 7, 0, 0, 32, 0, 224, 496, 1008, 0, 0, 6144, 14336, 0, 0, 65536, 0, 458752, 1015808, 2064384, 4194303, 8388607, 16777215, 16777215, 33554431, 134217727]) (ds := [⟨[], [0], [], Fct.val 46 (.slice Al1 l1.length cl1)⟩, ⟨[], [7], [], Fct.val 47 (.int .i64 x1083)⟩, ⟨[0, 1], [], [], Fct.val 48 (.pointer (some ((adr Al1).add ((x1083 : Int).toNat * R32.s))))⟩, ⟨[2], [], [], Fct.val 49 (.agg #[.int .i64 x1224.1, .int .i64 x1224.2])⟩, ⟨[], [0], [], Fct.val 50 (.slice Al1 l1.length cl1)⟩, ⟨[], [7], [], Fct.val 51 (.int .i64 x1083)⟩, ⟨[5], [], [], Fct.val 52 (.int .i64 (ad x1083 1))⟩, ⟨[], [3], [], Fct.val 53 (.int .i64 (l1.length : Int))⟩, ⟨[6, 7], [], [], Fct.val 54 (.int .i64 x1225)⟩, ⟨[4, 8], [], [], Fct.val 55 (.pointer (some ((adr Al1).add ((x1225 : Int).toNat * R32.s))))⟩, ⟨[9], [], [], Fct.val 56 (.agg #[.int .i64 x1226.1, .int .i64 x1226.2])⟩, ⟨[], [0], [], Fct.val 57 (.slice Al1 l1.length cl1)⟩, ⟨[], [8], [], Fct.val 58 (.int .i64 k1194)⟩, ⟨[11, 12], [], [], Fct.val 59 (.pointer (some ((adr Al1).add ((k1194 : Int).toNat * R32.s))))⟩, ⟨[13], [], [], Fct.val 60 (.agg #[.int .i64 x1227.1, .int .i64 x1227.2])⟩, ⟨[], [0], [], Fct.val 61 (.slice Al1 l1.length cl1)⟩, ⟨[], [8], [], Fct.val 62 (.int .i64 k1194)⟩, ⟨[16], [], [], Fct.val 63 (.int .i64 (ad k1194 1))⟩, ⟨[], [3], [], Fct.val 64 (.int .i64 (l1.length : Int))⟩, ⟨[17, 18], [], [], Fct.val 65 (.int .i64 x1228)⟩, ⟨[15, 19], [], [], Fct.val 66 (.pointer (some ((adr Al1).add ((x1228 : Int).toNat * R32.s))))⟩, ⟨[20], [], [], Fct.val 67 (.agg #[.int .i64 x1229.1, .int .i64 x1229.2])⟩, ⟨[3, 10, 14, 21], [], [], Fct.val 68 (.tuple #[.int .i64 r1230.1, .int .i64 r1230.2])⟩, ⟨[22], [], [], Fct.val 45 (.tuple #[.int .i64 r1230.1, .int .i64 r1230.2])⟩, ⟨[23], [], [], Fct.val 69 (.int .i64 r1230.1)⟩, ⟨[23], [], [], Fct.val 70 (.int .i64 r1230.2)⟩, ⟨[24], [], [], Fct.val 9 (.int .i64 r1230.1)⟩, ⟨[25], [], [], Fct.val 10 (.int .i64 r1230.2)⟩]) (by kernel_rfl) hz1220 hd1220 nm_ ?_ ?_
            · refine sc (fun _ _ _ _ s _ => px (or_move (s.1.trans e1220_0))) ?_
              refine sc (fun _ _ _ _ s _ => px (or_move (s.1.trans e1220_7))) ?_
              refine sc (fun _ _ _ f _ _ => px (or_index (R := R32) (l := l1) tl22 f.1 f.2.1 (RdO.some_ b1220_Al1 hx1224) hx1224)) ?_
              refine sc (fun _ _ _ f _ hE => px (or_load (l := E32.f x1224) ta32 f.1 (RdO.cells (F := E32) (RdO.evo rfl hE b1220_Al1) hx1224) rfl)) ?_
              refine sc (fun _ _ _ _ s _ => px (or_move (s.1.trans e1220_0))) ?_
              refine sc (fun _ _ _ _ s _ => px (or_move (s.1.trans e1220_7))) ?_
              refine sc (fun _ _ _ f _ _ => px (or_add f.1 rfl rfl)) ?_
              refine sc (fun _ _ _ _ s _ => px (or_move (s.1.trans e1220_3))) ?_
              refine sc (fun _ _ _ f _ _ => px (or_rem f.1 f.2.1 hx1225)) ?_
              refine sc (fun _ _ _ f _ _ => px (or_index (R := R32) (l := l1) tl22 f.1 f.2.1 (RdO.some_ b1220_Al1 hx1226) hx1226)) ?_
              refine sc (fun _ _ _ f _ hE => px (or_load (l := E32.f x1226) ta32 f.1 (RdO.cells (F := E32) (RdO.evo rfl hE b1220_Al1) hx1226) rfl)) ?_
              refine sc (fun _ _ _ _ s _ => px (or_move (s.1.trans e1220_0))) ?_
              refine sc (fun _ _ _ _ s _ => px (or_move (s.1.trans e1220_8))) ?_
              refine sc (fun _ _ _ f _ _ => px (or_index (R := R32) (l := l1) tl22 f.1 f.2.1 (RdO.some_ b1220_Al1 hx1227) hx1227)) ?_
              refine sc (fun _ _ _ f _ hE => px (or_load (l := E32.f x1227) ta32 f.1 (RdO.cells (F := E32) (RdO.evo rfl hE b1220_Al1) hx1227) rfl)) ?_
              refine sc (fun _ _ _ _ s _ => px (or_move (s.1.trans e1220_0))) ?_
              refine sc (fun _ _ _ _ s _ => px (or_move (s.1.trans e1220_8))) ?_
              refine sc (fun _ _ _ f _ _ => px (or_add f.1 rfl rfl)) ?_
              refine sc (fun _ _ _ _ s _ => px (or_move (s.1.trans e1220_3))) ?_
              refine sc (fun _ _ _ f _ _ => px (or_rem f.1 f.2.1 hx1228)) ?_
              refine sc (fun _ _ _ f _ _ => px (or_index (R := R32) (l := l1) tl22 f.1 f.2.1 (RdO.some_ b1220_Al1 hx1229) hx1229)) ?_
              refine sc (fun _ _ _ f _ hE => px (or_load (l := E32.f x1229) ta32 f.1 (RdO.cells (F := E32) (RdO.evo rfl hE b1220_Al1) hx1229) rfl)) ?_
              refine sc (fun _ _ _ f _ _ => px (or_call cf36 (args4 f.1 f.2.1 f.2.2.1 f.2.2.2.1) (seg_Class_w _ x1224 x1226 x1227 x1229  r1230 hr1230) post_val)) ?_
              refine sc (fun _ _ _ f _ _ => px (or_move f.1)) ?_
              refine sc (fun _ _ _ f _ _ => px (or_k [(45, .tuple #[.int .i64 r1230.1, .int .i64 r1230.2])] rfl rfl ⟨f.1, trivial⟩ (by kernel_rfl))) ?_
              refine sc (fun _ _ _ f _ _ => px (or_k [(45, .tuple #[.int .i64 r1230.1, .int .i64 r1230.2])] rfl rfl ⟨f.1, trivial⟩ (by kernel_rfl))) ?_
              refine sc (fun _ _ _ f _ _ => px (or_assign f.1)) ?_
              refine sc (fun _ _ _ f _ _ => px (or_assign f.1)) ?_
              exact steps_nil
            intro own1231 a1231 w1231 hd1231 hz1231 hk1231 hf1231 hE1231
            have e1231_0 := (hk1231 0 rfl).trans e1220_0
            have e1231_3 := (hk1231 3 rfl).trans e1220_3
            have e1231_7 := (hk1231 7 rfl).trans e1220_7
            have e1231_8 := (hk1231 8 rfl).trans e1220_8
            have e1231_34 := (hk1231 34 rfl).trans e1220_34
            have e1231_35 := (hk1231 35 rfl).trans e1220_35
            obtain ⟨(e1231_9 : a1231.eval (.tmp 9) = .int .i64 r1230.1), -⟩ := hf1231 [26] rfl
            have hX1231 := es_ hX1220 hE1231
            have b1231_Al1 := RdO.evo rfl hE1231 b1220_Al1
            obtain ⟨x1232, hx1232, hs⟩ := obind hs
            obtain ⟨x1233, hx1233, hs⟩ := obind hs
            refine rg0_seq 99 own1231 [0, 0, 2, 7, 15, 31, 63, 127, 255, 255, 767, 2047, 4095, 8191, 16383] [⟨[], [8], [], Fct.val 71 (.int .i64 k1194)⟩, ⟨[], [7], [], Fct.val 72 (.int .i64 x1083)⟩, ⟨[1], [], [], Fct.val 73 (.int .i64 (ad x1083 1))⟩, ⟨[0, 2], [], [], Fct.val 74 (.bool (decide (k1194 = (ad x1083 1))))⟩, ⟨[3], [], [], Fct.val 75 (.bool (decide (k1194 = (ad x1083 1))))⟩, ⟨[4], [7], [], Fct.cond (!(decide (k1194 = (ad x1083 1)))) (some 76) (Fct.val 76 (.int .i64 x1083))⟩, ⟨[4, 5], [], [], Fct.cond (!(decide (k1194 = (ad x1083 1)))) (some 77) (Fct.val 77 (.bool (decide (x1083 = 0))))⟩, ⟨[4, 6], [], [], Fct.cond (!(decide (k1194 = (ad x1083 1)))) (some 78) (Fct.val 78 (.bool (decide (x1083 = 0))))⟩, ⟨[7], [8], [], Fct.cond ((!(decide (k1194 = (ad x1083 1)))) && (decide (x1083 = 0))) (some 79) (Fct.val 79 (.int .i64 k1194))⟩, ⟨[7], [3], [], Fct.cond ((!(decide (k1194 = (ad x1083 1)))) && (decide (x1083 = 0))) (some 80) (Fct.val 80 (.int .i64 (l1.length : Int)))⟩, ⟨[7, 9], [], [], Fct.cond ((!(decide (k1194 = (ad x1083 1)))) && (decide (x1083 = 0))) (some 81) (Fct.val 81 (.int .i64 (sb (l1.length : Int) 1)))⟩, ⟨[7, 8, 10], [], [], Fct.cond ((!(decide (k1194 = (ad x1083 1)))) && (decide (x1083 = 0))) (some 82) (Fct.val 82 (.bool (decide (k1194 = (sb (l1.length : Int) 1)))))⟩, ⟨[4, 7, 11], [], [], Fct.cond (!(decide (k1194 = (ad x1083 1)))) (some 83) (Fct.val 83 (.bool x1232))⟩, ⟨[4, 12], [], [], Fct.val 84 (.bool x1233)⟩, ⟨[13], [], [], Fct.val 11 (.bool x1233)⟩] hz1231 hd1231 (by kernel_rfl) ?_ ?_
            · refine sc (fun _ _ _ _ s _ => px (or_move (s.1.trans e1231_8))) ?_
              refine sc (fun _ _ _ _ s _ => px (or_move (s.1.trans e1231_7))) ?_
              refine sc (fun _ _ _ f _ _ => px (or_add f.1 rfl rfl)) ?_
              refine sc (fun _ _ _ f _ _ => px (or_eql f.1 f.2.1 rfl)) ?_
              refine sc (fun _ _ _ f _ _ => px (or_move f.1)) ?_
              refine sc (fun _ _ _ f s _ => sg_f rfl rfl rfl f.1 (fun hg => or_move (s.1.trans e1231_7))) ?_
              refine sc (fun _ _ _ f _ _ => sg_f rfl rfl rfl f.1 (fun hg => or_eql (f.2.1.1 hg) rfl rfl)) ?_
              refine sc (fun _ _ _ f _ _ => sg_f rfl rfl rfl f.1 (fun hg => or_move (f.2.1.1 hg))) ?_
              refine sc (fun _ _ _ f s _ => sg_tc rfl rfl rfl f.1 (fun hg => or_move (s.1.trans e1231_8))) ?_
              refine sc (fun _ _ _ f s _ => sg_tc rfl rfl rfl f.1 (fun hg => or_move (s.1.trans e1231_3))) ?_
              refine sc (fun _ _ _ f _ _ => sg_tc rfl rfl rfl f.1 (fun hg => or_sub (f.2.1.1 hg) rfl rfl)) ?_
              refine sc (fun _ _ _ f _ _ => sg_tc rfl rfl rfl f.1 (fun hg => or_eql (f.2.1.1 hg) (f.2.2.1.1 hg) rfl)) ?_
              refine sc (fun _ _ _ f _ _ => sg_f rfl rfl rfl f.1 (fun hg => or_and (f.2.1.1 hg) (fun hx => f.2.2.1.1 (gI hg hx)) rfl (osome hx1232).symm)) ?_
              refine sc (fun _ _ _ f _ _ => px (or_or f.1 rfl (fun hx => f.2.1.1 hx) (osome hx1233).symm)) ?_
              refine sc (fun _ _ _ f _ _ => px (or_assign f.1)) ?_
              exact steps_nil
            intro own1234 a1234 w1234 hd1234 hz1234 hk1234 hf1234 hE1234
            have e1234_0 := (hk1234 0 rfl).trans e1231_0
            have e1234_3 := (hk1234 3 rfl).trans e1231_3
            have e1234_7 := (hk1234 7 rfl).trans e1231_7
            have e1234_8 := (hk1234 8 rfl).trans e1231_8
            have e1234_9 := (hk1234 9 rfl).trans e1231_9
            have e1234_34 := (hk1234 34 rfl).trans e1231_34
            have e1234_35 := (hk1234 35 rfl).trans e1231_35
            obtain ⟨(e1234_11 : a1234.eval (.tmp 11) = .bool x1233), -⟩ := hf1234 [14] rfl
            have hX1234 := es_ hX1231 hE1234
            have b1234_Al1 := RdO.evo rfl hE1234 b1231_Al1
            obtain ⟨x1235, hx1235, hs⟩ := obind hs
            obtain ⟨x1236, hx1236, hs⟩ := obind hs
            refine rg0_seq 99 own1234 (bz 13) [⟨[], [11], [], Fct.val 85 (.bool x1233)⟩, ⟨[0], [], [], Fct.val 86 (.bool x1233)⟩, ⟨[1], [9], [], Fct.cond x1233 (some 87) (Fct.val 87 (.int .i64 r1230.1))⟩, ⟨[1, 2], [], [], Fct.cond x1233 (some 88) (Fct.val 88 (.bool (!decide (r1230.1 = 1))))⟩, ⟨[1, 3], [], [], Fct.val 89 (.bool (x1233 && (!decide (r1230.1 = 1))))⟩, ⟨[4], [], [], Fct.val 90 (.bool (x1233 && (!decide (r1230.1 = 1))))⟩, ⟨[5], [11], [], Fct.cond (!(x1233 && (!decide (r1230.1 = 1)))) (some 91) (Fct.val 91 (.bool x1233))⟩, ⟨[5, 6], [], [], Fct.cond (!(x1233 && (!decide (r1230.1 = 1)))) (some 92) (Fct.val 92 (.bool (!x1233)))⟩, ⟨[5, 7], [], [], Fct.cond (!(x1233 && (!decide (r1230.1 = 1)))) (some 93) (Fct.val 93 (.bool (!x1233)))⟩, ⟨[8], [9], [], Fct.cond ((!(x1233 && (!decide (r1230.1 = 1)))) && (!x1233)) (some 94) (Fct.val 94 (.int .i64 r1230.1))⟩, ⟨[8, 9], [], [], Fct.cond ((!(x1233 && (!decide (r1230.1 = 1)))) && (!x1233)) (some 95) (Fct.val 95 (.bool (!decide (r1230.1 = 0))))⟩, ⟨[5, 8, 10], [], [], Fct.cond (!(x1233 && (!decide (r1230.1 = 1)))) (some 96) (Fct.val 96 (.bool x1235))⟩, ⟨[5, 11], [], [], Fct.val 97 (.bool x1236)⟩] hz1234 hd1234 (by kernel_rfl) ?_ ?_
            · refine sc (fun _ _ _ _ s _ => px (or_move (s.1.trans e1234_11))) ?_
              refine sc (fun _ _ _ f _ _ => px (or_move f.1)) ?_
              refine sc (fun _ _ _ f s _ => sg_t rfl rfl rfl f.1 (fun hg => or_move (s.1.trans e1234_9))) ?_
              refine sc (fun _ _ _ f _ _ => sg_t rfl rfl rfl f.1 (fun hg => or_neq (f.2.1.1 hg) rfl rfl)) ?_
              refine sc (fun _ _ _ f _ _ => px (or_and f.1 (fun hx => f.2.1.1 hx) rfl rfl)) ?_
              refine sc (fun _ _ _ f _ _ => px (or_move f.1)) ?_
              refine sc (fun _ _ _ f s _ => sg_f rfl rfl rfl f.1 (fun hg => or_move (s.1.trans e1234_11))) ?_
              refine sc (fun _ _ _ f _ _ => sg_f rfl rfl rfl f.1 (fun hg => or_not (f.2.1.1 hg) rfl)) ?_
              refine sc (fun _ _ _ f _ _ => sg_f rfl rfl rfl f.1 (fun hg => or_move (f.2.1.1 hg))) ?_
              refine sc (fun _ _ _ f s _ => sg_tc rfl rfl rfl f.1 (fun hg => or_move (s.1.trans e1234_9))) ?_
              refine sc (fun _ _ _ f _ _ => sg_tc rfl rfl rfl f.1 (fun hg => or_neq (f.2.1.1 hg) rfl rfl)) ?_
              refine sc (fun _ _ _ f _ _ => sg_f rfl rfl rfl f.1 (fun hg => or_and (f.2.1.1 hg) (fun hx => f.2.2.1.1 (gI hg hx)) rfl (osome hx1235).symm)) ?_
              refine sc (fun _ _ _ f _ _ => px (or_or f.1 rfl (fun hx => f.2.1.1 hx) (osome hx1236).symm)) ?_
              exact steps_nil
            intro own1237 a1237 w1237 hd1237 hz1237 hk1237 hf1237 hE1237
            have e1237_0 := (hk1237 0 rfl).trans e1234_0
            have e1237_3 := (hk1237 3 rfl).trans e1234_3
            have e1237_7 := (hk1237 7 rfl).trans e1234_7
            have e1237_8 := (hk1237 8 rfl).trans e1234_8
            have e1237_34 := (hk1237 34 rfl).trans e1234_34
            have e1237_35 := (hk1237 35 rfl).trans e1234_35
            obtain ⟨(e1237_97 : a1237.eval (.tmp 97) = .bool x1236), -⟩ := hf1237 [12] rfl
            have hX1237 := es_ hX1234 hE1237
            have b1237_Al1 := RdO.evo rfl hE1237 b1234_Al1
            refine fl_cond e1237_97 hs (fun c1238 hs => ?_) (fun c1238 hs => ?_)
            · refine fl_goto ?_
              refine hp1223 _ _ _ rfl ?_
              refine hp1222 _ _ _ rfl ?_
              replace hs := hz1217 _ hs
              refine hp1217 _ _ _ rfl ?_
              refine hp1171 _ _ _ rfl ?_
              refine hp1168 _ _ _ rfl ?_
              refine hp1167 _ _ _ rfl ?_
              replace hs := hz1162 _ hs
              refine hp1162 _ _ _ rfl ?_
              refine hp1008 _ _ _ rfl ?_
              refine hp1006 _ _ _ rfl ?_
              exact (K929 _ _ own1237  hd1237 hz1237 hX1237 hs)
            refine fl_skip ?_
            refine hn1223 _ _ ?_
            refine hn1222 _ _ ?_
            refine rg0 99 own1237 (bz 3) [⟨[], [8], [], Fct.val 43 (.int .i64 k1194)⟩, ⟨[0], [], [], Fct.val 44 (.int .i64 (ad k1194 1))⟩, ⟨[1], [], [], Fct.val 8 (.int .i64 (ad k1194 1))⟩] hz1237 hd1237 (by kernel_rfl) ?_ ?_
            · refine sc (fun _ _ _ _ s _ => px (or_move (s.1.trans e1237_8))) ?_
              refine sc (fun _ _ _ f _ _ => px (or_add f.1 rfl rfl)) ?_
              refine sc (fun _ _ _ f _ _ => px (or_assign f.1)) ?_
              exact steps_nil
            intro own1239 a1239 w1239 hd1239 hz1239 hk1239 hf1239 hE1239
            have e1239_0 := (hk1239 0 rfl).trans e1237_0
            have e1239_3 := (hk1239 3 rfl).trans e1237_3
            have e1239_7 := (hk1239 7 rfl).trans e1237_7
            have e1239_34 := (hk1239 34 rfl).trans e1237_34
            have e1239_35 := (hk1239 35 rfl).trans e1237_35
            obtain ⟨(e1239_8 : a1239.eval (.tmp 8) = .int .i64 (ad k1194 1)), -⟩ := hf1239 [2] rfl
            have hX1239 := es_ hX1237 hE1239
            have b1239_Al1 := RdO.evo rfl hE1239 b1237_Al1
            exact hn1217 _ _ _ hs ⟨own1239, hd1239, hz1239, e1239_0, e1239_3, e1239_7, e1239_8, e1239_34, e1239_35, hX1239, b1239_Al1⟩
          refine fl_exit ?_
          refine hp1219 _ _ _ rfl ?_
          replace hs := hz1217 _ hs
          refine hp1217 _ _ _ rfl ?_
          refine hx1171 _ _ ?_
          refine hn1168 _ _ ?_
          refine hn1167 _ _ ?_
          refine rg0 99 own1220 (bz 2) [⟨[], [35], [], Fct.val 98 (.int .i64 (ad x1083 1))⟩, ⟨[0], [], [], Fct.val 35 (.int .i64 (ad x1083 1))⟩] hz1220 hd1220 (by kernel_rfl) ?_ ?_
          · refine sc (fun _ _ _ _ s _ => px (or_add (s.1.trans e1220_35) rfl rfl)) ?_
            refine sc (fun _ _ _ f _ _ => px (or_move f.1)) ?_
            exact steps_nil
          intro own1240 a1240 w1240 hd1240 hz1240 hk1240 hf1240 hE1240
          have e1240_0 := (hk1240 0 rfl).trans e1220_0
          have e1240_3 := (hk1240 3 rfl).trans e1220_3
          have e1240_34 := (hk1240 34 rfl).trans e1220_34
          obtain ⟨(e1240_35 : a1240.eval (.tmp 35) = .int .i64 (ad x1083 1)), -⟩ := hf1240 [1] rfl
          have hX1240 := es_ hX1220 hE1240
          have b1240_Al1 := RdO.evo rfl hE1240 b1220_Al1
          exact hn1162 _ _ _ hs ⟨own1240, hd1240, hz1240, e1240_0, e1240_3, e1240_34, e1240_35, hX1240, b1240_Al1⟩
      refine fl_exit ?_
      refine hp1165 _ _ _ rfl ?_
      replace hs := hz1162 _ hs
      refine hp1162 _ _ _ rfl ?_
      refine hx1008 _ _ ?_
      refine hn1006 _ _ ?_
      refine fl_seq (fun Q1241 hn1241 hp1241 => ?_)
      refine rg0_seq 99 own1164 (bz 1) [⟨[], [], [], Fct.val 2 (.bool true)⟩] hz1164 hd1164 (by kernel_rfl) ?_ ?_
      · refine sc (fun _ _ _ _ _ _ => px (or_assign rfl)) ?_
        exact steps_nil
      intro own1242 a1242 w1242 hd1242 hz1242 hk1242 hf1242 hE1242
      obtain ⟨(e1242_2 : a1242.eval (.tmp 2) = .bool true), -⟩ := hf1242 [0] rfl
      have hX1242 := es_ hX1164 hE1242
      refine fl_ret ?_
      refine hp1241 _ _ _ rfl ?_
      refine hp625.leaves _ _ _ rfl ?_
      obtain rfl := osome hs
      exact hret _ _ _ _ (.inl rfl) hd1242 (results1_ rfl (RVal.tmp_ e1242_2)) ⟨own1242, rfl, hX1242⟩
end Go.Proofs.Ythkmkmkcnljmaaa
