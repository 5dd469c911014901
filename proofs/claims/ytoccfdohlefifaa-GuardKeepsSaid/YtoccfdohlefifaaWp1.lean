import Derived.Test.YtoccfdohlefifaaBase
import Derived.Test.YtoccfdohlefifaaTy
import Derived.Test.YtoccfdohlefifaaSp1
namespace Go.Proofs.Ytoccfdohlefifaa
open Go.RowKit
set_option linter.unusedVariables false
set_option maxRecDepth 10000
theorem exact_within_w (w : World) (n1 : Int) (least2 : Int) (greatest3 : Int) (r : Bool) (hs : exact_within n1 least2 greatest3 = some r) :
    Calls Try.prog 52 #[.int .i64 n1, .int .i64 least2, .int .i64 greatest3] w fun e w' => ∃ own' : Own, e = .returned (.bool r) ∧ Evo [] (fun _ => 0) own' w w' := by
  refine fl_enter (n := 15) rfl rfl rfl (Nat.le_of_ble_eq_true rfl) ?_
  intro a0 Q hd0 hz0 harg hret
  have ha0 := harg 0 _ rfl
  have ha1 := harg 1 _ rfl
  have ha2 := harg 2 _ rfl
  clear harg
  have hE0 : Evo [] (fun _ => 0) (fun _ => 0) w w := Evo.refl _ _ _
  refine rg0_seq 15 (fun _ => 0) (bz 1) [⟨[], [], [], Fct.val 6 (.bool false)⟩] hz0 hd0 (by kernel_rfl) ?_ ?_
  · refine sc (fun _ _ _ _ _ _ => px (or_assign rfl)) ?_
    exact steps_nil
  intro own14 a14 w14 hd14 hz14 hk14 hf14 hE14
  have e14_0 := (hk14 0 rfl).trans ha0
  have e14_1 := (hk14 1 rfl).trans ha1
  have e14_2 := (hk14 2 rfl).trans ha2
  have hX14 := es_ hE0 hE14
  obtain ⟨x15, hx15, hs⟩ := obind hs
  refine rg0_seq 15 own14 [0, 0, 3, 7, 15, 15, 63, 127, 255] [⟨[], [1], [], Fct.val 7 (.int .i64 least2)⟩,     ⟨[], [0], [], Fct.val 8 (.int .i64 n1)⟩,     ⟨[0, 1], [], [], Fct.val 9 (.bool (decide (least2 ≤ n1)))⟩,     ⟨[2], [], [], Fct.val 10 (.bool (decide (least2 ≤ n1)))⟩,     ⟨[3], [0], [], Fct.cond (decide (least2 ≤ n1)) (some 11) (Fct.val 11 (.int .i64 n1))⟩,     ⟨[3], [2], [], Fct.cond (decide (least2 ≤ n1)) (some 12) (Fct.val 12 (.int .i64 greatest3))⟩,     ⟨[3, 4, 5], [], [], Fct.cond (decide (least2 ≤ n1)) (some 13) (Fct.val 13 (.bool (decide (n1 ≤ greatest3))))⟩,     ⟨[3, 6], [], [], Fct.val 14 (.bool x15)⟩,     ⟨[7], [], [], Fct.val 6 (.bool x15)⟩] hz14 hd14 (by kernel_rfl) ?_ ?_
  · refine sc (fun _ _ _ _ s _ => px (or_move (s.1.trans e14_1))) ?_
    refine sc (fun _ _ _ _ s _ => px (or_move (s.1.trans e14_0))) ?_
    refine sc (fun _ _ _ f _ _ => px (or_leq f.1 f.2.1 rfl)) ?_
    refine sc (fun _ _ _ f _ _ => px (or_move f.1)) ?_
    refine sc (fun _ _ _ f s _ => sg_t rfl rfl rfl f.1 (fun hg => or_move (s.1.trans e14_0))) ?_
    refine sc (fun _ _ _ f s _ => sg_t rfl rfl rfl f.1 (fun hg => or_move (s.1.trans e14_2))) ?_
    refine sc (fun _ _ _ f _ _ => sg_t rfl rfl rfl f.1 (fun hg => or_leq (f.2.1.1 hg) (f.2.2.1.1 hg) rfl)) ?_
    refine sc (fun _ _ _ f _ _ => px (or_and f.1 (fun hx => f.2.1.1 hx) rfl (osome hx15).symm)) ?_
    refine sc (fun _ _ _ f _ _ => px (or_assign f.1)) ?_
    exact steps_nil
  intro own16 a16 w16 hd16 hz16 hk16 hf16 hE16
  obtain ⟨(e16_6 : a16.eval (.tmp 6) = .bool x15), -⟩ := hf16 [8] rfl
  have hX16 := es_ hX14 hE16
  refine fl_ret ?_
  obtain rfl := (osome hs).symm
  exact hret _ _ _ _ (.inl rfl) hd16 (results1_ rfl (RVal.tmp_ e16_6)) ⟨own16, rfl, hX16⟩
theorem exact_Right_w (w : World) (l1 : List (Int × Int)) (Al1 : Option Addr) (cl1 : Nat) (hl1 : RdO (fun _ => 0) [0] w R25 Al1 cl1 l1) (r : Bool) (hs : exact_Right l1 = some r) :
    Calls Try.prog 32 #[.slice Al1 l1.length cl1] w fun e w' => ∃ own' : Own, e = .returned (.bool r) ∧ Evo [] (fun _ => 0) own' w w' := by
  refine fl_enter (n := 22) rfl rfl rfl (Nat.le_of_ble_eq_true rfl) ?_
  intro a0 Q hd0 hz0 harg hret
  have ha0 := harg 0 _ rfl
  clear harg
  have hE0 : Evo [] (fun _ => 0) (fun _ => 0) w w := Evo.refl _ _ _
  refine rg0_seq 22 (fun _ => 0) (bz 1) [⟨[], [], [], Fct.val 2 (.bool false)⟩] hz0 hd0 (by kernel_rfl) ?_ ?_
  · refine sc (fun _ _ _ _ _ _ => px (or_assign rfl)) ?_
    exact steps_nil
  intro own69 a69 w69 hd69 hz69 hk69 hf69 hE69
  have e69_0 := (hk69 0 rfl).trans ha0
  have hX69 := es_ hE0 hE69
  have b69_Al1 := RdO.evo rfl hE69 hl1
  refine fl_seq (fun Q70 hn70 hp70 => ?_)
  refine rg0_seq 22 own69 [0, 1, 0] [⟨[], [0], [], Fct.val 5 (.slice Al1 l1.length cl1)⟩,     ⟨[0], [], [], Fct.val 6 (.int .i64 (l1.length : Int))⟩,     ⟨[], [], [], Fct.val 7 (.int .i64 0)⟩] hz69 hd69 (by kernel_rfl) ?_ ?_
  · refine sc (fun _ _ _ _ s _ => px (or_move (s.1.trans e69_0))) ?_
    refine sc (fun _ _ _ f _ _ => px (or_len tu55 f.1 rfl)) ?_
    refine sc (fun _ _ _ _ _ _ => px (or_move rfl)) ?_
    exact steps_nil
  intro own71 a71 w71 hd71 hz71 hk71 hf71 hE71
  obtain ⟨(e71_5 : a71.eval (.tmp 5) = .slice Al1 l1.length cl1), (e71_6 : a71.eval (.tmp 6) = .int .i64 (l1.length : Int)), (e71_7 : a71.eval (.tmp 7) = .int .i64 0), -⟩ := hf71 [0, 1, 2] rfl
  have hX71 := es_ hX69 hE71
  have b71_Al1 := RdO.evo rfl hE71 b69_Al1
  refine fl_block (fun Q72 hn72 hx72 hp72 => ?_)
  refine fl_loop (body := (fun s => exact_Right_b1 l1 s)) (z := r) (show loopO _ _ = _ from hs) (fun (x90 : Int) a wx => ∃ (ox : Own), a.defers = [] ∧ a.tmps.size = 22 ∧ a.eval (.tmp 5) = .slice Al1 l1.length cl1 ∧ a.eval (.tmp 6) = .int .i64 (l1.length : Int) ∧ a.eval (.tmp 7) = .int .i64 x90 ∧ Evo [] (fun _ => 0) ox w wx ∧ RdO ox [0] wx R25 Al1 cl1 l1) ?_ ?_
  · exact ⟨own71, hd71, hz71, e71_5, e71_6, e71_7, hX71, b71_Al1⟩
  · rintro x90 zz108 a108 w108 ⟨own108, hd109, hz109, e109_5, e109_6, e109_7, hE109, b109_Al1⟩ hs Q108 hn108 hp108 hz108
    have hs : exact_Right_b1 l1 x90 = some zz108 := hs
    refine rg0_seq 22 own108 (bz 1) [⟨[], [7, 6], [], Fct.val 8 (.bool (decide (x90 < (l1.length : Int))))⟩] hz109 hd109 (by kernel_rfl) ?_ ?_
    · refine sc (fun _ _ _ _ s _ => px (or_lss (s.1.trans e109_7) (s.2.1.trans e109_6) rfl)) ?_
      exact steps_nil
    intro own110 a110 w110 hd110 hz110 hk110 hf110 hE110
    have e110_5 := (hk110 5 rfl).trans e109_5
    have e110_6 := (hk110 6 rfl).trans e109_6
    have e110_7 := (hk110 7 rfl).trans e109_7
    obtain ⟨(e110_8 : a110.eval (.tmp 8) = .bool (decide (x90 < (l1.length : Int)))), -⟩ := hf110 [0] rfl
    have hX110 := es_ hE109 hE110
    have b110_Al1 := RdO.evo rfl hE110 b109_Al1
    refine fl_seq (fun Q111 hn111 hp111 => ?_)
    refine fl_cond e110_8 hs (fun c112 hs => ?_) (fun c112 hs => ?_)
    · refine fl_skip ?_
      refine hn111 _ _ ?_
      refine fl_seq (fun Q113 hn113 hp113 => ?_)
      refine fl_block (fun Q114 hn114 hx114 hp114 => ?_)
      obtain ⟨x115, hx115, hs⟩ := obind hs
      refine rg_plain_seq (n := 22) (rs := []) (own0 := own110) (K := [117]) (bs := [0, 1, 0, 7]) (ds := [⟨[], [5, 7], [], Fct.val 9 (.pointer (some ((adr Al1).add ((x90 : Int).toNat * R25.s))))⟩,     ⟨[0], [], [], Fct.val 10 (.agg #[.int .i64 x115.1, .int .i64 x115.2])⟩,     ⟨[], [], [], Fct.blk 117 4 (fun g => .pointer (some ⟨g, 0, none⟩)) 25 #[.int .i64 0, .int .i64 0]⟩,     ⟨[2, 1], [], [117], Fct.blk 118 4 (fun g => .pointer (some ⟨g, 0, none⟩)) 25 #[.int .i64 x115.1, .int .i64 x115.2]⟩]) (by kernel_rfl) hz110 hd110 nm_ ?_ ?_
      · refine sc (fun _ _ _ _ s _ => px (or_index (R := R25) (l := l1) tl55 (s.1.trans e110_5) (s.2.1.trans e110_7) (RdO.some_ b110_Al1 hx115) hx115)) ?_
        refine sc (fun _ _ _ f _ hE => px (or_load (l := E25.f x115) ta25 f.1 (RdO.cells (F := E25) (RdO.evo rfl hE b110_Al1) hx115) rfl)) ?_
        refine sc (fun _ _ _ _ _ _ => px (or_new [] rfl rfl trivial (by kernel_rfl))) ?_
        refine sc (fun own a wx hf hsl hE => ?_) ?_
        · obtain ⟨⟨g116, f_4, b_g116⟩, f_10, -⟩ := hf
          exact px (or_store (l := #[.int .i64 x115.1, .int .i64 x115.2]) (lab := 117) (lab2 := 118) ts25 f_4 f_10 b_g116 (by simp) (by kernel_rfl) (mem_of rfl) (by decide) (by kernel_rfl) (fun own' a' w' ha hb => ⟨_, (ha 4).trans f_4, hb⟩))
        exact steps_nil
      intro own119 a119 w119 hd119 hz119 hk119 hf119 hE119
      have e119_5 := (hk119 5 rfl).trans e110_5
      have e119_6 := (hk119 6 rfl).trans e110_6
      have e119_7 := (hk119 7 rfl).trans e110_7
      obtain ⟨⟨g116, (e119_4 : a119.eval (.tmp 4) = .pointer (some ⟨g116, 0, none⟩)), (b119_g116 : BlkO own119 118 w119 g116 25 #[.int .i64 x115.1, .int .i64 x115.2])⟩, -⟩ := hf119 [3] rfl
      have hX119 := es_ hX110 hE119
      have b119_Al1 := RdO.evo rfl hE119 b110_Al1
      obtain ⟨r120, hr120, hs⟩ := obind hs
      obtain ⟨r121, hr121, hs⟩ := obind hs
      refine rg0_seq 22 own119 (bz 10) [⟨[], [4], [], Fct.val 11 (.pointer (some ⟨g116, 0, none⟩))⟩,     ⟨[0], [], [], Fct.val 12 (.int .i64 x115.1)⟩,     ⟨[1], [], [], Fct.val 13 (.bool r120)⟩,     ⟨[2], [], [], Fct.val 14 (.bool (!r120))⟩,     ⟨[3], [], [], Fct.val 15 (.bool (!r120))⟩,     ⟨[4], [4], [], Fct.cond (!(!r120)) (some 16) (Fct.val 16 (.pointer (some ⟨g116, 1, none⟩)))⟩,     ⟨[4, 5], [], [], Fct.cond (!(!r120)) (some 17) (Fct.val 17 (.int .i64 x115.2))⟩,     ⟨[4, 6], [], [], Fct.cond (!(!r120)) (some 18) (Fct.val 18 (.bool r121))⟩,     ⟨[4, 7], [], [], Fct.cond (!(!r120)) (some 19) (Fct.val 19 (.bool (!r121)))⟩,     ⟨[4, 8], [], [], Fct.val 20 (.bool ((!r120) || (!r121)))⟩] hz119 hd119 (by kernel_rfl) ?_ ?_
      · refine sc (fun _ _ _ _ s _ => px (or_field fo25_0 (s.1.trans e119_4) (by rfl))) ?_
        refine sc (fun _ _ _ f _ hE => px (or_load1 to3 f.1 (Blk.at_ (be_ hE b119_g116).2 0 rfl))) ?_
        refine sc (fun _ _ _ f _ _ => px (or_call cf52 (args3 f.1 rfl rfl) (exact_within_w _ x115.1 (-16777216) 16777216  r120 hr120) post_val)) ?_
        refine sc (fun _ _ _ f _ _ => px (or_not f.1 rfl)) ?_
        refine sc (fun _ _ _ f _ _ => px (or_move f.1)) ?_
        refine sc (fun _ _ _ f s _ => sg_f rfl rfl rfl f.1 (fun hg => or_field fo25_1 (s.1.trans e119_4) (by rfl))) ?_
        refine sc (fun _ _ _ f _ hE => sg_f rfl rfl rfl f.1 (fun hg => or_load1 to3 (f.2.1.1 hg) (Blk.at_ (be_ hE b119_g116).2 1 rfl))) ?_
        refine sc (fun _ _ _ f _ _ => sg_f rfl rfl rfl f.1 (fun hg => or_call cf52 (args3 (f.2.1.1 hg) rfl rfl) (exact_within_w _ x115.2 (-16777216) 16777216  r121 (gd_t hr121 hg)) post_val)) ?_
        refine sc (fun _ _ _ f _ _ => sg_f rfl rfl rfl f.1 (fun hg => or_not (f.2.1.1 hg) rfl)) ?_
        refine sc (fun _ _ _ f _ _ => px (or_or f.1 rfl (fun hx => f.2.1.1 hx) rfl)) ?_
        exact steps_nil
      intro own122 a122 w122 hd122 hz122 hk122 hf122 hE122
      have e122_5 := (hk122 5 rfl).trans e119_5
      have e122_6 := (hk122 6 rfl).trans e119_6
      have e122_7 := (hk122 7 rfl).trans e119_7
      obtain ⟨(e122_20 : a122.eval (.tmp 20) = .bool ((!r120) || (!r121))), -⟩ := hf122 [9] rfl
      have hX122 := es_ hX119 hE122
      have b122_Al1 := RdO.evo rfl hE122 b119_Al1
      refine fl_cond e122_20 hs (fun c123 hs => ?_) (fun c123 hs => ?_)
      · refine rg0_seq 22 own122 (bz 1) [⟨[], [], [], Fct.val 2 (.bool false)⟩] hz122 hd122 (by kernel_rfl) ?_ ?_
        · refine sc (fun _ _ _ _ _ _ => px (or_assign rfl)) ?_
          exact steps_nil
        intro own124 a124 w124 hd124 hz124 hk124 hf124 hE124
        obtain ⟨(e124_2 : a124.eval (.tmp 2) = .bool false), -⟩ := hf124 [0] rfl
        have hX124 := es_ hX122 hE124
        refine fl_ret ?_
        refine hp114 _ _ _ rfl ?_
        refine hp113 _ _ _ rfl ?_
        replace hs := hz108 _ hs
        refine hp108 _ _ _ rfl ?_
        refine hp72 _ _ _ rfl ?_
        refine hp70 _ _ _ rfl ?_
        obtain rfl := osome hs
        exact hret _ _ _ _ (.inl rfl) hd124 (results1_ rfl (RVal.tmp_ e124_2)) ⟨own124, rfl, hX124⟩
      refine fl_skip ?_
      refine hn114 _ _ ?_
      refine hn113 _ _ ?_
      refine rg0 22 own122 (bz 2) [⟨[], [7], [], Fct.val 21 (.int .i64 (ad x90 1))⟩,     ⟨[0], [], [], Fct.val 7 (.int .i64 (ad x90 1))⟩] hz122 hd122 (by kernel_rfl) ?_ ?_
      · refine sc (fun _ _ _ _ s _ => px (or_add (s.1.trans e122_7) rfl rfl)) ?_
        refine sc (fun _ _ _ f _ _ => px (or_move f.1)) ?_
        exact steps_nil
      intro own125 a125 w125 hd125 hz125 hk125 hf125 hE125
      have e125_5 := (hk125 5 rfl).trans e122_5
      have e125_6 := (hk125 6 rfl).trans e122_6
      obtain ⟨(e125_7 : a125.eval (.tmp 7) = .int .i64 (ad x90 1)), -⟩ := hf125 [1] rfl
      have hX125 := es_ hX122 hE125
      have b125_Al1 := RdO.evo rfl hE125 b122_Al1
      exact hn108 _ _ _ hs ⟨own125, hd125, hz125, e125_5, e125_6, e125_7, hX125, b125_Al1⟩
    refine fl_exit ?_
    refine hp111 _ _ _ rfl ?_
    replace hs := hz108 _ hs
    refine hp108 _ _ _ rfl ?_
    refine hx72 _ _ ?_
    refine hn70 _ _ ?_
    refine rg0_seq 22 own110 (bz 1) [⟨[], [], [], Fct.val 2 (.bool true)⟩] hz110 hd110 (by kernel_rfl) ?_ ?_
    · refine sc (fun _ _ _ _ _ _ => px (or_assign rfl)) ?_
      exact steps_nil
    intro own126 a126 w126 hd126 hz126 hk126 hf126 hE126
    obtain ⟨(e126_2 : a126.eval (.tmp 2) = .bool true), -⟩ := hf126 [0] rfl
    have hX126 := es_ hX110 hE126
    refine fl_ret ?_
    obtain rfl := osome hs
    exact hret _ _ _ _ (.inl rfl) hd126 (results1_ rfl (RVal.tmp_ e126_2)) ⟨own126, rfl, hX126⟩
theorem rows_Right_w (w : World) (b1 : (Int × Int) × (Int × Int)) (r : Bool) (hs : rows_Right b1 = some r) :
    Calls Try.prog 48 #[.agg #[.int .i64 b1.1.1, .int .i64 b1.1.2, .int .i64 b1.2.1, .int .i64 b1.2.2]] w fun e w' => ∃ own' : Own, e = .returned (.bool r) ∧ Evo [] (fun _ => 0) own' w w' := by
  refine fl_enter (n := 27) rfl rfl rfl (Nat.le_of_ble_eq_true rfl) ?_
  intro a0 Q hd0 hz0 harg hret
  have ha0 := harg 0 _ rfl
  clear harg
  have hE0 : Evo [] (fun _ => 0) (fun _ => 0) w w := Evo.refl _ _ _
  refine rg0_seq 27 (fun _ => 0) [0, 0] [⟨[], [0], [], Fct.blk 20 1 (fun g => .pointer (some ⟨g, 0, none⟩)) 80 #[.int .i64 b1.1.1, .int .i64 b1.1.2, .int .i64 b1.2.1, .int .i64 b1.2.2]⟩,     ⟨[], [], [], Fct.val 2 (.bool false)⟩] hz0 hd0 (by kernel_rfl) ?_ ?_
  · refine sc (fun _ _ _ _ s _ => px (or_new [(0, .agg #[.int .i64 b1.1.1, .int .i64 b1.1.2, .int .i64 b1.2.1, .int .i64 b1.2.2])] rfl rfl ⟨(s.1.trans ha0), trivial⟩ (by kernel_rfl))) ?_
    refine sc (fun _ _ _ _ _ _ => px (or_assign rfl)) ?_
    exact steps_nil
  intro own21 a21 w21 hd21 hz21 hk21 hf21 hE21
  obtain ⟨⟨g19, (e21_1 : a21.eval (.tmp 1) = .pointer (some ⟨g19, 0, none⟩)), (b21_g19 : BlkO own21 20 w21 g19 80 #[.int .i64 b1.1.1, .int .i64 b1.1.2, .int .i64 b1.2.1, .int .i64 b1.2.2])⟩, -⟩ := hf21 [0] rfl
  have hX21 := es_ hE0 hE21
  obtain ⟨r24, hr24, hs⟩ := obind hs
  obtain ⟨x25, hx25, hs⟩ := obind hs
  refine rg0_seq 27 own21 [0, 1, 0, 4, 15, 31, 63, 127, 255, 511, 127, 1151, 3199, 8191, 16383, 32767, 65535, 131071, 262143, 65535, 589823, 1638399, 4194303, 8388607, 16777215] [⟨[], [1], [], Fct.val 3 (.pointer (some ⟨g19, 0, none⟩))⟩,     ⟨[0], [], [], Fct.val 4 (.agg #[.int .i64 b1.1.1, .int .i64 b1.1.2])⟩,     ⟨[], [1], [], Fct.val 5 (.pointer (some ⟨g19, 2, none⟩))⟩,     ⟨[2], [], [], Fct.val 6 (.agg #[.int .i64 b1.2.1, .int .i64 b1.2.2])⟩,     ⟨[1, 3], [], [], Fct.row 23 [] 7 25 R25 [b1.1, b1.2]⟩,     ⟨[4], [], [], Fct.val 8 (.bool r24)⟩,     ⟨[5], [], [], Fct.val 9 (.bool r24)⟩,     ⟨[6], [1], [], Fct.cond r24 (some 10) (Fct.val 10 (.pointer (some ⟨g19, 0, none⟩)))⟩,     ⟨[6, 7], [], [], Fct.cond r24 (some 11) (Fct.val 11 (.pointer (some ⟨g19, 0, none⟩)))⟩,     ⟨[6, 8], [], [], Fct.cond r24 (some 12) (Fct.val 12 (.int .i64 b1.1.1))⟩,     ⟨[6], [1], [], Fct.cond r24 (some 13) (Fct.val 13 (.pointer (some ⟨g19, 2, none⟩)))⟩,     ⟨[6, 10], [], [], Fct.cond r24 (some 14) (Fct.val 14 (.pointer (some ⟨g19, 2, none⟩)))⟩,     ⟨[6, 11], [], [], Fct.cond r24 (some 15) (Fct.val 15 (.int .i64 b1.2.1))⟩,     ⟨[6, 9, 12], [], [], Fct.cond r24 (some 16) (Fct.val 16 (.bool (decide (b1.1.1 ≤ b1.2.1))))⟩,     ⟨[6, 13], [], [], Fct.val 17 (.bool (r24 && (decide (b1.1.1 ≤ b1.2.1))))⟩,     ⟨[14], [], [], Fct.val 18 (.bool (r24 && (decide (b1.1.1 ≤ b1.2.1))))⟩,     ⟨[15], [1], [], Fct.cond (r24 && (decide (b1.1.1 ≤ b1.2.1))) (some 19) (Fct.val 19 (.pointer (some ⟨g19, 0, none⟩)))⟩,     ⟨[15, 16], [], [], Fct.cond (r24 && (decide (b1.1.1 ≤ b1.2.1))) (some 20) (Fct.val 20 (.pointer (some ⟨g19, 1, none⟩)))⟩,     ⟨[15, 17], [], [], Fct.cond (r24 && (decide (b1.1.1 ≤ b1.2.1))) (some 21) (Fct.val 21 (.int .i64 b1.1.2))⟩,     ⟨[15], [1], [], Fct.cond (r24 && (decide (b1.1.1 ≤ b1.2.1))) (some 22) (Fct.val 22 (.pointer (some ⟨g19, 2, none⟩)))⟩,     ⟨[15, 19], [], [], Fct.cond (r24 && (decide (b1.1.1 ≤ b1.2.1))) (some 23) (Fct.val 23 (.pointer (some ⟨g19, 3, none⟩)))⟩,     ⟨[15, 20], [], [], Fct.cond (r24 && (decide (b1.1.1 ≤ b1.2.1))) (some 24) (Fct.val 24 (.int .i64 b1.2.2))⟩,     ⟨[15, 18, 21], [], [], Fct.cond (r24 && (decide (b1.1.1 ≤ b1.2.1))) (some 25) (Fct.val 25 (.bool (decide (b1.1.2 ≤ b1.2.2))))⟩,     ⟨[15, 22], [], [], Fct.val 26 (.bool x25)⟩,     ⟨[23], [], [], Fct.val 2 (.bool x25)⟩] hz21 hd21 (by kernel_rfl) ?_ ?_
  · refine sc (fun _ _ _ _ s _ => px (or_field fo80_0 (s.1.trans e21_1) (by rfl))) ?_
    refine sc (fun _ _ _ f _ hE => px (or_load (l := [.int .i64 b1.1.1, .int .i64 b1.1.2]) ta25 f.1 (Blk.cellsFrom (be_ hE b21_g19).2 0 rfl) rfl)) ?_
    refine sc (fun _ _ _ _ s _ => px (or_field fo80_1 (s.1.trans e21_1) (by rfl))) ?_
    refine sc (fun _ _ _ f _ hE => px (or_load (l := [.int .i64 b1.2.1, .int .i64 b1.2.2]) ta25 f.1 (Blk.cellsFrom (be_ hE b21_g19).2 2 rfl) rfl)) ?_
    refine sc (fun _ _ _ f _ _ => px (or_lit (lab := 23) (e := 25) (cs := #[.int .i64 b1.1.1, .int .i64 b1.1.2, .int .i64 b1.2.1, .int .i64 b1.2.2]) (F := E25) (or_new [(4, .agg #[.int .i64 b1.1.1, .int .i64 b1.1.2]), (6, .agg #[.int .i64 b1.2.1, .int .i64 b1.2.2])] rfl rfl ⟨f.1, f.2.1, trivial⟩ (by kernel_rfl)) rfl rfl (show 2 ≤ maxLen by decide))) ?_
    refine sc (fun own a wx hf hsl hE => ?_) ?_
    · obtain ⟨⟨⟨A22, cA22⟩, f_7, b_A22⟩, -⟩ := hf
      exact px (or_call cf32 (args1 f_7) (exact_Right_w _ [b1.1, b1.2] A22 cA22 (RdO.zero (RwO.rd b_A22)) r24 hr24) post_val)
    refine sc (fun _ _ _ f _ _ => px (or_move f.1)) ?_
    refine sc (fun _ _ _ f s _ => sg_t rfl rfl rfl f.1 (fun hg => or_field fo80_0 (s.1.trans e21_1) (by rfl))) ?_
    refine sc (fun _ _ _ f _ _ => sg_t rfl rfl rfl f.1 (fun hg => or_field fo25_0 (f.2.1.1 hg) (by rfl))) ?_
    refine sc (fun _ _ _ f _ hE => sg_t rfl rfl rfl f.1 (fun hg => or_load1 to3 (f.2.1.1 hg) (Blk.at_ (be_ hE b21_g19).2 0 rfl))) ?_
    refine sc (fun _ _ _ f s _ => sg_t rfl rfl rfl f.1 (fun hg => or_field fo80_1 (s.1.trans e21_1) (by rfl))) ?_
    refine sc (fun _ _ _ f _ _ => sg_t rfl rfl rfl f.1 (fun hg => or_field fo25_0 (f.2.1.1 hg) (by rfl))) ?_
    refine sc (fun _ _ _ f _ hE => sg_t rfl rfl rfl f.1 (fun hg => or_load1 to3 (f.2.1.1 hg) (Blk.at_ (be_ hE b21_g19).2 2 rfl))) ?_
    refine sc (fun _ _ _ f _ _ => sg_t rfl rfl rfl f.1 (fun hg => or_leq (f.2.1.1 hg) (f.2.2.1.1 hg) rfl)) ?_
    refine sc (fun _ _ _ f _ _ => px (or_and f.1 (fun hx => f.2.1.1 hx) rfl rfl)) ?_
    refine sc (fun _ _ _ f _ _ => px (or_move f.1)) ?_
    refine sc (fun _ _ _ f s _ => sg_t rfl rfl rfl f.1 (fun hg => or_field fo80_0 (s.1.trans e21_1) (by rfl))) ?_
    refine sc (fun _ _ _ f _ _ => sg_t rfl rfl rfl f.1 (fun hg => or_field fo25_1 (f.2.1.1 hg) (by rfl))) ?_
    refine sc (fun _ _ _ f _ hE => sg_t rfl rfl rfl f.1 (fun hg => or_load1 to3 (f.2.1.1 hg) (Blk.at_ (be_ hE b21_g19).2 1 rfl))) ?_
    refine sc (fun _ _ _ f s _ => sg_t rfl rfl rfl f.1 (fun hg => or_field fo80_1 (s.1.trans e21_1) (by rfl))) ?_
    refine sc (fun _ _ _ f _ _ => sg_t rfl rfl rfl f.1 (fun hg => or_field fo25_1 (f.2.1.1 hg) (by rfl))) ?_
    refine sc (fun _ _ _ f _ hE => sg_t rfl rfl rfl f.1 (fun hg => or_load1 to3 (f.2.1.1 hg) (Blk.at_ (be_ hE b21_g19).2 3 rfl))) ?_
    refine sc (fun _ _ _ f _ _ => sg_t rfl rfl rfl f.1 (fun hg => or_leq (f.2.1.1 hg) (f.2.2.1.1 hg) rfl)) ?_
    refine sc (fun _ _ _ f _ _ => px (or_and f.1 (fun hx => f.2.1.1 hx) rfl (osome hx25).symm)) ?_
    refine sc (fun _ _ _ f _ _ => px (or_assign f.1)) ?_
    exact steps_nil
  intro own26 a26 w26 hd26 hz26 hk26 hf26 hE26
  obtain ⟨(e26_2 : a26.eval (.tmp 2) = .bool x25), -⟩ := hf26 [24] rfl
  have hX26 := es_ hX21 hE26
  refine fl_ret ?_
  obtain rfl := (osome hs).symm
  exact hret _ _ _ _ (.inl rfl) hd26 (results1_ rfl (RVal.tmp_ e26_2)) ⟨own26, rfl, hX26⟩
theorem rows_great_w (w : World) (b1 : (Int × Int) × (Int × Int)) (r : Bool) (hs : rows_great b1 = some r) :
    Calls Try.prog 49 #[.agg #[.int .i64 b1.1.1, .int .i64 b1.1.2, .int .i64 b1.2.1, .int .i64 b1.2.2]] w fun e w' => ∃ own' : Own, e = .returned (.bool r) ∧ Evo [] (fun _ => 0) own' w w' := by
  refine fl_enter (n := 25) rfl rfl rfl (Nat.le_of_ble_eq_true rfl) ?_
  intro a0 Q hd0 hz0 harg hret
  have ha0 := harg 0 _ rfl
  clear harg
  have hE0 : Evo [] (fun _ => 0) (fun _ => 0) w w := Evo.refl _ _ _
  refine rg0_seq 25 (fun _ => 0) [0, 0] [⟨[], [0], [], Fct.blk 21 1 (fun g => .pointer (some ⟨g, 0, none⟩)) 80 #[.int .i64 b1.1.1, .int .i64 b1.1.2, .int .i64 b1.2.1, .int .i64 b1.2.2]⟩,     ⟨[], [], [], Fct.val 2 (.bool false)⟩] hz0 hd0 (by kernel_rfl) ?_ ?_
  · refine sc (fun _ _ _ _ s _ => px (or_new [(0, .agg #[.int .i64 b1.1.1, .int .i64 b1.1.2, .int .i64 b1.2.1, .int .i64 b1.2.2])] rfl rfl ⟨(s.1.trans ha0), trivial⟩ (by kernel_rfl))) ?_
    refine sc (fun _ _ _ _ _ _ => px (or_assign rfl)) ?_
    exact steps_nil
  intro own22 a22 w22 hd22 hz22 hk22 hf22 hE22
  obtain ⟨⟨g20, (e22_1 : a22.eval (.tmp 1) = .pointer (some ⟨g20, 0, none⟩)), (b22_g20 : BlkO own22 21 w22 g20 80 #[.int .i64 b1.1.1, .int .i64 b1.1.2, .int .i64 b1.2.1, .int .i64 b1.2.2])⟩, -⟩ := hf22 [0] rfl
  have hX22 := es_ hE0 hE22
  obtain ⟨x23, hx23, hs⟩ := obind hs
  obtain ⟨x24, hx24, hs⟩ := obind hs
  obtain ⟨x25, hx25, hs⟩ := obind hs
  obtain ⟨x26, hx26, hs⟩ := obind hs
  obtain ⟨x27, hx27, hs⟩ := obind hs
  refine rg0_seq 25 own22 [0, 1, 3, 7, 0, 16, 48, 112, 255, 511, 0, 1024, 3072, 7168, 0, 16384, 49152, 114688, 261120, 523264, 1048575, 2097151, 4194303] [⟨[], [1], [], Fct.val 3 (.pointer (some ⟨g20, 2, none⟩))⟩,     ⟨[0], [], [], Fct.val 4 (.pointer (some ⟨g20, 2, none⟩))⟩,     ⟨[1], [], [], Fct.val 5 (.int .i64 b1.2.1)⟩,     ⟨[2], [], [], Fct.val 6 (.int .i64 x23)⟩,     ⟨[], [1], [], Fct.val 7 (.pointer (some ⟨g20, 0, none⟩))⟩,     ⟨[4], [], [], Fct.val 8 (.pointer (some ⟨g20, 0, none⟩))⟩,     ⟨[5], [], [], Fct.val 9 (.int .i64 b1.1.1)⟩,     ⟨[6], [], [], Fct.val 10 (.int .i64 x24)⟩,     ⟨[3, 7], [], [], Fct.val 11 (.int .i64 (sb x23 x24))⟩,     ⟨[8], [], [], Fct.val 12 (.int .i64 (ad (sb x23 x24) 1))⟩,     ⟨[], [1], [], Fct.val 13 (.pointer (some ⟨g20, 2, none⟩))⟩,     ⟨[10], [], [], Fct.val 14 (.pointer (some ⟨g20, 3, none⟩))⟩,     ⟨[11], [], [], Fct.val 15 (.int .i64 b1.2.2)⟩,     ⟨[12], [], [], Fct.val 16 (.int .i64 x25)⟩,     ⟨[], [1], [], Fct.val 17 (.pointer (some ⟨g20, 0, none⟩))⟩,     ⟨[14], [], [], Fct.val 18 (.pointer (some ⟨g20, 1, none⟩))⟩,     ⟨[15], [], [], Fct.val 19 (.int .i64 b1.1.2)⟩,     ⟨[16], [], [], Fct.val 20 (.int .i64 x26)⟩,     ⟨[13, 17], [], [], Fct.val 21 (.int .i64 (sb x25 x26))⟩,     ⟨[18], [], [], Fct.val 22 (.int .i64 (ad (sb x25 x26) 1))⟩,     ⟨[9, 19], [], [], Fct.val 23 (.int .i64 x27)⟩,     ⟨[20], [], [], Fct.val 24 (.bool (decide (64 < x27)))⟩,     ⟨[21], [], [], Fct.val 2 (.bool (decide (64 < x27)))⟩] hz22 hd22 (by kernel_rfl) ?_ ?_
  · refine sc (fun _ _ _ _ s _ => px (or_field fo80_1 (s.1.trans e22_1) (by rfl))) ?_
    refine sc (fun _ _ _ f _ _ => px (or_field fo25_0 f.1 (by rfl))) ?_
    refine sc (fun _ _ _ f _ hE => px (or_load1 to3 f.1 (Blk.at_ (be_ hE b22_g20).2 2 rfl))) ?_
    refine sc (fun _ _ _ f _ _ => px (or_shr f.1 rfl hx23)) ?_
    refine sc (fun _ _ _ _ s _ => px (or_field fo80_0 (s.1.trans e22_1) (by rfl))) ?_
    refine sc (fun _ _ _ f _ _ => px (or_field fo25_0 f.1 (by rfl))) ?_
    refine sc (fun _ _ _ f _ hE => px (or_load1 to3 f.1 (Blk.at_ (be_ hE b22_g20).2 0 rfl))) ?_
    refine sc (fun _ _ _ f _ _ => px (or_shr f.1 rfl hx24)) ?_
    refine sc (fun _ _ _ f _ _ => px (or_sub f.1 f.2.1 rfl)) ?_
    refine sc (fun _ _ _ f _ _ => px (or_add f.1 rfl rfl)) ?_
    refine sc (fun _ _ _ _ s _ => px (or_field fo80_1 (s.1.trans e22_1) (by rfl))) ?_
    refine sc (fun _ _ _ f _ _ => px (or_field fo25_1 f.1 (by rfl))) ?_
    refine sc (fun _ _ _ f _ hE => px (or_load1 to3 f.1 (Blk.at_ (be_ hE b22_g20).2 3 rfl))) ?_
    refine sc (fun _ _ _ f _ _ => px (or_shr f.1 rfl hx25)) ?_
    refine sc (fun _ _ _ _ s _ => px (or_field fo80_0 (s.1.trans e22_1) (by rfl))) ?_
    refine sc (fun _ _ _ f _ _ => px (or_field fo25_1 f.1 (by rfl))) ?_
    refine sc (fun _ _ _ f _ hE => px (or_load1 to3 f.1 (Blk.at_ (be_ hE b22_g20).2 1 rfl))) ?_
    refine sc (fun _ _ _ f _ _ => px (or_shr f.1 rfl hx26)) ?_
    refine sc (fun _ _ _ f _ _ => px (or_sub f.1 f.2.1 rfl)) ?_
    refine sc (fun _ _ _ f _ _ => px (or_add f.1 rfl rfl)) ?_
    refine sc (fun _ _ _ f _ _ => px (or_mul f.1 f.2.1 (osome hx27).symm)) ?_
    refine sc (fun _ _ _ f _ _ => px (or_gtr f.1 rfl rfl)) ?_
    refine sc (fun _ _ _ f _ _ => px (or_assign f.1)) ?_
    exact steps_nil
  intro own28 a28 w28 hd28 hz28 hk28 hf28 hE28
  obtain ⟨(e28_2 : a28.eval (.tmp 2) = .bool (decide (64 < x27))), -⟩ := hf28 [22] rfl
  have hX28 := es_ hX22 hE28
  refine fl_ret ?_
  obtain rfl := osome hs
  exact hret _ _ _ _ (.inl rfl) hd28 (results1_ rfl (RVal.tmp_ e28_2)) ⟨own28, rfl, hX28⟩
theorem rows_fields_w (w : World) (b1 : (Int × Int) × (Int × Int)) (r : Unit) (hs : rows_fields b1 = some r) :
    Calls Try.prog 50 #[.agg #[.int .i64 b1.1.1, .int .i64 b1.1.2, .int .i64 b1.2.1, .int .i64 b1.2.2]] w fun e w' => ∃ (own' : Own) (x : Option Addr × Nat), e = .returned (.func (.func 64) #[] #[.pointer (some ⟨x.2, 0, none⟩)]) ∧ Evo [] (fun _ => 0) own' w w' ∧ BlkO own' 1 w' x.2 80 #[.int .i64 b1.1.1, .int .i64 b1.1.2, .int .i64 b1.2.1, .int .i64 b1.2.2] := by
  refine fl_enter (n := 4) rfl rfl rfl (Nat.le_of_ble_eq_true rfl) ?_
  intro a0 Q hd0 hz0 harg hret
  have ha0 := harg 0 _ rfl
  clear harg
  have hE0 : Evo [] (fun _ => 0) (fun _ => 0) w w := Evo.refl _ _ _
  refine rg0_seq 4 (fun _ => 0) [0, 0] [⟨[], [0], [], Fct.blk 16 1 (fun g => .pointer (some ⟨g, 0, none⟩)) 80 #[.int .i64 b1.1.1, .int .i64 b1.1.2, .int .i64 b1.2.1, .int .i64 b1.2.2]⟩,     ⟨[], [], [], Fct.val 2 (.nilFunc)⟩] hz0 hd0 (by kernel_rfl) ?_ ?_
  · refine sc (fun _ _ _ _ s _ => px (or_new [(0, .agg #[.int .i64 b1.1.1, .int .i64 b1.1.2, .int .i64 b1.2.1, .int .i64 b1.2.2])] rfl rfl ⟨(s.1.trans ha0), trivial⟩ (by kernel_rfl))) ?_
    refine sc (fun _ _ _ _ _ _ => px (or_assign rfl)) ?_
    exact steps_nil
  intro own17 a17 w17 hd17 hz17 hk17 hf17 hE17
  obtain ⟨⟨g15, (e17_1 : a17.eval (.tmp 1) = .pointer (some ⟨g15, 0, none⟩)), (b17_g15 : BlkO own17 16 w17 g15 80 #[.int .i64 b1.1.1, .int .i64 b1.1.2, .int .i64 b1.2.1, .int .i64 b1.2.2])⟩, -⟩ := hf17 [0] rfl
  have hX17 := es_ hE0 hE17
  refine rg0_seq 4 own17 (bz 2) [⟨[], [1], [], Fct.val 3 (.func (.func 64) #[] #[.pointer (some ⟨g15, 0, none⟩)])⟩,     ⟨[0], [], [], Fct.val 2 (.func (.func 64) #[] #[.pointer (some ⟨g15, 0, none⟩)])⟩] hz17 hd17 (by kernel_rfl) ?_ ?_
  · refine sc (fun _ _ _ _ s _ => px (or_k [(1, .pointer (some ⟨g15, 0, none⟩))] rfl rfl ⟨(s.1.trans e17_1), trivial⟩ (by kernel_rfl))) ?_
    refine sc (fun _ _ _ f _ _ => px (or_assign f.1)) ?_
    exact steps_nil
  intro own18 a18 w18 hd18 hz18 hk18 hf18 hE18
  obtain ⟨(e18_2 : a18.eval (.tmp 2) = .func (.func 64) #[] #[.pointer (some ⟨g15, 0, none⟩)]), -⟩ := hf18 [1] rfl
  have hX18 := es_ hX17 hE18
  have b18_g15 := be_ hE18 b17_g15
  refine fl_ret ?_
  obtain rfl := osome hs
  exact hret _ _ _ _ (.inl rfl) hd18 (results1_ rfl (RVal.tmp_ e18_2)) ⟨(rl [(16, 1)] own18), (none, g15), rfl, (Evo.rl_ hX18 (fun _ => Nat.le_refl 0) rfl), (BlkO.rl_ (mm := [(16, 1)]) b18_g15)⟩
theorem rows_fields_1_w (w : World) (own : Own) (Sx : Type) (yy : Sx → ((Int × Int)) → Option (Bool × Sx)) (Jx : Sq Sx) (lx : Nat) (sx0 : Sx) (f1 : (Int × Int) × (Int × Int)) (gf1 : Nat) (tf1 : TypeId) (hown : ∀ b, own b ≤ 1) (hYx : Rounds Try.prog lx (fun (x : (Int × Int)) => #[.agg #[.int .i64 x.1, .int .i64 x.2]]) yy Jx) (hJx : SqO Jx own 1 w sx0) (hgf1 : BlkO own 0 w gf1 tf1 #[.int .i64 f1.1.1, .int .i64 f1.1.2, .int .i64 f1.2.1, .int .i64 f1.2.2]) (r : Sx) (hs : rows_fields_1 Sx yy sx0 f1 = some r) :
    Calls Try.prog 64 #[.func (.yield lx) #[] #[], .pointer (some ⟨gf1, 0, none⟩)] w fun e w' => ∃ (own' : Own), e = .returned (.tuple #[]) ∧ Evo [1] own own' w w' ∧ SqO Jx own' 1 w' r := by
  refine fl_enter (n := 35) rfl rfl rfl (Nat.le_of_ble_eq_true rfl) ?_
  intro a0 Q hd0 hz0 harg hret
  have ha0 := harg 0 _ rfl
  have ha1 := harg 1 _ rfl
  clear harg
  have hE0 : Evo [1] own own w w := Evo.refl _ _ _
  obtain ⟨x172, hx172, hs⟩ := obind hs
  refine rg0_seq 35 own (bz 5) [⟨[], [1], [], Fct.val 5 (.pointer (some ⟨gf1, 0, none⟩))⟩,     ⟨[0], [], [], Fct.val 6 (.pointer (some ⟨gf1, 0, none⟩))⟩,     ⟨[1], [], [], Fct.val 7 (.int .i64 f1.1.1)⟩,     ⟨[2], [], [], Fct.val 8 (.int .i64 x172)⟩,     ⟨[3], [], [], Fct.val 3 (.int .i64 x172)⟩] hz0 hd0 (by kernel_rfl) ?_ ?_
  · refine sc (fun _ _ _ _ s _ => px (or_field fo80_0 (s.1.trans ha1) (by rfl))) ?_
    refine sc (fun _ _ _ f _ _ => px (or_field fo25_0 f.1 (by rfl))) ?_
    refine sc (fun _ _ _ f _ hE => px (or_load1 to3 f.1 (Blk.at_ (be_ hE hgf1).2 0 rfl))) ?_
    refine sc (fun _ _ _ f _ _ => px (or_shr f.1 rfl hx172)) ?_
    refine sc (fun _ _ _ f _ _ => px (or_assign f.1)) ?_
    exact steps_nil
  intro own173 a173 w173 hd173 hz173 hk173 hf173 hE173
  have e173_0 := (hk173 0 rfl).trans ha0
  have e173_1 := (hk173 1 rfl).trans ha1
  obtain ⟨(e173_3 : a173.eval (.tmp 3) = .int .i64 x172), -⟩ := hf173 [4] rfl
  have hX173 := Evo.step hE0 hown hE173 rfl
  have b173_Jx := SqO.evo (by decide) hE173 hJx
  have b173_gf1 := be_ hE173 hgf1
  refine fl_block (fun Q174 hn174 hx174 hp174 => ?_)
  refine fl_loop (body := (fun s => rows_fields_1_b1 Sx yy f1 s.1 s.2)) (z := r) (show loopO _ _ = _ from hs) (fun (s : Int × Sx) a wx => match s with | (i226, sx227) => ∃ (ox : Own), a.defers = [] ∧ a.tmps.size = 35 ∧ a.eval (.tmp 0) = .func (.yield lx) #[] #[] ∧ a.eval (.tmp 1) = .pointer (some ⟨gf1, 0, none⟩) ∧ a.eval (.tmp 3) = .int .i64 i226 ∧ Evo [1] own ox w wx ∧ BlkO ox 0 wx gf1 tf1 #[.int .i64 f1.1.1, .int .i64 f1.1.2, .int .i64 f1.2.1, .int .i64 f1.2.2] ∧ SqO Jx ox 228 wx sx227) ?_ ?_
  · exact ⟨(rl [(1, 228)] own173), hd173, hz173, e173_0, e173_1, e173_3, (Evo.rl_ hX173 hown rfl), (BlkO.rl_ (mm := [(1, 228)]) b173_gf1), (SqO.rl_ (mm := [(1, 228)]) b173_Jx rfl (by decide))⟩
  · rintro ⟨i226, sx227⟩ zz280 a280 w280 ⟨own280, hd281, hz281, e281_0, e281_1, e281_3, hE281, b281_gf1, b281_Jx⟩ hs Q280 hn280 hp280 hz280
    have hs : rows_fields_1_b1 Sx yy f1 i226 sx227 = some zz280 := hs
    refine fl_seq (fun Q282 hn282 hp282 => ?_)
    obtain ⟨x283, hx283, hs⟩ := obind hs
    refine rg0_seq 35 own280 [0, 0, 2, 6, 14, 31] [⟨[], [3], [], Fct.val 9 (.int .i64 i226)⟩,     ⟨[], [1], [], Fct.val 10 (.pointer (some ⟨gf1, 2, none⟩))⟩,     ⟨[1], [], [], Fct.val 11 (.pointer (some ⟨gf1, 2, none⟩))⟩,     ⟨[2], [], [], Fct.val 12 (.int .i64 f1.2.1)⟩,     ⟨[3], [], [], Fct.val 13 (.int .i64 x283)⟩,     ⟨[0, 4], [], [], Fct.val 14 (.bool (decide (i226 ≤ x283)))⟩] hz281 hd281 (by kernel_rfl) ?_ ?_
    · refine sc (fun _ _ _ _ s _ => px (or_move (s.1.trans e281_3))) ?_
      refine sc (fun _ _ _ _ s _ => px (or_field fo80_1 (s.1.trans e281_1) (by rfl))) ?_
      refine sc (fun _ _ _ f _ _ => px (or_field fo25_0 f.1 (by rfl))) ?_
      refine sc (fun _ _ _ f _ hE => px (or_load1 to3 f.1 (Blk.at_ (be_ hE b281_gf1).2 2 rfl))) ?_
      refine sc (fun _ _ _ f _ _ => px (or_shr f.1 rfl hx283)) ?_
      refine sc (fun _ _ _ f _ _ => px (or_leq f.1 f.2.1 rfl)) ?_
      exact steps_nil
    intro own284 a284 w284 hd284 hz284 hk284 hf284 hE284
    have e284_0 := (hk284 0 rfl).trans e281_0
    have e284_1 := (hk284 1 rfl).trans e281_1
    have e284_3 := (hk284 3 rfl).trans e281_3
    obtain ⟨(e284_14 : a284.eval (.tmp 14) = .bool (decide (i226 ≤ x283))), -⟩ := hf284 [5] rfl
    have hX284 := Evo.step hE281 hown hE284 rfl
    have b284_gf1 := be_ hE284 b281_gf1
    have b284_Jx := SqO.evo (by decide) hE284 b281_Jx
    refine fl_cond e284_14 hs (fun c285 hs => ?_) (fun c285 hs => ?_)
    · refine fl_skip ?_
      refine hn282 _ _ ?_
      refine fl_seq (fun Q286 hn286 hp286 => ?_)
      refine fl_block (fun Q287 hn287 hx287 hp287 => ?_)
      obtain ⟨x288, hx288, hs⟩ := obind hs
      refine rg0_seq 35 own284 (bz 5) [⟨[], [1], [], Fct.val 17 (.pointer (some ⟨gf1, 0, none⟩))⟩,     ⟨[0], [], [], Fct.val 18 (.pointer (some ⟨gf1, 1, none⟩))⟩,     ⟨[1], [], [], Fct.val 19 (.int .i64 f1.1.2)⟩,     ⟨[2], [], [], Fct.val 20 (.int .i64 x288)⟩,     ⟨[3], [], [], Fct.val 4 (.int .i64 x288)⟩] hz284 hd284 (by kernel_rfl) ?_ ?_
      · refine sc (fun _ _ _ _ s _ => px (or_field fo80_0 (s.1.trans e284_1) (by rfl))) ?_
        refine sc (fun _ _ _ f _ _ => px (or_field fo25_1 f.1 (by rfl))) ?_
        refine sc (fun _ _ _ f _ hE => px (or_load1 to3 f.1 (Blk.at_ (be_ hE b284_gf1).2 1 rfl))) ?_
        refine sc (fun _ _ _ f _ _ => px (or_shr f.1 rfl hx288)) ?_
        refine sc (fun _ _ _ f _ _ => px (or_assign f.1)) ?_
        exact steps_nil
      intro own289 a289 w289 hd289 hz289 hk289 hf289 hE289
      have e289_0 := (hk289 0 rfl).trans e284_0
      have e289_1 := (hk289 1 rfl).trans e284_1
      have e289_3 := (hk289 3 rfl).trans e284_3
      obtain ⟨(e289_4 : a289.eval (.tmp 4) = .int .i64 x288), -⟩ := hf289 [4] rfl
      have hX289 := Evo.step hX284 hown hE289 rfl
      have b289_gf1 := be_ hE289 b284_gf1
      have b289_Jx := SqO.evo (by decide) hE289 b284_Jx
      refine fl_block (fun Q290 hn290 hx290 hp290 => ?_)
      refine fl_loop (body := (fun s => rows_fields_1_b2 Sx yy f1 i226 s.1 s.2)) (z := zz280) (show loopO _ _ = _ from hs) (fun (s : Int × Sx) a wx => match s with | (k303, sx304) => ∃ (ox : Own), a.defers = [] ∧ a.tmps.size = 35 ∧ a.eval (.tmp 0) = .func (.yield lx) #[] #[] ∧ a.eval (.tmp 1) = .pointer (some ⟨gf1, 0, none⟩) ∧ a.eval (.tmp 3) = .int .i64 i226 ∧ a.eval (.tmp 4) = .int .i64 k303 ∧ Evo [1] own ox w wx ∧ BlkO ox 0 wx gf1 tf1 #[.int .i64 f1.1.1, .int .i64 f1.1.2, .int .i64 f1.2.1, .int .i64 f1.2.2] ∧ SqO Jx ox 305 wx sx304) ?_ ?_
      · exact ⟨(rl [(228, 305)] own289), hd289, hz289, e289_0, e289_1, e289_3, e289_4, (Evo.rl_ hX289 hown rfl), (BlkO.rl_ (mm := [(228, 305)]) b289_gf1), (SqO.rl_ (mm := [(228, 305)]) b289_Jx rfl (by decide))⟩
      · rintro ⟨k303, sx304⟩ zz318 a318 w318 ⟨own318, hd319, hz319, e319_0, e319_1, e319_3, e319_4, hE319, b319_gf1, b319_Jx⟩ hs Q318 hn318 hp318 hz318
        have hs : rows_fields_1_b2 Sx yy f1 i226 k303 sx304 = some zz318 := hs
        refine fl_seq (fun Q320 hn320 hp320 => ?_)
        obtain ⟨x321, hx321, hs⟩ := obind hs
        refine rg0_seq 35 own318 [0, 0, 2, 6, 14, 31] [⟨[], [4], [], Fct.val 21 (.int .i64 k303)⟩,     ⟨[], [1], [], Fct.val 22 (.pointer (some ⟨gf1, 2, none⟩))⟩,     ⟨[1], [], [], Fct.val 23 (.pointer (some ⟨gf1, 3, none⟩))⟩,     ⟨[2], [], [], Fct.val 24 (.int .i64 f1.2.2)⟩,     ⟨[3], [], [], Fct.val 25 (.int .i64 x321)⟩,     ⟨[0, 4], [], [], Fct.val 26 (.bool (decide (k303 ≤ x321)))⟩] hz319 hd319 (by kernel_rfl) ?_ ?_
        · refine sc (fun _ _ _ _ s _ => px (or_move (s.1.trans e319_4))) ?_
          refine sc (fun _ _ _ _ s _ => px (or_field fo80_1 (s.1.trans e319_1) (by rfl))) ?_
          refine sc (fun _ _ _ f _ _ => px (or_field fo25_1 f.1 (by rfl))) ?_
          refine sc (fun _ _ _ f _ hE => px (or_load1 to3 f.1 (Blk.at_ (be_ hE b319_gf1).2 3 rfl))) ?_
          refine sc (fun _ _ _ f _ _ => px (or_shr f.1 rfl hx321)) ?_
          refine sc (fun _ _ _ f _ _ => px (or_leq f.1 f.2.1 rfl)) ?_
          exact steps_nil
        intro own322 a322 w322 hd322 hz322 hk322 hf322 hE322
        have e322_0 := (hk322 0 rfl).trans e319_0
        have e322_1 := (hk322 1 rfl).trans e319_1
        have e322_3 := (hk322 3 rfl).trans e319_3
        have e322_4 := (hk322 4 rfl).trans e319_4
        obtain ⟨(e322_26 : a322.eval (.tmp 26) = .bool (decide (k303 ≤ x321))), -⟩ := hf322 [5] rfl
        have hX322 := Evo.step hE319 hown hE322 rfl
        have b322_gf1 := be_ hE322 b319_gf1
        have b322_Jx := SqO.evo (by decide) hE322 b319_Jx
        refine fl_cond e322_26 hs (fun c323 hs => ?_) (fun c323 hs => ?_)
        · refine fl_skip ?_
          refine hn320 _ _ ?_
          refine fl_seq (fun Q324 hn324 hp324 => ?_)
          refine fl_block (fun Q325 hn325 hx325 hp325 => ?_)
          obtain ⟨z326, hz326, hs⟩ := obind hs
          refine rg_plain_seq (n := 35) (rs := [Fct.seqAt Jx 305 sx304]) (own0 := own322) (K := [305]) (bs := [0, 0, 0, 6, 15, 31]) (ds := [⟨[], [0], [], Fct.val 29 (.func (.yield lx) #[] #[])⟩,     ⟨[], [3], [], Fct.val 30 (.int .i64 i226)⟩,     ⟨[], [4], [], Fct.val 31 (.int .i64 k303)⟩,     ⟨[1, 2], [], [], Fct.val 32 (.agg #[.int .i64 i226, .int .i64 k303])⟩,     ⟨[0, 3, 6], [], [305], Fct.seq Jx 327 33 z326.1 z326.2⟩,     ⟨[4], [], [], Fct.val 34 (.bool (!z326.1))⟩]) (by kernel_rfl) hz322 hd322 (by simp only [List.forall_mem_cons]; exact ⟨b322_Jx, fun _ h => nomatch h⟩) ?_ ?_
          · refine sc (fun _ _ _ _ s _ => px (or_move (s.1.trans e322_0))) ?_
            refine sc (fun _ _ _ _ s _ => px (or_move (s.1.trans e322_3))) ?_
            refine sc (fun _ _ _ _ s _ => px (or_move (s.1.trans e322_4))) ?_
            refine sc (fun _ _ _ f _ _ => px (or_k [(30, .int .i64 i226), (31, .int .i64 k303)] rfl rfl ⟨f.1, f.2.1, trivial⟩ (by kernel_rfl))) ?_
            refine sc (fun own a wx hf hsl hE => ?_) ?_
            · obtain ⟨f_29, f_32, b_Jx, -⟩ := hf
              exact sg_plainF rfl (or_yield (x := (i226, k303)) (lab := 305) (lab2 := 327) f_29 (args1 f_32) hYx b_Jx hz326 (mem_of rfl) (by decide))
            refine sc (fun own a wx hf hsl hE => ?_) ?_
            · obtain ⟨⟨f_33, b_Jx⟩, -⟩ := hf
              exact px (or_not f_33 rfl)
            exact steps_nil
          intro own328 a328 w328 hd328 hz328 hk328 hf328 hE328
          have e328_0 := (hk328 0 rfl).trans e322_0
          have e328_1 := (hk328 1 rfl).trans e322_1
          have e328_3 := (hk328 3 rfl).trans e322_3
          have e328_4 := (hk328 4 rfl).trans e322_4
          obtain ⟨(e328_34 : a328.eval (.tmp 34) = .bool (!z326.1)), ⟨(f_33 : a328.eval (.tmp 33) = .bool z326.1), (b328_Jx : SqO Jx own328 327 w328 z326.2)⟩, -⟩ := hf328 [5, 4] rfl
          have hX328 := Evo.step hX322 hown hE328 rfl
          have b328_gf1 := be_ hE328 b322_gf1
          refine fl_cond e328_34 hs (fun c329 hs => ?_) (fun c329 hs => ?_)
          · refine fl_ret ?_
            refine hp325 _ _ _ rfl ?_
            refine hp324 _ _ _ rfl ?_
            replace hs := hz318 _ hs
            refine hp318 _ _ _ rfl ?_
            refine hp290 _ _ _ rfl ?_
            refine hp287 _ _ _ rfl ?_
            refine hp286 _ _ _ rfl ?_
            replace hs := hz280 _ hs
            refine hp280 _ _ _ rfl ?_
            refine hp174 _ _ _ rfl ?_
            obtain rfl := osome hs
            exact hret _ _ _ _ (.inl rfl) hd328 (results0_ rfl ) ⟨(rl [(327, 1)] own328), rfl, (Evo.rl_ hX328 hown rfl), (SqO.rl_ (mm := [(327, 1)]) b328_Jx rfl (by decide))⟩
          refine fl_skip ?_
          refine hn325 _ _ ?_
          refine hn324 _ _ ?_
          refine rg0 35 own328 (bz 3) [⟨[], [4], [], Fct.val 27 (.int .i64 k303)⟩,     ⟨[0], [], [], Fct.val 28 (.int .i64 (ad k303 1))⟩,     ⟨[1], [], [], Fct.val 4 (.int .i64 (ad k303 1))⟩] hz328 hd328 (by kernel_rfl) ?_ ?_
          · refine sc (fun _ _ _ _ s _ => px (or_move (s.1.trans e328_4))) ?_
            refine sc (fun _ _ _ f _ _ => px (or_add f.1 rfl rfl)) ?_
            refine sc (fun _ _ _ f _ _ => px (or_assign f.1)) ?_
            exact steps_nil
          intro own330 a330 w330 hd330 hz330 hk330 hf330 hE330
          have e330_0 := (hk330 0 rfl).trans e328_0
          have e330_1 := (hk330 1 rfl).trans e328_1
          have e330_3 := (hk330 3 rfl).trans e328_3
          obtain ⟨(e330_4 : a330.eval (.tmp 4) = .int .i64 (ad k303 1)), -⟩ := hf330 [2] rfl
          have hX330 := Evo.step hX328 hown hE330 rfl
          have b330_gf1 := be_ hE330 b328_gf1
          have b330_Jx := SqO.evo (by decide) hE330 b328_Jx
          exact hn318 _ _ _ hs ⟨(rl [(327, 305)] own330), hd330, hz330, e330_0, e330_1, e330_3, e330_4, (Evo.rl_ hX330 hown rfl), (BlkO.rl_ (mm := [(327, 305)]) b330_gf1), (SqO.rl_ (mm := [(327, 305)]) b330_Jx rfl (by decide))⟩
        refine fl_exit ?_
        refine hp320 _ _ _ rfl ?_
        replace hs := hz318 _ hs
        refine hp318 _ _ _ rfl ?_
        refine hx290 _ _ ?_
        refine hn287 _ _ ?_
        refine hn286 _ _ ?_
        refine rg0 35 own322 (bz 3) [⟨[], [3], [], Fct.val 15 (.int .i64 i226)⟩,     ⟨[0], [], [], Fct.val 16 (.int .i64 (ad i226 1))⟩,     ⟨[1], [], [], Fct.val 3 (.int .i64 (ad i226 1))⟩] hz322 hd322 (by kernel_rfl) ?_ ?_
        · refine sc (fun _ _ _ _ s _ => px (or_move (s.1.trans e322_3))) ?_
          refine sc (fun _ _ _ f _ _ => px (or_add f.1 rfl rfl)) ?_
          refine sc (fun _ _ _ f _ _ => px (or_assign f.1)) ?_
          exact steps_nil
        intro own331 a331 w331 hd331 hz331 hk331 hf331 hE331
        have e331_0 := (hk331 0 rfl).trans e322_0
        have e331_1 := (hk331 1 rfl).trans e322_1
        obtain ⟨(e331_3 : a331.eval (.tmp 3) = .int .i64 (ad i226 1)), -⟩ := hf331 [2] rfl
        have hX331 := Evo.step hX322 hown hE331 rfl
        have b331_gf1 := be_ hE331 b322_gf1
        have b331_Jx := SqO.evo (by decide) hE331 b322_Jx
        exact hn280 _ _ _ hs ⟨(rl [(305, 228)] own331), hd331, hz331, e331_0, e331_1, e331_3, (Evo.rl_ hX331 hown rfl), (BlkO.rl_ (mm := [(305, 228)]) b331_gf1), (SqO.rl_ (mm := [(305, 228)]) b331_Jx rfl (by decide))⟩
    refine fl_exit ?_
    refine hp282 _ _ _ rfl ?_
    replace hs := hz280 _ hs
    refine hp280 _ _ _ rfl ?_
    refine hx174 _ _ ?_
    obtain rfl := (osome hs).symm
    exact hret _ _ _ _ (.inr rfl) hd284 (results0_ rfl ) ⟨(rl [(228, 1)] own284), rfl, (Evo.rl_ hX284 hown rfl), (SqO.rl_ (mm := [(228, 1)]) b284_Jx rfl (by decide))⟩
theorem rows_Index_Add_w (w : World) (own : Own) (x1 : (List ((Int × Int) × (Int × Int))) × (List ((Int × Int) × (List Int))) × (List Int)) (gx1 : Nat) (tx1 : TypeId) (Ax1_0 : Option Addr) (cx1_0 : Nat) (mx1_1 : Nat) (Ax1_2 : Option Addr) (cx1_2 : Nat) (l2 : List ((Int × Int) × (Int × Int))) (Al2 : Option Addr) (cl2 : Nat) (hown : ∀ b, own b ≤ 5) (hgx1 : BlkO own 1 w gx1 tx1 #[.slice Ax1_0 x1.1.length cx1_0, .map (some mx1_1), .slice Ax1_2 x1.2.2.length cx1_2]) (hAx1_0 : RwO own 2 [] w 80 R80 Ax1_0 cx1_0 x1.1) (hmx1_1 : MpN own 3 4 [] w mx1_1 vv111 3 R3 x1.2.1) (hAx1_2 : RwO own 5 [] w 3 R3 Ax1_2 cx1_2 x1.2.2) (hl2 : RdO own [0] w R80 Al2 cl2 l2) (r : Int × ((List ((Int × Int) × (Int × Int))) × (List ((Int × Int) × (List Int))) × (List Int))) (hs : rows_Index_Add x1 l2 = some r) :
    Calls Try.prog 29 #[.pointer (some ⟨gx1, 0, none⟩), .slice Al2 l2.length cl2] w fun e w' => ∃ (own' : Own) (x : (Option Addr × Nat) × (Option Addr × Nat)), e = .returned (.int .i64 r.1) ∧ Evo [1, 2, 3, 4, 5] own own' w w' ∧ RwO own' 2 [] w' 80 R80 x.1.1 x.1.2 r.2.1 ∧ MpN own' 3 4 [] w' mx1_1 vv111 3 R3 r.2.2.1 ∧ RwO own' 5 [] w' 3 R3 x.2.1 x.2.2 r.2.2.2 ∧ BlkO own' 1 w' gx1 tx1 #[.slice x.1.1 r.2.1.length x.1.2, .map (some mx1_1), .slice x.2.1 r.2.2.2.length x.2.2] := by
  refine fl_enterM (n := 69) (kD := 16) (by decide) rfl rfl rfl (Nat.le_of_ble_eq_true rfl) ?_
  intro a0 Q hd0 hz0 harg hret
  have ha0 := harg 0 _ rfl
  have ha1 := harg 1 _ rfl
  clear harg
  have hE0 : Evo [1, 2, 3, 4, 5] own own w w := Evo.refl _ _ _
  have hmk0 : MkO own 16 w [] := MkO.nil_
  refine rg0_seq 69 own [0, 0] [⟨[], [0], [], Fct.blk 2692 2 (fun g => .pointer (some ⟨g, 0, none⟩)) 70 #[.pointer (some ⟨gx1, 0, none⟩)]⟩,     ⟨[], [], [], Fct.val 4 (.int .i64 0)⟩] hz0 hd0 (by kernel_rfl) ?_ ?_
  · refine sc (fun _ _ _ _ s _ => px (or_new [(0, .pointer (some ⟨gx1, 0, none⟩))] rfl rfl ⟨(s.1.trans ha0), trivial⟩ (by kernel_rfl))) ?_
    refine sc (fun _ _ _ _ _ _ => px (or_assign rfl)) ?_
    exact steps_nil
  intro own2693 a2693 w2693 hd2693 hz2693 hk2693 hf2693 hE2693
  have e2693_0 := (hk2693 0 rfl).trans ha0
  have e2693_1 := (hk2693 1 rfl).trans ha1
  obtain ⟨⟨g2691, (e2693_2 : a2693.eval (.tmp 2) = .pointer (some ⟨g2691, 0, none⟩)), (b2693_g2691 : BlkO own2693 2692 w2693 g2691 70 #[.pointer (some ⟨gx1, 0, none⟩)])⟩, -⟩ := hf2693 [0] rfl
  have hX2693 := Evo.step hE0 hown hE2693 rfl
  have b2693_Ax1_0 := re_ hE2693 hAx1_0
  have b2693_mx1_1 := MpN.evo rfl hE2693 hmx1_1
  have b2693_Ax1_2 := re_ hE2693 hAx1_2
  have b2693_gx1 := be_ hE2693 hgx1
  have b2693_Al2 := RdO.evo rfl hE2693 hl2
  have b2693_mk := MkO.evo (by decide) hE2693 hmk0
  refine fl_seq (fun Q2694 hn2694 hp2694 => ?_)
  refine rg0_seq 69 own2693 (bz 2) [⟨[], [2], [], Fct.val 9 (.pointer (some ⟨gx1, 0, none⟩))⟩,     ⟨[0], [], [], Fct.val 10 (.bool false)⟩] hz2693 hd2693 (by kernel_rfl) ?_ ?_
  · refine sc (fun _ _ _ _ s hE => px (or_load1 to70 (s.1.trans e2693_2) (Blk.at_ (be_ hE b2693_g2691).2 0 rfl))) ?_
    refine sc (fun _ _ _ f _ _ => px (or_k [(9, .pointer (some ⟨gx1, 0, none⟩))] rfl rfl ⟨f.1, trivial⟩ (by kernel_rfl))) ?_
    exact steps_nil
  intro own2695 a2695 w2695 hd2695 hz2695 hk2695 hf2695 hE2695
  have e2695_0 := (hk2695 0 rfl).trans e2693_0
  have e2695_1 := (hk2695 1 rfl).trans e2693_1
  have e2695_2 := (hk2695 2 rfl).trans e2693_2
  obtain ⟨(e2695_10 : a2695.eval (.tmp 10) = .bool false), -⟩ := hf2695 [1] rfl
  have hX2695 := Evo.step hX2693 hown hE2695 rfl
  have b2695_Ax1_0 := re_ hE2695 b2693_Ax1_0
  have b2695_mx1_1 := MpN.evo rfl hE2695 b2693_mx1_1
  have b2695_Ax1_2 := re_ hE2695 b2693_Ax1_2
  have b2695_gx1 := be_ hE2695 b2693_gx1
  have b2695_Al2 := RdO.evo rfl hE2695 b2693_Al2
  have b2695_mk := MkO.evo (by decide) hE2695 b2693_mk
  have b2695_g2691 := be_ hE2695 b2693_g2691
  refine fl_f e2695_10 ?_
  refine fl_skip ?_
  refine hn2694 _ _ ?_
  refine fl_seq (fun Q2696 hn2696 hp2696 => ?_)
  refine rg0_seq 69 own2695 [0, 1, 0] [⟨[], [1], [], Fct.val 11 (.slice Al2 l2.length cl2)⟩,     ⟨[0], [], [], Fct.val 12 (.int .i64 (l2.length : Int))⟩,     ⟨[], [], [], Fct.val 13 (.int .i64 0)⟩] hz2695 hd2695 (by kernel_rfl) ?_ ?_
  · refine sc (fun _ _ _ _ s _ => px (or_move (s.1.trans e2695_1))) ?_
    refine sc (fun _ _ _ f _ _ => px (or_len tu103 f.1 rfl)) ?_
    refine sc (fun _ _ _ _ _ _ => px (or_move rfl)) ?_
    exact steps_nil
  intro own2697 a2697 w2697 hd2697 hz2697 hk2697 hf2697 hE2697
  have e2697_0 := (hk2697 0 rfl).trans e2695_0
  have e2697_2 := (hk2697 2 rfl).trans e2695_2
  obtain ⟨(e2697_11 : a2697.eval (.tmp 11) = .slice Al2 l2.length cl2), (e2697_12 : a2697.eval (.tmp 12) = .int .i64 (l2.length : Int)), (e2697_13 : a2697.eval (.tmp 13) = .int .i64 0), -⟩ := hf2697 [0, 1, 2] rfl
  have hX2697 := Evo.step hX2695 hown hE2697 rfl
  have b2697_Ax1_0 := re_ hE2697 b2695_Ax1_0
  have b2697_mx1_1 := MpN.evo rfl hE2697 b2695_mx1_1
  have b2697_Ax1_2 := re_ hE2697 b2695_Ax1_2
  have b2697_gx1 := be_ hE2697 b2695_gx1
  have b2697_Al2 := RdO.evo rfl hE2697 b2695_Al2
  have b2697_mk := MkO.evo (by decide) hE2697 b2695_mk
  have b2697_g2691 := be_ hE2697 b2695_g2691
  refine fl_block (fun Q2698 hn2698 hx2698 hp2698 => ?_)
  refine fl_loop (body := (fun s => rows_Index_Add_b1 l2 s.1 s.2.1 s.2.2.1 s.2.2.2)) (z := r) (show loopO _ _ = _ from hs) (fun (s : (List ((Int × Int) × (Int × Int))) × (List ((Int × Int) × (List Int))) × (List Int) × Int) a wx => match s with | (x3586, x3588, x3591, x3593) => ∃ (ox : Own) (A3584 : Option Addr) (c3585 : Nat) (A3589 : Option Addr) (c3590 : Nat) (Ds3594 : List Nat), a.defers = mkD Ds3594 ∧ a.tmps.size = 69 ∧ a.eval (.tmp 0) = .pointer (some ⟨gx1, 0, none⟩) ∧ a.eval (.tmp 2) = .pointer (some ⟨g2691, 0, none⟩) ∧ a.eval (.tmp 11) = .slice Al2 l2.length cl2 ∧ a.eval (.tmp 12) = .int .i64 (l2.length : Int) ∧ a.eval (.tmp 13) = .int .i64 x3593 ∧ Evo [1, 2, 3, 4, 5] own ox w wx ∧ BlkO ox 3583 wx gx1 tx1 #[.slice A3584 x3586.length c3585, .map (some mx1_1), .slice A3589 x3591.length c3590] ∧ RwO ox 3587 [] wx 80 R80 A3584 c3585 x3586 ∧ MpN ox 3 4 [] wx mx1_1 vv111 3 R3 x3588 ∧ RwO ox 3592 [] wx 3 R3 A3589 c3590 x3591 ∧ BlkO ox 2692 wx g2691 70 #[.pointer (some ⟨gx1, 0, none⟩)] ∧ RdO ox [0] wx R80 Al2 cl2 l2 ∧ MkO ox 16 wx Ds3594) ?_ ?_
  · exact ⟨(rl [(1, 3583), (2, 3587), (5, 3592)] own2697), Ax1_0, cx1_0, Ax1_2, cx1_2, [], hd2697, hz2697, e2697_0, e2697_2, e2697_11, e2697_12, e2697_13, (Evo.rl_ hX2697 hown rfl), (BlkO.rl_ (mm := [(1, 3583), (2, 3587), (5, 3592)]) b2697_gx1), (RwO.rl_ (mm := [(1, 3583), (2, 3587), (5, 3592)]) b2697_Ax1_0), (MpN.rl_ (mm := [(1, 3583), (2, 3587), (5, 3592)]) b2697_mx1_1), (RwO.rl_ (mm := [(1, 3583), (2, 3587), (5, 3592)]) b2697_Ax1_2), (BlkO.rl_ (mm := [(1, 3583), (2, 3587), (5, 3592)]) b2697_g2691), (RdO.rl_ (mm := [(1, 3583), (2, 3587), (5, 3592)]) b2697_Al2), (MkO.rl_ (mm := [(1, 3583), (2, 3587), (5, 3592)]) b2697_mk)⟩
  · rintro ⟨x3586, x3588, x3591, x3593⟩ zz4479 a4479 w4479 ⟨own4479, A3584, c3585, A3589, c3590, Ds3594, hd4480, hz4480, e4480_0, e4480_2, e4480_11, e4480_12, e4480_13, hE4480, b4480_gx1, b4480_A3584, b4480_mx1_1, b4480_A3589, b4480_g2691, b4480_Al2, b4480_mk⟩ hs Q4479 hn4479 hp4479 hz4479
    have hs : rows_Index_Add_b1 l2 x3586 x3588 x3591 x3593 = some zz4479 := hs
    refine rg0_seq 69 own4479 (bz 1) [⟨[], [13, 12], [], Fct.val 14 (.bool (decide (x3593 < (l2.length : Int))))⟩] hz4480 hd4480 (by kernel_rfl) ?_ ?_
    · refine sc (fun _ _ _ _ s _ => px (or_lss (s.1.trans e4480_13) (s.2.1.trans e4480_12) rfl)) ?_
      exact steps_nil
    intro own4481 a4481 w4481 hd4481 hz4481 hk4481 hf4481 hE4481
    have e4481_0 := (hk4481 0 rfl).trans e4480_0
    have e4481_2 := (hk4481 2 rfl).trans e4480_2
    have e4481_11 := (hk4481 11 rfl).trans e4480_11
    have e4481_12 := (hk4481 12 rfl).trans e4480_12
    have e4481_13 := (hk4481 13 rfl).trans e4480_13
    obtain ⟨(e4481_14 : a4481.eval (.tmp 14) = .bool (decide (x3593 < (l2.length : Int)))), -⟩ := hf4481 [0] rfl
    have hX4481 := Evo.step hE4480 hown hE4481 rfl
    have b4481_gx1 := be_ hE4481 b4480_gx1
    have b4481_A3584 := re_ hE4481 b4480_A3584
    have b4481_mx1_1 := MpN.evo rfl hE4481 b4480_mx1_1
    have b4481_A3589 := re_ hE4481 b4480_A3589
    have b4481_g2691 := be_ hE4481 b4480_g2691
    have b4481_Al2 := RdO.evo rfl hE4481 b4480_Al2
    have b4481_mk := MkO.evo (by decide) hE4481 b4480_mk
    refine fl_seq (fun Q4482 hn4482 hp4482 => ?_)
    refine fl_cond e4481_14 hs (fun c4483 hs => ?_) (fun c4483 hs => ?_)
    · refine fl_skip ?_
      refine hn4482 _ _ ?_
      refine fl_seq (fun Q4484 hn4484 hp4484 => ?_)
      refine fl_block (fun Q4924 hn4924 hx4924 hp4924 => ?_)
      obtain ⟨x5144, hx5144, hs⟩ := obind hs
      refine rg_plain_seq (n := 69) (rs := []) (own0 := own4481) (K := [5146]) (bs := [0, 1, 0, 7]) (ds := [⟨[], [11, 13], [], Fct.val 15 (.pointer (some ((adr Al2).add ((x3593 : Int).toNat * R80.s))))⟩,     ⟨[0], [], [], Fct.val 16 (.agg #[.int .i64 x5144.1.1, .int .i64 x5144.1.2, .int .i64 x5144.2.1, .int .i64 x5144.2.2])⟩,     ⟨[], [], [], Fct.blk 5146 6 (fun g => .pointer (some ⟨g, 0, none⟩)) 80 #[.int .i64 0, .int .i64 0, .int .i64 0, .int .i64 0]⟩,     ⟨[2, 1], [], [5146], Fct.blk 5147 6 (fun g => .pointer (some ⟨g, 0, none⟩)) 80 #[.int .i64 x5144.1.1, .int .i64 x5144.1.2, .int .i64 x5144.2.1, .int .i64 x5144.2.2]⟩]) (by kernel_rfl) hz4481 hd4481 nm_ ?_ ?_
      · refine sc (fun _ _ _ _ s _ => px (or_index (R := R80) (l := l2) tl103 (s.1.trans e4481_11) (s.2.1.trans e4481_13) (RdO.some_ b4481_Al2 hx5144) hx5144)) ?_
        refine sc (fun _ _ _ f _ hE => px (or_load (l := E80.f x5144) ta80 f.1 (RdO.cells (F := E80) (RdO.evo rfl hE b4481_Al2) hx5144) rfl)) ?_
        refine sc (fun _ _ _ _ _ _ => px (or_new [] rfl rfl trivial (by kernel_rfl))) ?_
        refine sc (fun own a wx hf hsl hE => ?_) ?_
        · obtain ⟨⟨g5145, f_6, b_g5145⟩, f_16, -⟩ := hf
          exact px (or_store (l := #[.int .i64 x5144.1.1, .int .i64 x5144.1.2, .int .i64 x5144.2.1, .int .i64 x5144.2.2]) (lab := 5146) (lab2 := 5147) ts80 f_6 f_16 b_g5145 (by simp) (by kernel_rfl) (mem_of rfl) (by decide) (by kernel_rfl) (fun own' a' w' ha hb => ⟨_, (ha 6).trans f_6, hb⟩))
        exact steps_nil
      intro own5148 a5148 w5148 hd5148 hz5148 hk5148 hf5148 hE5148
      have e5148_0 := (hk5148 0 rfl).trans e4481_0
      have e5148_2 := (hk5148 2 rfl).trans e4481_2
      have e5148_11 := (hk5148 11 rfl).trans e4481_11
      have e5148_12 := (hk5148 12 rfl).trans e4481_12
      have e5148_13 := (hk5148 13 rfl).trans e4481_13
      obtain ⟨⟨g5145, (e5148_6 : a5148.eval (.tmp 6) = .pointer (some ⟨g5145, 0, none⟩)), (b5148_g5145 : BlkO own5148 5147 w5148 g5145 80 #[.int .i64 x5144.1.1, .int .i64 x5144.1.2, .int .i64 x5144.2.1, .int .i64 x5144.2.2])⟩, -⟩ := hf5148 [3] rfl
      have hX5148 := Evo.step hX4481 hown hE5148 rfl
      have b5148_gx1 := be_ hE5148 b4481_gx1
      have b5148_A3584 := re_ hE5148 b4481_A3584
      have b5148_mx1_1 := MpN.evo rfl hE5148 b4481_mx1_1
      have b5148_A3589 := re_ hE5148 b4481_A3589
      have b5148_g2691 := be_ hE5148 b4481_g2691
      have b5148_Al2 := RdO.evo rfl hE5148 b4481_Al2
      have b5148_mk := MkO.evo (by decide) hE5148 b4481_mk
      refine rg_plain_seq (n := 69) (rs := []) (own0 := own5148) (K := [5150]) (bs := [0, 1, 3, 7, 15, 0, 63]) (ds := [⟨[], [2], [], Fct.val 17 (.pointer (some ⟨gx1, 0, none⟩))⟩,     ⟨[0], [], [], Fct.val 18 (.pointer (some ⟨gx1, 0, none⟩))⟩,     ⟨[1], [], [], Fct.val 19 (.pointer (some ⟨gx1, 0, none⟩))⟩,     ⟨[2], [], [], Fct.val 20 (.slice A3584 x3586.length c3585)⟩,     ⟨[3], [], [], Fct.val 21 (.int .i64 (x3586.length : Int))⟩,     ⟨[], [], [], Fct.blk 5150 7 (fun g => .pointer (some ⟨g, 0, none⟩)) 3 #[.int .i64 0]⟩,     ⟨[5, 4], [], [5150], Fct.blk 5151 7 (fun g => .pointer (some ⟨g, 0, none⟩)) 3 #[.int .i64 (x3586.length : Int)]⟩]) (by kernel_rfl) hz5148 hd5148 nm_ ?_ ?_
      · refine sc (fun _ _ _ _ s hE => px (or_load1 to70 (s.1.trans e5148_2) (Blk.at_ (be_ hE b5148_g2691).2 0 rfl))) ?_
        refine sc (fun _ _ _ f _ _ => px (or_k [(17, .pointer (some ⟨gx1, 0, none⟩))] rfl rfl ⟨f.1, trivial⟩ (by kernel_rfl))) ?_
        refine sc (fun _ _ _ f _ _ => px (or_field fo106_0 f.1 (by rfl))) ?_
        refine sc (fun _ _ _ f _ hE => px (or_load1 to103 f.1 (Blk.at_ (be_ hE b5148_gx1).2 0 rfl))) ?_
        refine sc (fun _ _ _ f _ _ => px (or_len tu103 f.1 rfl)) ?_
        refine sc (fun _ _ _ _ _ _ => px (or_new [] rfl rfl trivial (by kernel_rfl))) ?_
        refine sc (fun own a wx hf hsl hE => ?_) ?_
        · obtain ⟨⟨g5149, f_7, b_g5149⟩, f_21, -⟩ := hf
          exact px (or_store1 (lab := 5150) (lab2 := 5151) ts3 f_7 f_21 b_g5149 (by simp) rfl (mem_of rfl) (by decide) rfl (fun own' a' w' ha hb => ⟨_, (ha 7).trans f_7, hb⟩))
        exact steps_nil
      intro own5152 a5152 w5152 hd5152 hz5152 hk5152 hf5152 hE5152
      have e5152_0 := (hk5152 0 rfl).trans e5148_0
      have e5152_2 := (hk5152 2 rfl).trans e5148_2
      have e5152_6 := (hk5152 6 rfl).trans e5148_6
      have e5152_11 := (hk5152 11 rfl).trans e5148_11
      have e5152_12 := (hk5152 12 rfl).trans e5148_12
      have e5152_13 := (hk5152 13 rfl).trans e5148_13
      obtain ⟨⟨g5149, (e5152_7 : a5152.eval (.tmp 7) = .pointer (some ⟨g5149, 0, none⟩)), (b5152_g5149 : BlkO own5152 5151 w5152 g5149 3 #[.int .i64 (x3586.length : Int)])⟩, -⟩ := hf5152 [6] rfl
      have hX5152 := Evo.step hX5148 hown hE5152 rfl
      have b5152_gx1 := be_ hE5152 b5148_gx1
      have b5152_A3584 := re_ hE5152 b5148_A3584
      have b5152_mx1_1 := MpN.evo rfl hE5152 b5148_mx1_1
      have b5152_A3589 := re_ hE5152 b5148_A3589
      have b5152_g2691 := be_ hE5152 b5148_g2691
      have b5152_Al2 := RdO.evo rfl hE5152 b5148_Al2
      have b5152_mk := MkO.evo (by decide) hE5152 b5148_mk
      have b5152_g5145 := be_ hE5152 b5148_g5145
      obtain ⟨x5162, hx5162, hs⟩ := obind hs
      refine rg_draw_seq g_mixed (n := 69) (rs := [Fct.rowAt 3587 [] 80 R80 A3584 c3585 x3586, Fct.at_ 3583 gx1 tx1 #[.slice A3584 x3586.length c3585, .map (some mx1_1), .slice A3589 x3591.length c3590]]) (own0 := own5152) (K := [3587, 3583]) (bs := [0, 0, 2, 6, 14, 0, 32, 126, 255, 511, 1023]) (ds := [⟨[], [2], [], Fct.val 22 (.pointer (some ⟨gx1, 0, none⟩))⟩,     ⟨[], [2], [], Fct.val 23 (.pointer (some ⟨gx1, 0, none⟩))⟩,     ⟨[1], [], [], Fct.val 24 (.pointer (some ⟨gx1, 0, none⟩))⟩,     ⟨[2], [], [], Fct.val 25 (.pointer (some ⟨gx1, 0, none⟩))⟩,     ⟨[3, 12], [], [], Fct.val 26 (.slice A3584 x3586.length c3585)⟩,     ⟨[], [6], [], Fct.val 27 (.agg #[.int .i64 x5144.1.1, .int .i64 x5144.1.2, .int .i64 x5144.2.1, .int .i64 x5144.2.2])⟩,     ⟨[5], [], [], Fct.row 5161 [] 28 80 R80 [x5144]⟩,     ⟨[4, 6, 11], [], [3587], Fct.row 5163 [] 29 80 R80 x5162⟩,     ⟨[0], [], [], Fct.val 30 (.pointer (some ⟨gx1, 0, none⟩))⟩,     ⟨[8], [], [], Fct.val 31 (.pointer (some ⟨gx1, 0, none⟩))⟩,     ⟨[9, 7, 12], [], [3583], Fct.by_ [5165] [29] (fun l own w => ∀ (A5164 : Option Addr) (cA5164 : Nat), l.getD 0 undef = .slice A5164 x5162.length cA5164 → BlkO own 5165 w gx1 tx1 #[.slice A5164 x5162.length cA5164, .map (some mx1_1), .slice A3589 x3591.length c3590]) (fun hk he h _ _ h0' => BlkO.evo (not_hit hk (by decide)) he (h _ _ h0'))⟩]) (by kernel_rfl) hz5152 hd5152 (by simp only [List.forall_mem_cons]; exact ⟨b5152_A3584, b5152_gx1, fun _ h => nomatch h⟩) ?_ ?_
      · refine sc (fun _ _ _ _ s hE => px (or_load1 to70 (s.1.trans e5152_2) (Blk.at_ (be_ hE b5152_g2691).2 0 rfl))) ?_
        refine sc (fun _ _ _ _ s hE => px (or_load1 to70 (s.1.trans e5152_2) (Blk.at_ (be_ hE b5152_g2691).2 0 rfl))) ?_
        refine sc (fun _ _ _ f _ _ => px (or_k [(23, .pointer (some ⟨gx1, 0, none⟩))] rfl rfl ⟨f.1, trivial⟩ (by kernel_rfl))) ?_
        refine sc (fun _ _ _ f _ _ => px (or_field fo106_0 f.1 (by rfl))) ?_
        refine sc (fun own a wx hf hsl hE => ?_) ?_
        · obtain ⟨f_25, (b_gx1 : BlkO own 3583 wx gx1 tx1 #[.slice A3584 x3586.length c3585, .map (some mx1_1), .slice A3589 x3591.length c3590]), -⟩ := hf
          exact px (or_load1 to103 f_25 (Blk.at_ b_gx1.2 0 rfl))
        refine sc (fun _ _ _ _ s hE => px (or_load (l := [.int .i64 x5144.1.1, .int .i64 x5144.1.2, .int .i64 x5144.2.1, .int .i64 x5144.2.2]) ta80 (s.1.trans e5152_6) (Blk.cellsFrom (be_ hE b5152_g5145).2 0 rfl) rfl)) ?_
        refine sc (fun _ _ _ f _ _ => px (or_lit (lab := 5161) (e := 80) (cs := #[.int .i64 x5144.1.1, .int .i64 x5144.1.2, .int .i64 x5144.2.1, .int .i64 x5144.2.2]) (F := E80) (or_new [(27, .agg #[.int .i64 x5144.1.1, .int .i64 x5144.1.2, .int .i64 x5144.2.1, .int .i64 x5144.2.2])] rfl rfl ⟨f.1, trivial⟩ (by kernel_rfl)) rfl rfl (show 1 ≤ maxLen by decide))) ?_
        refine sc (fun own a wx hf hsl hE => ?_) ?_
        · obtain ⟨f_26, ⟨⟨A5160, cA5160⟩, f_28, b_A5160⟩, b_A3584, -⟩ := hf
          exact px (or_append (R := R80) (lab := 3587) (lab2 := 5163) (L := []) (L3 := []) tp103 f_26 b_A3584 (by decide) f_28 (RwO.rd b_A5160) hx5162 (by decide) (by decide) (mem_of rfl) (.inl (Rep.fl_flat _)))
        refine sc (fun _ _ _ f _ _ => px (or_k [(22, .pointer (some ⟨gx1, 0, none⟩))] rfl rfl ⟨f.1, trivial⟩ (by kernel_rfl))) ?_
        refine sc (fun _ _ _ f _ _ => px (or_field fo106_0 f.1 (by rfl))) ?_
        refine sc (fun own a wx hf hsl hE => ?_) ?_
        · obtain ⟨f_31, ⟨⟨A5164, cA5164⟩, (f_29 : a.eval (.tmp 29) = .slice A5164 x5162.length cA5164), b_A5164⟩, b_gx1, -⟩ := hf
          exact px (or_store1 (lab := 3583) (lab2 := 5165) ts103 f_31 f_29 b_gx1 (by simp) rfl (mem_of rfl) (by decide) rfl (fun own' a' w' ha hb => fun _ _ h0' => by cases (f_29.symm.trans ((ha 29).symm.trans h0')); exact hb))
        exact steps_nil
      intro own5166 a5166 w5166 hd5166 hz5166 hk5166 hf5166 hE5166
      have e5166_0 := (hk5166 0 rfl).trans e5152_0
      have e5166_2 := (hk5166 2 rfl).trans e5152_2
      have e5166_6 := (hk5166 6 rfl).trans e5152_6
      have e5166_7 := (hk5166 7 rfl).trans e5152_7
      have e5166_11 := (hk5166 11 rfl).trans e5152_11
      have e5166_12 := (hk5166 12 rfl).trans e5152_12
      have e5166_13 := (hk5166 13 rfl).trans e5152_13
      obtain ⟨⟨⟨A5164, cA5164⟩, (f_29 : a5166.eval (.tmp 29) = .slice A5164 x5162.length cA5164), (b5166_A5164 : RwO own5166 5163 [] w5166 80 R80 A5164 cA5164 x5162)⟩, (bq_gx1 : ∀ (A5164 : Option Addr) (cA5164 : Nat), a5166.eval (.tmp 29) = .slice A5164 x5162.length cA5164 → BlkO own5166 5165 w5166 gx1 tx1 #[.slice A5164 x5162.length cA5164, .map (some mx1_1), .slice A3589 x3591.length c3590]), -⟩ := hf5166 [7, 10] rfl
      have b5166_gx1 := bq_gx1 _ _ f_29
      have hX5166 := Evo.step hX5152 hown hE5166 rfl
      have b5166_mx1_1 := MpN.evo rfl hE5166 b5152_mx1_1
      have b5166_A3589 := re_ hE5166 b5152_A3589
      have b5166_g2691 := be_ hE5166 b5152_g2691
      have b5166_Al2 := RdO.evo rfl hE5166 b5152_Al2
      have b5166_mk := MkO.evo (by decide) hE5166 b5152_mk
      have b5166_g5145 := be_ hE5166 b5152_g5145
      have b5166_g5149 := be_ hE5166 b5152_g5149
      refine fl_block (fun Q5167 hn5167 hx5167 hp5167 => ?_)
      have K5268 : ∀ (a5268 : Act) (w5268 : World) (own5268 : Own) (x5262 : List ((Int × Int) × (List Int))) (x5265 : List Int) (A5263 : Option Addr) (c5264 : Nat) (Ds5267 : List Nat), a5268.defers = mkD Ds5267 → a5268.tmps.size = 69 → a5268.eval (.tmp 0) = .pointer (some ⟨gx1, 0, none⟩) → a5268.eval (.tmp 2) = .pointer (some ⟨g2691, 0, none⟩) → a5268.eval (.tmp 11) = .slice Al2 l2.length cl2 → a5268.eval (.tmp 12) = .int .i64 (l2.length : Int) → a5268.eval (.tmp 13) = .int .i64 x3593 → Evo [1, 2, 3, 4, 5] own own5268 w w5268 → BlkO own5268 5261 w5268 gx1 tx1 #[.slice A5164 x5162.length cA5164, .map (some mx1_1), .slice A5263 x5265.length c5264] → RwO own5268 5163 [] w5268 80 R80 A5164 cA5164 x5162 → MpN own5268 3 4 [] w5268 mx1_1 vv111 3 R3 x5262 → RwO own5268 5266 [] w5268 3 R3 A5263 c5264 x5265 → BlkO own5268 2692 w5268 g2691 70 #[.pointer (some ⟨gx1, 0, none⟩)] → RdO own5268 [0] w5268 R80 Al2 cl2 l2 → MkO own5268 16 w5268 Ds5267 → rows_Index_Add_k2 x3593 x5162 x5262 x5265 = some zz4479 → (Q5167 .normal a5268 w5268 ∧ Q5167 (.exit 2) a5268 w5268) := by
        intro a5268 w5268 own5268 x5262 x5265 A5263 c5264 Ds5267 hd5269 hz5269 e5269_0 e5269_2 e5269_11 e5269_12 e5269_13 hE5269 b5269_gx1 b5269_A5164 b5269_mx1_1 b5269_A5263 b5269_g2691 b5269_Al2 b5269_mk hs
        refine and_both (hn5167 _ _) (hx5167 _ _) ?_
        refine hn4924 _ _ ?_
        refine hn4484 _ _ ?_
        refine rg0 69 own5268 (bz 2) [⟨[], [13], [], Fct.val 63 (.int .i64 (ad x3593 1))⟩,     ⟨[0], [], [], Fct.val 13 (.int .i64 (ad x3593 1))⟩] hz5269 hd5269 (by kernel_rfl) ?_ ?_
        · refine sc (fun _ _ _ _ s _ => px (or_add (s.1.trans e5269_13) rfl rfl)) ?_
          refine sc (fun _ _ _ f _ _ => px (or_move f.1)) ?_
          exact steps_nil
        intro own5270 a5270 w5270 hd5270 hz5270 hk5270 hf5270 hE5270
        have e5270_0 := (hk5270 0 rfl).trans e5269_0
        have e5270_2 := (hk5270 2 rfl).trans e5269_2
        have e5270_11 := (hk5270 11 rfl).trans e5269_11
        have e5270_12 := (hk5270 12 rfl).trans e5269_12
        obtain ⟨(e5270_13 : a5270.eval (.tmp 13) = .int .i64 (ad x3593 1)), -⟩ := hf5270 [1] rfl
        have hX5270 := Evo.step hE5269 hown hE5270 rfl
        have b5270_gx1 := be_ hE5270 b5269_gx1
        have b5270_A5164 := re_ hE5270 b5269_A5164
        have b5270_mx1_1 := MpN.evo rfl hE5270 b5269_mx1_1
        have b5270_A5263 := re_ hE5270 b5269_A5263
        have b5270_g2691 := be_ hE5270 b5269_g2691
        have b5270_Al2 := RdO.evo rfl hE5270 b5269_Al2
        have b5270_mk := MkO.evo (by decide) hE5270 b5269_mk
        exact hn4479 _ _ _ hs ⟨(rl [(5163, 3587), (5261, 3583), (5266, 3592)] own5270), A5164, cA5164, A5263, c5264, Ds5267, hd5270, hz5270, e5270_0, e5270_2, e5270_11, e5270_12, e5270_13, (Evo.rl_ hX5270 hown rfl), (BlkO.rl_ (mm := [(5163, 3587), (5261, 3583), (5266, 3592)]) b5270_gx1), (RwO.rl_ (mm := [(5163, 3587), (5261, 3583), (5266, 3592)]) b5270_A5164), (MpN.rl_ (mm := [(5163, 3587), (5261, 3583), (5266, 3592)]) b5270_mx1_1), (RwO.rl_ (mm := [(5163, 3587), (5261, 3583), (5266, 3592)]) b5270_A5263), (BlkO.rl_ (mm := [(5163, 3587), (5261, 3583), (5266, 3592)]) b5270_g2691), (RdO.rl_ (mm := [(5163, 3587), (5261, 3583), (5266, 3592)]) b5270_Al2), (MkO.rl_ (mm := [(5163, 3587), (5261, 3583), (5266, 3592)]) b5270_mk)⟩
      obtain ⟨r5271, hr5271, hs⟩ := obind hs
      refine rg0_seq 69 own5166 (bz 4) [⟨[], [6], [], Fct.val 47 (.agg #[.int .i64 x5144.1.1, .int .i64 x5144.1.2, .int .i64 x5144.2.1, .int .i64 x5144.2.2])⟩,     ⟨[0], [], [], Fct.val 48 (.bool r5271)⟩,     ⟨[1], [], [], Fct.val 49 (.bool (!r5271))⟩,     ⟨[2], [], [], Fct.val 46 (.bool (!r5271))⟩] hz5166 hd5166 (by kernel_rfl) ?_ ?_
      · refine sc (fun _ _ _ _ s hE => px (or_load (l := [.int .i64 x5144.1.1, .int .i64 x5144.1.2, .int .i64 x5144.2.1, .int .i64 x5144.2.2]) ta80 (s.1.trans e5166_6) (Blk.cellsFrom (be_ hE b5166_g5145).2 0 rfl) rfl)) ?_
        refine sc (fun _ _ _ f _ _ => px (or_call cf48 (args1 f.1) (rows_Right_w _ x5144  r5271 hr5271) post_val)) ?_
        refine sc (fun _ _ _ f _ _ => px (or_not f.1 rfl)) ?_
        refine sc (fun _ _ _ f _ _ => px (or_assign f.1)) ?_
        exact steps_nil
      intro own5272 a5272 w5272 hd5272 hz5272 hk5272 hf5272 hE5272
      have e5272_0 := (hk5272 0 rfl).trans e5166_0
      have e5272_2 := (hk5272 2 rfl).trans e5166_2
      have e5272_6 := (hk5272 6 rfl).trans e5166_6
      have e5272_7 := (hk5272 7 rfl).trans e5166_7
      have e5272_11 := (hk5272 11 rfl).trans e5166_11
      have e5272_12 := (hk5272 12 rfl).trans e5166_12
      have e5272_13 := (hk5272 13 rfl).trans e5166_13
      obtain ⟨(e5272_46 : a5272.eval (.tmp 46) = .bool (!r5271)), -⟩ := hf5272 [3] rfl
      have hX5272 := Evo.step hX5166 hown hE5272 rfl
      have b5272_mx1_1 := MpN.evo rfl hE5272 b5166_mx1_1
      have b5272_A3589 := re_ hE5272 b5166_A3589
      have b5272_g2691 := be_ hE5272 b5166_g2691
      have b5272_Al2 := RdO.evo rfl hE5272 b5166_Al2
      have b5272_mk := MkO.evo (by decide) hE5272 b5166_mk
      have b5272_g5145 := be_ hE5272 b5166_g5145
      have b5272_g5149 := be_ hE5272 b5166_g5149
      have b5272_gx1 := be_ hE5272 b5166_gx1
      have b5272_A5164 := re_ hE5272 b5166_A5164
      refine fl_cond e5272_46 hs (fun c5273 hs => ?_) (fun c5273 hs => ?_)
      · refine fl_skip ?_
        exact (K5268 _ _ (rl [(3592, 5266), (5165, 5261)] own5272) _ _ A3589 c3590 Ds3594 hd5272 hz5272 e5272_0 e5272_2 e5272_11 e5272_12 e5272_13 (Evo.rl_ hX5272 hown rfl) (BlkO.rl_ (mm := [(3592, 5266), (5165, 5261)]) b5272_gx1) (RwO.rl_ (mm := [(3592, 5266), (5165, 5261)]) b5272_A5164) (MpN.rl_ (mm := [(3592, 5266), (5165, 5261)]) b5272_mx1_1) (RwO.rl_ (mm := [(3592, 5266), (5165, 5261)]) b5272_A3589) (BlkO.rl_ (mm := [(3592, 5266), (5165, 5261)]) b5272_g2691) (RdO.rl_ (mm := [(3592, 5266), (5165, 5261)]) b5272_Al2) (MkO.rl_ (mm := [(3592, 5266), (5165, 5261)]) b5272_mk) hs).1
      obtain ⟨r5274, hr5274, hs⟩ := obind hs
      refine rg0_seq 69 own5272 (bz 3) [⟨[], [6], [], Fct.val 51 (.agg #[.int .i64 x5144.1.1, .int .i64 x5144.1.2, .int .i64 x5144.2.1, .int .i64 x5144.2.2])⟩,     ⟨[0], [], [], Fct.val 52 (.bool r5274)⟩,     ⟨[1], [], [], Fct.val 50 (.bool r5274)⟩] hz5272 hd5272 (by kernel_rfl) ?_ ?_
      · refine sc (fun _ _ _ _ s hE => px (or_load (l := [.int .i64 x5144.1.1, .int .i64 x5144.1.2, .int .i64 x5144.2.1, .int .i64 x5144.2.2]) ta80 (s.1.trans e5272_6) (Blk.cellsFrom (be_ hE b5272_g5145).2 0 rfl) rfl)) ?_
        refine sc (fun _ _ _ f _ _ => px (or_call cf49 (args1 f.1) (rows_great_w _ x5144  r5274 hr5274) post_val)) ?_
        refine sc (fun _ _ _ f _ _ => px (or_assign f.1)) ?_
        exact steps_nil
      intro own5275 a5275 w5275 hd5275 hz5275 hk5275 hf5275 hE5275
      have e5275_0 := (hk5275 0 rfl).trans e5272_0
      have e5275_2 := (hk5275 2 rfl).trans e5272_2
      have e5275_6 := (hk5275 6 rfl).trans e5272_6
      have e5275_7 := (hk5275 7 rfl).trans e5272_7
      have e5275_11 := (hk5275 11 rfl).trans e5272_11
      have e5275_12 := (hk5275 12 rfl).trans e5272_12
      have e5275_13 := (hk5275 13 rfl).trans e5272_13
      obtain ⟨(e5275_50 : a5275.eval (.tmp 50) = .bool r5274), -⟩ := hf5275 [2] rfl
      have hX5275 := Evo.step hX5272 hown hE5275 rfl
      have b5275_mx1_1 := MpN.evo rfl hE5275 b5272_mx1_1
      have b5275_A3589 := re_ hE5275 b5272_A3589
      have b5275_g2691 := be_ hE5275 b5272_g2691
      have b5275_Al2 := RdO.evo rfl hE5275 b5272_Al2
      have b5275_mk := MkO.evo (by decide) hE5275 b5272_mk
      have b5275_g5145 := be_ hE5275 b5272_g5145
      have b5275_g5149 := be_ hE5275 b5272_g5149
      have b5275_gx1 := be_ hE5275 b5272_gx1
      have b5275_A5164 := re_ hE5275 b5272_A5164
      refine fl_cond e5275_50 hs (fun c5276 hs => ?_) (fun c5276 hs => ?_)
      · obtain ⟨x5286, hx5286, hs⟩ := obind hs
        refine rg_draw g_mixed (n := 69) (rs := [Fct.rowAt 3592 [] 3 R3 A3589 c3590 x3591, Fct.at_ 5165 gx1 tx1 #[.slice A5164 x5162.length cA5164, .map (some mx1_1), .slice A3589 x3591.length c3590]]) (own0 := own5275) (K := [3592, 5165]) (bs := [0, 0, 2, 6, 14, 0, 32, 126, 255, 511, 1023]) (ds := [⟨[], [2], [], Fct.val 53 (.pointer (some ⟨gx1, 0, none⟩))⟩,     ⟨[], [2], [], Fct.val 54 (.pointer (some ⟨gx1, 0, none⟩))⟩,     ⟨[1], [], [], Fct.val 55 (.pointer (some ⟨gx1, 0, none⟩))⟩,     ⟨[2], [], [], Fct.val 56 (.pointer (some ⟨gx1, 2, none⟩))⟩,     ⟨[3, 12], [], [], Fct.val 57 (.slice A3589 x3591.length c3590)⟩,     ⟨[], [7], [], Fct.val 58 (.int .i64 (x3586.length : Int))⟩,     ⟨[5], [], [], Fct.row 5285 [] 59 3 R3 [(x3586.length : Int)]⟩,     ⟨[4, 6, 11], [], [3592], Fct.row 5287 [] 60 3 R3 x5286⟩,     ⟨[0], [], [], Fct.val 61 (.pointer (some ⟨gx1, 0, none⟩))⟩,     ⟨[8], [], [], Fct.val 62 (.pointer (some ⟨gx1, 2, none⟩))⟩,     ⟨[9, 7, 12], [], [5165], Fct.by_ [5289] [60] (fun l own w => ∀ (A5288 : Option Addr) (cA5288 : Nat), l.getD 0 undef = .slice A5288 x5286.length cA5288 → BlkO own 5289 w gx1 tx1 #[.slice A5164 x5162.length cA5164, .map (some mx1_1), .slice A5288 x5286.length cA5288]) (fun hk he h _ _ h0' => BlkO.evo (not_hit hk (by decide)) he (h _ _ h0'))⟩]) (by kernel_rfl) hz5275 hd5275 (by simp only [List.forall_mem_cons]; exact ⟨b5275_A3589, b5275_gx1, fun _ h => nomatch h⟩) ?_ ?_
        · refine sc (fun _ _ _ _ s hE => px (or_load1 to70 (s.1.trans e5275_2) (Blk.at_ (be_ hE b5275_g2691).2 0 rfl))) ?_
          refine sc (fun _ _ _ _ s hE => px (or_load1 to70 (s.1.trans e5275_2) (Blk.at_ (be_ hE b5275_g2691).2 0 rfl))) ?_
          refine sc (fun _ _ _ f _ _ => px (or_k [(54, .pointer (some ⟨gx1, 0, none⟩))] rfl rfl ⟨f.1, trivial⟩ (by kernel_rfl))) ?_
          refine sc (fun _ _ _ f _ _ => px (or_field fo106_2 f.1 (by rfl))) ?_
          refine sc (fun own a wx hf hsl hE => ?_) ?_
          · obtain ⟨f_56, (b_gx1 : BlkO own 5165 wx gx1 tx1 #[.slice A5164 x5162.length cA5164, .map (some mx1_1), .slice A3589 x3591.length c3590]), -⟩ := hf
            exact px (or_load1 to22 f_56 (Blk.at_ b_gx1.2 2 rfl))
          refine sc (fun _ _ _ _ s hE => px (or_load1 to3 (s.1.trans e5275_7) (Blk.at_ (be_ hE b5275_g5149).2 0 rfl))) ?_
          refine sc (fun _ _ _ f _ _ => px (or_lit (lab := 5285) (e := 3) (cs := #[.int .i64 (x3586.length : Int)]) (F := E3) (or_new [(58, .int .i64 (x3586.length : Int))] rfl rfl ⟨f.1, trivial⟩ (by kernel_rfl)) rfl rfl (show 1 ≤ maxLen by decide))) ?_
          refine sc (fun own a wx hf hsl hE => ?_) ?_
          · obtain ⟨f_57, ⟨⟨A5284, cA5284⟩, f_59, b_A5284⟩, b_A3589, -⟩ := hf
            exact px (or_append (R := R3) (lab := 3592) (lab2 := 5287) (L := []) (L3 := []) tp22 f_57 b_A3589 (by decide) f_59 (RwO.rd b_A5284) hx5286 (by decide) (by decide) (mem_of rfl) (.inl (Rep.fl_flat _)))
          refine sc (fun _ _ _ f _ _ => px (or_k [(53, .pointer (some ⟨gx1, 0, none⟩))] rfl rfl ⟨f.1, trivial⟩ (by kernel_rfl))) ?_
          refine sc (fun _ _ _ f _ _ => px (or_field fo106_2 f.1 (by rfl))) ?_
          refine sc (fun own a wx hf hsl hE => ?_) ?_
          · obtain ⟨f_62, ⟨⟨A5288, cA5288⟩, (f_60 : a.eval (.tmp 60) = .slice A5288 x5286.length cA5288), b_A5288⟩, b_gx1, -⟩ := hf
            exact px (or_store1 (lab := 5165) (lab2 := 5289) ts22 f_62 f_60 b_gx1 (by simp) rfl (mem_of rfl) (by decide) rfl (fun own' a' w' ha hb => fun _ _ h0' => by cases (f_60.symm.trans ((ha 60).symm.trans h0')); exact hb))
          exact steps_nil
        intro own5290 a5290 w5290 hd5290 hz5290 hk5290 hf5290 hE5290
        have e5290_0 := (hk5290 0 rfl).trans e5275_0
        have e5290_2 := (hk5290 2 rfl).trans e5275_2
        have e5290_11 := (hk5290 11 rfl).trans e5275_11
        have e5290_12 := (hk5290 12 rfl).trans e5275_12
        have e5290_13 := (hk5290 13 rfl).trans e5275_13
        obtain ⟨⟨⟨A5288, cA5288⟩, (f_60 : a5290.eval (.tmp 60) = .slice A5288 x5286.length cA5288), (b5290_A5288 : RwO own5290 5287 [] w5290 3 R3 A5288 cA5288 x5286)⟩, (bq_gx1 : ∀ (A5288 : Option Addr) (cA5288 : Nat), a5290.eval (.tmp 60) = .slice A5288 x5286.length cA5288 → BlkO own5290 5289 w5290 gx1 tx1 #[.slice A5164 x5162.length cA5164, .map (some mx1_1), .slice A5288 x5286.length cA5288]), -⟩ := hf5290 [7, 10] rfl
        have b5290_gx1 := bq_gx1 _ _ f_60
        have hX5290 := Evo.step hX5275 hown hE5290 rfl
        have b5290_mx1_1 := MpN.evo rfl hE5290 b5275_mx1_1
        have b5290_g2691 := be_ hE5290 b5275_g2691
        have b5290_Al2 := RdO.evo rfl hE5290 b5275_Al2
        have b5290_mk := MkO.evo (by decide) hE5290 b5275_mk
        have b5290_A5164 := re_ hE5290 b5275_A5164
        exact (K5268 _ _ (rl [(5287, 5266), (5289, 5261)] own5290) _ _ A5288 cA5288 Ds3594 hd5290 hz5290 e5290_0 e5290_2 e5290_11 e5290_12 e5290_13 (Evo.rl_ hX5290 hown rfl) (BlkO.rl_ (mm := [(5287, 5266), (5289, 5261)]) b5290_gx1) (RwO.rl_ (mm := [(5287, 5266), (5289, 5261)]) b5290_A5164) (MpN.rl_ (mm := [(5287, 5266), (5289, 5261)]) b5290_mx1_1) (RwO.rl_ (mm := [(5287, 5266), (5289, 5261)]) b5290_A5288) (BlkO.rl_ (mm := [(5287, 5266), (5289, 5261)]) b5290_g2691) (RdO.rl_ (mm := [(5287, 5266), (5289, 5261)]) b5290_Al2) (MkO.rl_ (mm := [(5287, 5266), (5289, 5261)]) b5290_mk) hs).1
      refine rg0_seq 69 own5275 (bz 2) [⟨[], [6], [], Fct.val 32 (.agg #[.int .i64 x5144.1.1, .int .i64 x5144.1.2, .int .i64 x5144.2.1, .int .i64 x5144.2.2])⟩,     ⟨[0], [], [], Fct.mems [5292] 33 (fun (x : Option Addr × Nat) => .func (.func 64) #[] #[.pointer (some ⟨x.2, 0, none⟩)]) (fun (x : Option Addr × Nat) own w => BlkO own 5292 w x.2 80 #[.int .i64 x5144.1.1, .int .i64 x5144.1.2, .int .i64 x5144.2.1, .int .i64 x5144.2.2]) (fun hk he h => BlkO.evo (not_hit hk (by decide)) he h)⟩] hz5275 hd5275 (by kernel_rfl) ?_ ?_
      · refine sc (fun _ _ _ _ s hE => px (or_load (l := [.int .i64 x5144.1.1, .int .i64 x5144.1.2, .int .i64 x5144.2.1, .int .i64 x5144.2.2]) ta80 (s.1.trans e5275_6) (Blk.cellsFrom (be_ hE b5275_g5145).2 0 rfl) rfl)) ?_
        refine sc (fun _ _ _ f _ _ => px (or_call cf50 (args1 f.1) (rows_fields_w _ x5144  () rfl) (post_mems (m := (fun _ => 0)) (m' := (look0 [(1, 5292)])) (fun _ _ => .inl rfl) (fun own' w' a' x h1 h => ⟨x, h1, BlkO.back_ h (by decide)⟩)))) ?_
        exact steps_nil
      intro own5293 a5293 w5293 hd5293 hz5293 hk5293 hf5293 hE5293
      have e5293_0 := (hk5293 0 rfl).trans e5275_0
      have e5293_2 := (hk5293 2 rfl).trans e5275_2
      have e5293_7 := (hk5293 7 rfl).trans e5275_7
      have e5293_11 := (hk5293 11 rfl).trans e5275_11
      have e5293_12 := (hk5293 12 rfl).trans e5275_12
      have e5293_13 := (hk5293 13 rfl).trans e5275_13
      obtain ⟨⟨⟨A5291, cA5291⟩, (e5293_33 : a5293.eval (.tmp 33) = .func (.func 64) #[] #[.pointer (some ⟨cA5291, 0, none⟩)]), (b5293_cA5291 : BlkO own5293 5292 w5293 cA5291 80 #[.int .i64 x5144.1.1, .int .i64 x5144.1.2, .int .i64 x5144.2.1, .int .i64 x5144.2.2])⟩, -⟩ := hf5293 [1] rfl
      have hX5293 := Evo.step hX5275 hown hE5293 rfl
      have b5293_mx1_1 := MpN.evo rfl hE5293 b5275_mx1_1
      have b5293_A3589 := re_ hE5293 b5275_A3589
      have b5293_g2691 := be_ hE5293 b5275_g2691
      have b5293_Al2 := RdO.evo rfl hE5293 b5275_Al2
      have b5293_mk := MkO.evo (by decide) hE5293 b5275_mk
      have b5293_g5149 := be_ hE5293 b5275_g5149
      have b5293_gx1 := be_ hE5293 b5275_gx1
      have b5293_A5164 := re_ hE5293 b5275_A5164
      refine fl_block (fun Q5294 hn5294 hx5294 hp5294 => ?_)
      obtain ⟨zz5338, hzz5338, hs⟩ := rngO_some hs
      refine fl_range (S := List ((Int × Int) × (List Int))) (D := Empty) (X := (Int × Int)) (encs := (fun (x : (Int × Int)) => #[.agg #[.int .i64 x.1, .int .i64 x.2]])) (n := 69) [3, 4, 5345, 5356, 5358, 5361] 5339 16 rfl
          (fun (x5316 : List ((Int × Int) × (List Int))) (ox : Own) (wx : World) => Evo [1, 2, 3, 4, 5] own ox w wx ∧ BlkO ox 5165 wx gx1 tx1 #[.slice A5164 x5162.length cA5164, .map (some mx1_1), .slice A3589 x3591.length c3590] ∧ RwO ox 5163 [] wx 80 R80 A5164 cA5164 x5162 ∧ MpN ox 3 4 [] wx mx1_1 vv111 3 R3 x5316 ∧ RwO ox 3592 [] wx 3 R3 A3589 c3590 x3591 ∧ BlkO ox 2692 wx g2691 70 #[.pointer (some ⟨gx1, 0, none⟩)] ∧ BlkO ox 5151 wx g5149 3 #[.int .i64 (x3586.length : Int)] ∧ RdO ox [0] wx R80 Al2 cl2 l2 ∧ BlkO ox 5292 wx cA5291 80 #[.int .i64 x5144.1.1, .int .i64 x5144.1.2, .int .i64 x5144.2.1, .int .i64 x5144.2.2])
          (fun (e : Empty) (_ : Own) (_ : World) => nomatch e)
          (fun (e : Empty) => nomatch e) (fun (sr : List ((Int × Int) × (List Int))) (xr : (Int × Int)) => rows_Index_Add_b3 x3586 sr xr) hz5293 rfl e5293_33 cf64 (cargs := fun l => #[.func (.yield l) #[] #[], .pointer (some ⟨cA5291, 0, none⟩)]) (fun _ => by simp) (fun _ => rfl) hd5293 b5293_mk ?_ ?_ x3588 zz5338 ⟨hX5293, b5293_gx1, b5293_A5164, b5293_mx1_1, b5293_A3589, b5293_g2691, b5293_g5149, b5293_Al2, b5293_cA5291⟩ ?_ ?_ ?_ ?_
      · rintro x5316 ox ox1 wx wx1 hEs ⟨h5338_0, h5338_1, h5338_2, h5338_3, h5338_4, h5338_5, h5338_6, h5338_7, h5338_8⟩
        exact ⟨(Evo.step h5338_0 hown hEs rfl), (be_ hEs h5338_1), (re_ hEs h5338_2), (MpN.evo rfl hEs h5338_3), (re_ hEs h5338_4), (be_ hEs h5338_5), (be_ hEs h5338_6), (RdO.evo rfl hEs h5338_7), (be_ hEs h5338_8)⟩
      · intro e; exact nomatch e
      · intro l5338 own1 w1 J5338 hE1 hJ1 hR1
        exact (rows_fields_1_w w1 (forth own1 (look0 (kj 5339 [3, 4, 5345, 5356, 5358, 5361]))) ((List ((Int × Int) × (List Int))) ⊕ Empty) (yb (fun (sr : List ((Int × Int) × (List Int))) (xr : (Int × Int)) => rows_Index_Add_b3 x3586 sr xr)) J5338 l5338 (Sum.inl x3588) x5144 cA5291 80 (look0_le rfl) hR1 hJ1 (BlkO.forth_ (be_ hE1 b5293_cA5291)) zz5338 hzz5338).mono fun e wz ⟨oz, he, _, hJz⟩ => ⟨_, oz, he, hJz⟩
      · rintro l5342 x5316 x5341 zz2 own5342 a5342 w5342 Ds5342 ⟨hE5343, b5343_gx1, b5343_A5164, b5343_mx1_1, b5343_A3589, b5343_g2691, b5343_g5149, b5343_Al2, b5343_cA5291⟩ - hrc5342 hs ⟨hd5342, hz5342, hkp5342, hpar5342⟩ Q5342 hn5342
        have hs : rows_Index_Add_b3 x3586 x5316 x5341 = some zz2 := hs
        replace hz5342 := hz5342.trans hz5293
        have e5342_0 : a5342.eval (.tmp 0) = .pointer (some ⟨gx1, 0, none⟩) := (hkp5342 0 rfl).trans e5293_0
        have e5342_2 : a5342.eval (.tmp 2) = .pointer (some ⟨g2691, 0, none⟩) := (hkp5342 2 rfl).trans e5293_2
        have e5342_7 : a5342.eval (.tmp 7) = .pointer (some ⟨g5149, 0, none⟩) := (hkp5342 7 rfl).trans e5293_7
        have e5342_11 : a5342.eval (.tmp 11) = .slice Al2 l2.length cl2 := (hkp5342 11 rfl).trans e5293_11
        have e5342_12 : a5342.eval (.tmp 12) = .int .i64 (l2.length : Int) := (hkp5342 12 rfl).trans e5293_12
        have e5342_13 : a5342.eval (.tmp 13) = .int .i64 x3593 := (hkp5342 13 rfl).trans e5293_13
        have e5342_33 : a5342.eval (.tmp 33) = .func (.func 64) #[] #[.pointer (some ⟨cA5291, 0, none⟩)] := (hkp5342 33 rfl).trans e5293_33
        have e5342_34 : a5342.eval (.tmp 34) = .agg #[.int .i64 x5341.1, .int .i64 x5341.2] := hpar5342 0 34 _ rfl rfl
        have hE5342 := Evo.refl [3, 4, 5345, 5356, 5358, 5361] own5342 w5342
        have hrc0_5342 := hrc5342
        refine rg_plain (n := 69) (rs := []) (own0 := own5342) (K := [5345]) (bs := (bz 2)) (ds := [⟨[], [], [], Fct.blk 5345 8 (fun g => .pointer (some ⟨g, 0, none⟩)) 111 #[.int .i64 0, .int .i64 0]⟩,     ⟨[0], [34], [5345], Fct.blk 5346 8 (fun g => .pointer (some ⟨g, 0, none⟩)) 111 #[.int .i64 x5341.1, .int .i64 x5341.2]⟩]) (by kernel_rfl) hz5342 hd5342 nm_ ?_ ?_
        · refine sc (fun _ _ _ _ _ _ => px (or_new [] rfl rfl trivial (by kernel_rfl))) ?_
          refine sc (fun own a wx hf hsl hE => ?_) ?_
          · obtain ⟨⟨g5344, f_8, b_g5344⟩, -⟩ := hf
            obtain ⟨s_34, -⟩ := hsl
            exact px (or_store (l := #[.int .i64 x5341.1, .int .i64 x5341.2]) (lab := 5345) (lab2 := 5346) ts111 f_8 (s_34.trans e5342_34) b_g5344 (by simp) (by kernel_rfl) (mem_of rfl) (by decide) (by kernel_rfl) (fun own' a' w' ha hb => ⟨_, (ha 8).trans f_8, hb⟩))
          exact steps_nil
        intro own5347 a5347 w5347 hd5347 hz5347 hk5347 hf5347 hE5347
        have e5347_0 := (hk5347 0 rfl).trans e5342_0
        have e5347_2 := (hk5347 2 rfl).trans e5342_2
        have e5347_7 := (hk5347 7 rfl).trans e5342_7
        have e5347_11 := (hk5347 11 rfl).trans e5342_11
        have e5347_12 := (hk5347 12 rfl).trans e5342_12
        have e5347_13 := (hk5347 13 rfl).trans e5342_13
        have e5347_33 := (hk5347 33 rfl).trans e5342_33
        obtain ⟨⟨g5344, (e5347_8 : a5347.eval (.tmp 8) = .pointer (some ⟨g5344, 0, none⟩)), (b5347_g5344 : BlkO own5347 5346 w5347 g5344 111 #[.int .i64 x5341.1, .int .i64 x5341.2])⟩, -⟩ := hf5347 [1] rfl
        have hX5347 := Evo.stepK hE5342 hE5347 rfl
        have b5347_gx1 := be_ hE5347 b5343_gx1
        have b5347_A5164 := re_ hE5347 b5343_A5164
        have b5347_mx1_1 := MpN.evo rfl hE5347 b5343_mx1_1
        have b5347_A3589 := re_ hE5347 b5343_A3589
        have b5347_g2691 := be_ hE5347 b5343_g2691
        have b5347_g5149 := be_ hE5347 b5343_g5149
        have b5347_Al2 := RdO.evo rfl hE5347 b5343_Al2
        have b5347_cA5291 := be_ hE5347 b5343_cA5291
        refine hn5342 _ _ _ hX5347 (fun w5348 own5348 hE5348 hrc5348 => ?_)
        have b5348_gx1 := be_ hE5348 b5347_gx1
        have b5348_A5164 := re_ hE5348 b5347_A5164
        have b5348_mx1_1 := MpN.evo rfl hE5348 b5347_mx1_1
        have b5348_A3589 := re_ hE5348 b5347_A3589
        have b5348_g2691 := be_ hE5348 b5347_g2691
        have b5348_g5149 := be_ hE5348 b5347_g5149
        have b5348_Al2 := RdO.evo rfl hE5348 b5347_Al2
        have b5348_cA5291 := be_ hE5348 b5347_cA5291
        have b5348_g5344 := be_ hE5348 b5347_g5344
        have hU5348 := Evo.step (Evo.step hE5343 hown hX5347 rfl) hown hE5348 rfl
        have hX5348 := Evo.refl [3, 4, 5345, 5356, 5358, 5361] own5348 w5348
        have hmk5348 : MkO own5348 16 w5348 [] := MkO.nil_
        refine fl_block (fun Q5349 hn5349 hx5349 hp5349 => ?_)
        obtain ⟨x5357, hx5357, hs⟩ := obind hs
        obtain ⟨D5360, hD5360, hs⟩ := obind hs
        obtain ⟨ys5352, Dv5352, hM5352, hK5352, hL5352⟩ := b5348_mx1_1
        refine rg_draw g_mixed (n := 69) (rs := [Fct.mapAt 3 mx1_1 vv111 (fun v : Value => v) Dv5352, Fct.elsAt 4 [] 3 R3 x5316 ys5352 Dv5352]) (own0 := own5348) (K := [3, 4, 5356]) (bs := [0, 1, 3, 7, 0, 0, 32, 127, 255, 511, 255, 2047]) (ds := [⟨[], [2], [], Fct.val 35 (.pointer (some ⟨gx1, 0, none⟩))⟩,     ⟨[0], [], [], Fct.val 36 (.pointer (some ⟨gx1, 0, none⟩))⟩,     ⟨[1], [], [], Fct.val 37 (.pointer (some ⟨gx1, 1, none⟩))⟩,     ⟨[2], [], [], Fct.val 38 (.map (some mx1_1))⟩,     ⟨[], [8], [], Fct.val 39 (.agg #[.int .i64 x5341.1, .int .i64 x5341.2])⟩,     ⟨[], [7], [], Fct.val 41 (.int .i64 (x3586.length : Int))⟩,     ⟨[5], [], [], Fct.row 5354 [] 42 3 R3 [(x3586.length : Int)]⟩,     ⟨[3, 4, 12, 13], [], [3], Fct.ment 5356 43 mx1_1 vv111 Dv5352 x5341 ys5352 ((lkM x5316 x5341).getD [])⟩,     ⟨[7], [], [], Fct.rel [40, 43] (fun l => ∀ (A5355 : Option Addr) (cA5355 : Nat) (bA5355 : Nat), l.getD 1 undef = .tuple #[.slice A5355 ((lkM x5316 x5341).getD []).length cA5355, .int .i64 (bA5355 : Int)] → l.getD 0 undef = .slice A5355 ((lkM x5316 x5341).getD []).length cA5355)⟩,     ⟨[8, 7, 6, 13], [], [4], Fct.mhole 5358 [] 44 3 R3 x5316 Dv5352 x5341 x5357⟩,     ⟨[7], [], [], Fct.rel [45, 43] (fun l => ∀ (A5355 : Option Addr) (cA5355 : Nat) (bA5355 : Nat), l.getD 1 undef = .tuple #[.slice A5355 ((lkM x5316 x5341).getD []).length cA5355, .int .i64 (bA5355 : Int)] → l.getD 0 undef = .int .i64 (bA5355 : Int))⟩,     ⟨[3, 10, 7, 9], [], [5356], Fct.mapnAt 5361 5358 [] mx1_1 vv111 3 R3 D5360⟩]) (by kernel_rfl) hz5347 hd5347 (by simp only [List.forall_mem_cons]; exact ⟨hM5352, hL5352, fun _ h => nomatch h⟩) ?_ ?_
        · refine sc (fun _ _ _ _ s hE => px (or_load1 to70 (s.1.trans e5347_2) (Blk.at_ (be_ hE b5348_g2691).2 0 rfl))) ?_
          refine sc (fun _ _ _ f _ _ => px (or_k [(35, .pointer (some ⟨gx1, 0, none⟩))] rfl rfl ⟨f.1, trivial⟩ (by kernel_rfl))) ?_
          refine sc (fun _ _ _ f _ _ => px (or_field fo106_1 f.1 (by rfl))) ?_
          refine sc (fun _ _ _ f _ hE => px (or_load1 to104 f.1 (Blk.at_ (be_ hE b5348_gx1).2 1 rfl))) ?_
          refine sc (fun _ _ _ _ s hE => px (or_load (l := [.int .i64 x5341.1, .int .i64 x5341.2]) ta111 (s.1.trans e5347_8) (Blk.cellsFrom (be_ hE b5348_g5344).2 0 rfl) rfl)) ?_
          refine sc (fun _ _ _ _ s hE => px (or_load1 to3 (s.1.trans e5347_7) (Blk.at_ (be_ hE b5348_g5149).2 0 rfl))) ?_
          refine sc (fun _ _ _ f _ _ => px (or_lit (lab := 5354) (e := 3) (cs := #[.int .i64 (x3586.length : Int)]) (F := E3) (or_new [(41, .int .i64 (x3586.length : Int))] rfl rfl ⟨f.1, trivial⟩ (by kernel_rfl)) rfl rfl (show 1 ≤ maxLen by decide))) ?_
          refine sc (fun own a wx hf hsl hE => ?_) ?_
          · obtain ⟨f_38, f_39, b_mvmx1_1, b_elmx1_1, -⟩ := hf
            exact px (or_mborrow (lab := 3) (lab2 := 5356) (k := x5341) ko111 tm104 tzv104 f_38 f_39 b_mvmx1_1 hK5352 b_elmx1_1 rfl (mem_of rfl) (by decide))
          refine sc (fun own a wx hf hsl hE => ?_) ?_
          · obtain ⟨⟨⟨⟨A5355, cA5355⟩, bA5355⟩, (f_43 : a.eval (.tmp 43) = .tuple #[.slice A5355 ((lkM x5316 x5341).getD []).length cA5355, .int .i64 (bA5355 : Int)]), b_A5355⟩, -⟩ := hf
            exact px (or_mono (f := Fct.val 40 (.slice A5355 ((lkM x5316 x5341).getD []).length cA5355)) (or_k [(43, .tuple #[.slice A5355 ((lkM x5316 x5341).getD []).length cA5355, .int .i64 (bA5355 : Int)])] rfl rfl ⟨f_43, trivial⟩ (by kernel_rfl)) (fun own' a' w' v' hp h => fun _ _ _ h0' => by cases (f_43.symm.trans ((hp.2 43 (by decide)).symm.trans h0')); exact h))
          refine sc (fun own a wx hf hsl hE => ?_) ?_
          · obtain ⟨(q_40 : ∀ (A5355 : Option Addr) (cA5355 : Nat) (bA5355 : Nat), a.eval (.tmp 43) = .tuple #[.slice A5355 ((lkM x5316 x5341).getD []).length cA5355, .int .i64 (bA5355 : Int)] → a.eval (.tmp 40) = .slice A5355 ((lkM x5316 x5341).getD []).length cA5355), ⟨⟨⟨A5355, cA5355⟩, bA5355⟩, f_43, b_A5355⟩, ⟨⟨A5353, cA5353⟩, f_42, b_A5353⟩, b_elmx1_1, -⟩ := hf
            have f_40 := q_40 _ _ _ f_43
            exact px (or_mgrow (R := R3) (lab := 5356) (labE := 4) (lab2 := 5358) (L := []) (L3 := []) (y := ((A5355, cA5355), bA5355)) tp22 f_40 b_A5355 hK5352 b_elmx1_1 rfl f_42 (RwO.rd b_A5353) hx5357 (by decide) (by decide) (by decide) (mem_of rfl) rfl rfl (by decide) (.inl (Rep.fl_flat _)))
          refine sc (fun own a wx hf hsl hE => ?_) ?_
          · obtain ⟨⟨⟨⟨A5355, cA5355⟩, bA5355⟩, (f_43 : a.eval (.tmp 43) = .tuple #[.slice A5355 ((lkM x5316 x5341).getD []).length cA5355, .int .i64 (bA5355 : Int)]), b_A5355⟩, -⟩ := hf
            exact px (or_mono (f := Fct.val 45 (.int .i64 (bA5355 : Int))) (or_k [(43, .tuple #[.slice A5355 ((lkM x5316 x5341).getD []).length cA5355, .int .i64 (bA5355 : Int)])] rfl rfl ⟨f_43, trivial⟩ (by kernel_rfl)) (fun own' a' w' v' hp h => fun _ _ _ h0' => by cases (f_43.symm.trans ((hp.2 43 (by decide)).symm.trans h0')); exact h))
          refine sc (fun own a wx hf hsl hE => ?_) ?_
          · obtain ⟨f_38, (q_45 : ∀ (A5355 : Option Addr) (cA5355 : Nat) (bA5355 : Nat), a.eval (.tmp 43) = .tuple #[.slice A5355 ((lkM x5316 x5341).getD []).length cA5355, .int .i64 (bA5355 : Int)] → a.eval (.tmp 45) = .int .i64 (bA5355 : Int)), ⟨⟨⟨A5355, cA5355⟩, bA5355⟩, f_43, b_A5355⟩, ⟨⟨⟨A5359, cA5359⟩, zs5359⟩, f_44, b_A5359⟩, -⟩ := hf
            have f_45 := q_45 _ _ _ f_43
            exact px (or_mput (R := R3) (lab := 5356) (lab2 := 5361) (labE := 5358) (L := []) (k := x5341) (y := ((A5355, cA5355), bA5355)) (z := (A5359, cA5359)) f_38 f_45 f_44 hK5352 b_A5355 b_A5359 (osome hD5360).symm (mem_of rfl) (by decide) rfl (fun own' a' w' hb => hb))
          exact steps_nil
        intro own5362 a5362 w5362 hd5362 hz5362 hk5362 hf5362 hE5362
        have e5362_0 := (hk5362 0 rfl).trans e5347_0
        have e5362_2 := (hk5362 2 rfl).trans e5347_2
        have e5362_7 := (hk5362 7 rfl).trans e5347_7
        have e5362_11 := (hk5362 11 rfl).trans e5347_11
        have e5362_12 := (hk5362 12 rfl).trans e5347_12
        have e5362_13 := (hk5362 13 rfl).trans e5347_13
        have e5362_33 := (hk5362 33 rfl).trans e5347_33
        obtain ⟨(b5362_mx1_1 : MpN own5362 5361 5358 [] w5362 mx1_1 vv111 3 R3 D5360), -⟩ := hf5362 [11] rfl
        have hX5362 := Evo.stepK hX5348 hE5362 rfl
        have b5362_gx1 := be_ hE5362 b5348_gx1
        have b5362_A5164 := re_ hE5362 b5348_A5164
        have b5362_A3589 := re_ hE5362 b5348_A3589
        have b5362_g2691 := be_ hE5362 b5348_g2691
        have b5362_g5149 := be_ hE5362 b5348_g5149
        have b5362_Al2 := RdO.evo rfl hE5362 b5348_Al2
        have b5362_cA5291 := be_ hE5362 b5348_cA5291
        have b5362_rc := RcO.evo (by decide) hE5362 hrc5348
        have b5362_mk := MkO.evo (by decide) hE5362 hmk5348
        refine hn5349 _ _ ?_
        exact ⟨_, (rl [(5358, 4), (5361, 3)] own5362), osome hs, (Evo.rlK hX5362 rfl), (Evo.step hU5348 hown (Evo.rlK hX5362 rfl) rfl), (BlkO.rl_ (mm := [(5358, 4), (5361, 3)]) b5362_gx1), (RwO.rl_ (mm := [(5358, 4), (5361, 3)]) b5362_A5164), (MpN.rl_ (mm := [(5358, 4), (5361, 3)]) b5362_mx1_1), (RwO.rl_ (mm := [(5358, 4), (5361, 3)]) b5362_A3589), (BlkO.rl_ (mm := [(5358, 4), (5361, 3)]) b5362_g2691), (BlkO.rl_ (mm := [(5358, 4), (5361, 3)]) b5362_g5149), (RdO.rl_ (mm := [(5358, 4), (5361, 3)]) b5362_Al2), (BlkO.rl_ (mm := [(5358, 4), (5361, 3)]) b5362_cA5291)⟩
      · rintro x5316 a5363 own5363 w5363 Ds5363 hzz5363 hd5363 hz5363 hkp5363 hmk5363 ⟨hE5363, b5363_gx1, b5363_A5164, b5363_mx1_1, b5363_A3589, b5363_g2691, b5363_g5149, b5363_Al2, b5363_cA5291⟩
        subst hzz5363
        have hs : rows_Index_Add_b4 x3591 x3593 x5162 x5316 = some zz4479 := hs
        have e5363_0 : a5363.eval (.tmp 0) = .pointer (some ⟨gx1, 0, none⟩) := (hkp5363 0).trans e5293_0
        have e5363_2 : a5363.eval (.tmp 2) = .pointer (some ⟨g2691, 0, none⟩) := (hkp5363 2).trans e5293_2
        have e5363_7 : a5363.eval (.tmp 7) = .pointer (some ⟨g5149, 0, none⟩) := (hkp5363 7).trans e5293_7
        have e5363_11 : a5363.eval (.tmp 11) = .slice Al2 l2.length cl2 := (hkp5363 11).trans e5293_11
        have e5363_12 : a5363.eval (.tmp 12) = .int .i64 (l2.length : Int) := (hkp5363 12).trans e5293_12
        have e5363_13 : a5363.eval (.tmp 13) = .int .i64 x3593 := (hkp5363 13).trans e5293_13
        have e5363_33 : a5363.eval (.tmp 33) = .func (.func 64) #[] #[.pointer (some ⟨cA5291, 0, none⟩)] := (hkp5363 33).trans e5293_33
        refine hn5294 _ _ ?_
        exact (K5268 _ _ (rl [(3592, 5266), (5165, 5261)] own5363) _ _ A3589 c3590 Ds5363 hd5363 hz5363 e5363_0 e5363_2 e5363_11 e5363_12 e5363_13 (Evo.rl_ hE5363 hown rfl) (BlkO.rl_ (mm := [(3592, 5266), (5165, 5261)]) b5363_gx1) (RwO.rl_ (mm := [(3592, 5266), (5165, 5261)]) b5363_A5164) (MpN.rl_ (mm := [(3592, 5266), (5165, 5261)]) b5363_mx1_1) (RwO.rl_ (mm := [(3592, 5266), (5165, 5261)]) b5363_A3589) (BlkO.rl_ (mm := [(3592, 5266), (5165, 5261)]) b5363_g2691) (RdO.rl_ (mm := [(3592, 5266), (5165, 5261)]) b5363_Al2) (MkO.rl_ (mm := [(3592, 5266), (5165, 5261)]) hmk5363) hs).1
      · intro e; exact nomatch e
    refine fl_exit ?_
    refine hp4482 _ _ _ rfl ?_
    replace hs := hz4479 _ hs
    refine hp4479 _ _ _ rfl ?_
    refine hx2698 _ _ ?_
    refine hn2696 _ _ ?_
    refine rg0_seq 69 own4481 (bz 6) [⟨[], [2], [], Fct.val 64 (.pointer (some ⟨gx1, 0, none⟩))⟩,     ⟨[0], [], [], Fct.val 65 (.pointer (some ⟨gx1, 0, none⟩))⟩,     ⟨[1], [], [], Fct.val 66 (.pointer (some ⟨gx1, 0, none⟩))⟩,     ⟨[2], [], [], Fct.val 67 (.slice A3584 x3586.length c3585)⟩,     ⟨[3], [], [], Fct.val 68 (.int .i64 (x3586.length : Int))⟩,     ⟨[4], [], [], Fct.val 4 (.int .i64 (x3586.length : Int))⟩] hz4481 hd4481 (by kernel_rfl) ?_ ?_
    · refine sc (fun _ _ _ _ s hE => px (or_load1 to70 (s.1.trans e4481_2) (Blk.at_ (be_ hE b4481_g2691).2 0 rfl))) ?_
      refine sc (fun _ _ _ f _ _ => px (or_k [(64, .pointer (some ⟨gx1, 0, none⟩))] rfl rfl ⟨f.1, trivial⟩ (by kernel_rfl))) ?_
      refine sc (fun _ _ _ f _ _ => px (or_field fo106_0 f.1 (by rfl))) ?_
      refine sc (fun _ _ _ f _ hE => px (or_load1 to103 f.1 (Blk.at_ (be_ hE b4481_gx1).2 0 rfl))) ?_
      refine sc (fun _ _ _ f _ _ => px (or_len tu103 f.1 rfl)) ?_
      refine sc (fun _ _ _ f _ _ => px (or_assign f.1)) ?_
      exact steps_nil
    intro own5364 a5364 w5364 hd5364 hz5364 hk5364 hf5364 hE5364
    have e5364_0 := (hk5364 0 rfl).trans e4481_0
    obtain ⟨(e5364_4 : a5364.eval (.tmp 4) = .int .i64 (x3586.length : Int)), -⟩ := hf5364 [5] rfl
    have hX5364 := Evo.step hX4481 hown hE5364 rfl
    have b5364_gx1 := be_ hE5364 b4481_gx1
    have b5364_A3584 := re_ hE5364 b4481_A3584
    have b5364_mx1_1 := MpN.evo rfl hE5364 b4481_mx1_1
    have b5364_A3589 := re_ hE5364 b4481_A3589
    have b5364_mk := MkO.evo (by decide) hE5364 b4481_mk
    refine fl_ret ?_
    refine hret _ _ _ _ _ (.inl rfl) hd5364 b5364_mk (fun own5365 w5365 hE5365 => ?_)
    have hX5366 := Evo.step hX5364 hown hE5365 rfl
    have b5366_gx1 := be_ hE5365 b5364_gx1
    have b5366_A3584 := re_ hE5365 b5364_A3584
    have b5366_mx1_1 := MpN.evo rfl hE5365 b5364_mx1_1
    have b5366_A3589 := re_ hE5365 b5364_A3589
    obtain rfl := osome hs
    exact ⟨_, results1_ rfl (RVal.tmp_ e5364_4), ⟨(rl [(3583, 1), (3587, 2), (3592, 5)] own5365), ((A3584, c3585), (A3589, c3590)), rfl, (Evo.rl_ hX5366 hown rfl), (RwO.rl_ (mm := [(3583, 1), (3587, 2), (3592, 5)]) b5366_A3584), (MpN.rl_ (mm := [(3583, 1), (3587, 2), (3592, 5)]) b5366_mx1_1), (RwO.rl_ (mm := [(3583, 1), (3587, 2), (3592, 5)]) b5366_A3589), (BlkO.rl_ (mm := [(3583, 1), (3587, 2), (3592, 5)]) b5366_gx1)⟩⟩
theorem rows_New_w (w : World) (l1 : List ((Int × Int) × (Int × Int))) (Al1 : Option Addr) (cl1 : Nat) (hl1 : RdO (fun _ => 0) [0] w R80 Al1 cl1 l1) (r : (List ((Int × Int) × (Int × Int))) × (List ((Int × Int) × (List Int))) × (List Int)) (hs : rows_New l1 = some r) :
    Calls Try.prog 28 #[.slice Al1 l1.length cl1] w fun e w' => ∃ (own' : Own) (x : (Option Addr × Nat) × (Option Addr × Nat) × (Option Addr × Nat) × (Option Addr × Nat)), e = .returned (.pointer (some ⟨x.1.2, 0, none⟩)) ∧ Evo [] (fun _ => 0) own' w w' ∧ RwO own' 2 [] w' 80 R80 x.2.1.1 x.2.1.2 r.1 ∧ MpN own' 3 4 [] w' x.2.2.1.2 vv111 3 R3 r.2.1 ∧ RwO own' 5 [] w' 3 R3 x.2.2.2.1 x.2.2.2.2 r.2.2 ∧ BlkO own' 1 w' x.1.2 106 #[.slice x.2.1.1 r.1.length x.2.1.2, .map (some x.2.2.1.2), .slice x.2.2.2.1 r.2.2.length x.2.2.2.2] := by
  refine fl_enter (n := 11) rfl rfl rfl (Nat.le_of_ble_eq_true rfl) ?_
  intro a0 Q hd0 hz0 harg hret
  have ha0 := harg 0 _ rfl
  clear harg
  have hE0 : Evo [] (fun _ => 0) (fun _ => 0) w w := Evo.refl _ _ _
  refine rg0_seq 11 (fun _ => 0) (bz 1) [⟨[], [], [], Fct.val 2 (.pointer none)⟩] hz0 hd0 (by kernel_rfl) ?_ ?_
  · refine sc (fun _ _ _ _ _ _ => px (or_assign rfl)) ?_
    exact steps_nil
  intro own28 a28 w28 hd28 hz28 hk28 hf28 hE28
  have e28_0 := (hk28 0 rfl).trans ha0
  have hX28 := es_ hE0 hE28
  have b28_Al1 := RdO.evo rfl hE28 hl1
  refine rg0_seq 11 own28 (bz 4) [⟨[], [], [], Fct.mapn_ 30 31 [] 4 vv111 3 R3 ([] : List ((Int × Int) × (List Int)))⟩,     ⟨[0], [], [], Fct.rel [5, 4] (fun l => ∀ (g29 : Nat), l.getD 1 undef = .map (some g29) → l.getD 0 undef = .agg #[.slice none 0 0, .map (some g29), .slice none 0 0])⟩,     ⟨[1, 0], [], [], Fct.by_ [33] [6, 4] (fun l own w => ∃ g32 : Nat, l.getD 0 undef = .pointer (some ⟨g32, 0, none⟩) ∧ (∀ (g29 : Nat), l.getD 1 undef = .map (some g29) → BlkO own 33 w g32 106 #[.slice none 0 0, .map (some g29), .slice none 0 0])) (fun hk he h => by obtain ⟨g, e, h⟩ := h; exact ⟨g, e, fun _ h0' => BlkO.evo (not_hit hk (by decide)) he (h _ h0')⟩)⟩,     ⟨[2, 0], [], [], Fct.rel [3, 6] (fun l => ∀ (g32 : Nat), l.getD 1 undef = .pointer (some ⟨g32, 0, none⟩) → l.getD 0 undef = .pointer (some ⟨g32, 0, none⟩))⟩] hz28 hd28 (by kernel_rfl) ?_ ?_
  · refine sc (fun _ _ _ _ _ _ => px (or_makeMapN)) ?_
    refine sc (fun own a wx hf hsl hE => ?_) ?_
    · obtain ⟨⟨g29, (f_4 : a.eval (.tmp 4) = .map (some g29)), b_g29⟩, -⟩ := hf
      exact px (or_mono (f := Fct.val 5 (.agg #[.slice none 0 0, .map (some g29), .slice none 0 0])) (or_k [(4, .map (some g29))] rfl rfl ⟨f_4, trivial⟩ (by kernel_rfl)) (fun own' a' w' v' hp h => fun _ h0' => by cases (f_4.symm.trans ((hp.2 4 (by decide)).symm.trans h0')); exact h))
    refine sc (fun own a wx hf hsl hE => ?_) ?_
    · obtain ⟨(q_5 : ∀ (g29 : Nat), a.eval (.tmp 4) = .map (some g29) → a.eval (.tmp 5) = .agg #[.slice none 0 0, .map (some g29), .slice none 0 0]), ⟨g29, (f_4 : a.eval (.tmp 4) = .map (some g29)), b_g29⟩, -⟩ := hf
      have f_5 := q_5 _ f_4
      exact px (or_mono (f := Fct.blk 33 6 (fun g => .pointer (some ⟨g, 0, none⟩)) 106 #[.slice none 0 0, .map (some g29), .slice none 0 0]) (or_new [(5, .agg #[.slice none 0 0, .map (some g29), .slice none 0 0])] rfl rfl ⟨f_5, trivial⟩ (by kernel_rfl)) (fun own' a' w' v' hp h => by obtain ⟨g, e, h⟩ := h; exact ⟨g, e, fun _ h0' => by cases (f_4.symm.trans ((hp.2 4 (by decide)).symm.trans h0')); exact h⟩))
    refine sc (fun own a wx hf hsl hE => ?_) ?_
    · obtain ⟨⟨g32, (f_6 : a.eval (.tmp 6) = .pointer (some ⟨g32, 0, none⟩)), (bq_g32 : ∀ (g29 : Nat), a.eval (.tmp 4) = .map (some g29) → BlkO own 33 wx g32 106 #[.slice none 0 0, .map (some g29), .slice none 0 0])⟩, ⟨g29, f_4, b_g29⟩, -⟩ := hf
      have b_g32 := bq_g32 _ f_4
      exact px (or_mono (f := Fct.val 3 (.pointer (some ⟨g32, 0, none⟩))) (or_assign f_6) (fun own' a' w' v' hp h => fun _ h0' => by cases (f_6.symm.trans ((hp.2 6 (by decide)).symm.trans h0')); exact h))
    exact steps_nil
  intro own34 a34 w34 hd34 hz34 hk34 hf34 hE34
  have e34_0 := (hk34 0 rfl).trans e28_0
  obtain ⟨⟨g29, (f_4 : a34.eval (.tmp 4) = .map (some g29)), (b34_g29 : MpN own34 30 31 [] w34 g29 vv111 3 R3 ([] : List ((Int × Int) × (List Int))))⟩, ⟨g32, (f_6 : a34.eval (.tmp 6) = .pointer (some ⟨g32, 0, none⟩)), (bq_g32 : ∀ (g29 : Nat), a34.eval (.tmp 4) = .map (some g29) → BlkO own34 33 w34 g32 106 #[.slice none 0 0, .map (some g29), .slice none 0 0])⟩, (q_3 : ∀ (g32 : Nat), a34.eval (.tmp 6) = .pointer (some ⟨g32, 0, none⟩) → a34.eval (.tmp 3) = .pointer (some ⟨g32, 0, none⟩)), -⟩ := hf34 [0, 2, 3] rfl
  have b34_g32 := bq_g32 _ f_4
  have e34_3 := q_3 _ f_6
  have hX34 := es_ hX28 hE34
  have b34_Al1 := RdO.evo rfl hE34 b28_Al1
  obtain ⟨r35, hr35, hs⟩ := obind hs
  refine rg_plain_seq (n := 11) (rs := [Fct.at_ 33 g32 106 #[.slice none 0 0, .map (some g29), .slice none 0 0], Fct.mapnAt 30 31 [] g29 vv111 3 R3 ([] : List ((Int × Int) × (List Int)))]) (own0 := own34) (K := [33, 30, 31]) (bs := [0, 0, 3]) (ds := [⟨[], [3], [], Fct.val 7 (.pointer (some ⟨g32, 0, none⟩))⟩,     ⟨[], [0], [], Fct.val 8 (.slice Al1 l1.length cl1)⟩,     ⟨[0, 1, 3, 4], [], [33, 30, 31], Fct.mems [38, 39, 40, 41, 42] 9 (fun (x : (Option Addr × Nat) × (Option Addr × Nat)) => .int .i64 r35.1) (fun (x : (Option Addr × Nat) × (Option Addr × Nat)) own w => RwO own 38 [] w 80 R80 x.1.1 x.1.2 r35.2.1 ∧ MpN own 39 40 [] w g29 vv111 3 R3 r35.2.2.1 ∧ RwO own 41 [] w 3 R3 x.2.1 x.2.2 r35.2.2.2 ∧ BlkO own 42 w g32 106 #[.slice x.1.1 r35.2.1.length x.1.2, .map (some g29), .slice x.2.1 r35.2.2.2.length x.2.2]) (fun hk he h => ⟨RwO.evo (hits_sub hk (by decide)) he h.1, MpN.evo (hits_sub hk (by decide)) he h.2.1, RwO.evo (hits_sub hk (by decide)) he h.2.2.1, BlkO.evo (not_hit hk (by decide)) he h.2.2.2⟩)⟩]) (by kernel_rfl) hz34 hd34 (by simp only [List.forall_mem_cons]; exact ⟨b34_g32, b34_g29, fun _ h => nomatch h⟩) ?_ ?_
  · refine sc (fun _ _ _ _ s _ => px (or_move (s.1.trans e34_3))) ?_
    refine sc (fun _ _ _ _ s _ => px (or_move (s.1.trans e34_0))) ?_
    refine sc (fun own a wx hf hsl hE => ?_) ?_
    · obtain ⟨f_7, f_8, b_g32, b_g29, -⟩ := hf
      exact px (or_call cf29 (args2 f_7 f_8) (rows_Index_Add_w _ (forth own (look0 [(30, 3), (31, 4), (33, 1)])) (([] : List ((Int × Int) × (Int × Int))), ([] : List ((Int × Int) × (List Int))), ([] : List Int)) g32 106 none 0 g29 none 0 l1 Al1 cl1 (look0_le rfl) (BlkO.forth_ (m := (look0 [(30, 3), (31, 4), (33, 1)])) b_g32) RwO.nil_ (MpN.forth_ (m := (look0 [(30, 3), (31, 4), (33, 1)])) b_g29) RwO.nil_ (RdO.forth_ (m := (look0 [(30, 3), (31, 4), (33, 1)])) (RdO.evo rfl hE b34_Al1)) r35 hr35) (post_mems (m := (look0 [(30, 3), (31, 4), (33, 1)])) (m' := (look0 [(1, 42), (2, 38), (3, 39), (4, 40), (5, 41)])) (hm_of rfl) (fun own' w' a' x h1 h => ⟨x, h1, ⟨RwO.back_ h.1 (by decide) (.inl (Rep.fl_flat _)), MpN.back_ h.2.1 (by decide) (by decide) (.inl (Rep.fl_flat _)), RwO.back_ h.2.2.1 (by decide) (.inl (Rep.fl_flat _)), BlkO.back_ h.2.2.2 (by decide)⟩⟩)))
    exact steps_nil
  intro own43 a43 w43 hd43 hz43 hk43 hf43 hE43
  have e43_3 := (hk43 3 rfl).trans e34_3
  obtain ⟨⟨⟨⟨A36, cA36⟩, ⟨A37, cA37⟩⟩, (f_9 : a43.eval (.tmp 9) = .int .i64 r35.1), (b43_A36 : RwO own43 38 [] w43 80 R80 A36 cA36 r35.2.1), (b43_g29 : MpN own43 39 40 [] w43 g29 vv111 3 R3 r35.2.2.1), (b43_A37 : RwO own43 41 [] w43 3 R3 A37 cA37 r35.2.2.2), (b43_g32 : BlkO own43 42 w43 g32 106 #[.slice A36 r35.2.1.length cA36, .map (some g29), .slice A37 r35.2.2.2.length cA37])⟩, -⟩ := hf43 [2] rfl
  have hX43 := es_ hX34 hE43
  refine rg0_seq 11 own43 (bz 2) [⟨[], [3], [], Fct.val 10 (.pointer (some ⟨g32, 0, none⟩))⟩,     ⟨[0], [], [], Fct.val 2 (.pointer (some ⟨g32, 0, none⟩))⟩] hz43 hd43 (by kernel_rfl) ?_ ?_
  · refine sc (fun _ _ _ _ s _ => px (or_move (s.1.trans e43_3))) ?_
    refine sc (fun _ _ _ f _ _ => px (or_assign f.1)) ?_
    exact steps_nil
  intro own44 a44 w44 hd44 hz44 hk44 hf44 hE44
  obtain ⟨(e44_2 : a44.eval (.tmp 2) = .pointer (some ⟨g32, 0, none⟩)), -⟩ := hf44 [1] rfl
  have hX44 := es_ hX43 hE44
  have b44_g32 := be_ hE44 b43_g32
  have b44_g29 := MpN.evo rfl hE44 b43_g29
  have b44_A36 := re_ hE44 b43_A36
  have b44_A37 := re_ hE44 b43_A37
  refine fl_ret ?_
  obtain rfl := osome hs
  exact hret _ _ _ _ (.inl rfl) hd44 (results1_ rfl (RVal.tmp_ e44_2)) ⟨(rl [(38, 2), (39, 3), (40, 4), (41, 5), (42, 1)] own44), ((none, g32), (A36, cA36), (none, g29), (A37, cA37)), rfl, (Evo.rl_ hX44 (fun _ => Nat.le_refl 0) rfl), (RwO.rl_ (mm := [(38, 2), (39, 3), (40, 4), (41, 5), (42, 1)]) b44_A36), (MpN.rl_ (mm := [(38, 2), (39, 3), (40, 4), (41, 5), (42, 1)]) b44_g29), (RwO.rl_ (mm := [(38, 2), (39, 3), (40, 4), (41, 5), (42, 1)]) b44_A37), (BlkO.rl_ (mm := [(38, 2), (39, 3), (40, 4), (41, 5), (42, 1)]) b44_g32)⟩
theorem exact_Less_w (w : World) (x1 : Int × Int) (b2 : Int × Int) (r : Bool) (hs : exact_Less x1 b2 = some r) :
    Calls Try.prog 51 #[.agg #[.int .i64 x1.1, .int .i64 x1.2], .agg #[.int .i64 b2.1, .int .i64 b2.2]] w fun e w' => ∃ own' : Own, e = .returned (.bool r) ∧ Evo [] (fun _ => 0) own' w w' := by
  refine fl_enter (n := 24) rfl rfl rfl (Nat.le_of_ble_eq_true rfl) ?_
  intro a0 Q hd0 hz0 harg hret
  have ha0 := harg 0 _ rfl
  have ha1 := harg 1 _ rfl
  clear harg
  have hE0 : Evo [] (fun _ => 0) (fun _ => 0) w w := Evo.refl _ _ _
  refine rg0_seq 24 (fun _ => 0) [0, 0, 0] [⟨[], [0], [], Fct.blk 19 2 (fun g => .pointer (some ⟨g, 0, none⟩)) 25 #[.int .i64 x1.1, .int .i64 x1.2]⟩,     ⟨[], [1], [], Fct.blk 21 3 (fun g => .pointer (some ⟨g, 0, none⟩)) 25 #[.int .i64 b2.1, .int .i64 b2.2]⟩,     ⟨[], [], [], Fct.val 4 (.bool false)⟩] hz0 hd0 (by kernel_rfl) ?_ ?_
  · refine sc (fun _ _ _ _ s _ => px (or_new [(0, .agg #[.int .i64 x1.1, .int .i64 x1.2])] rfl rfl ⟨(s.1.trans ha0), trivial⟩ (by kernel_rfl))) ?_
    refine sc (fun _ _ _ _ s _ => px (or_new [(1, .agg #[.int .i64 b2.1, .int .i64 b2.2])] rfl rfl ⟨(s.1.trans ha1), trivial⟩ (by kernel_rfl))) ?_
    refine sc (fun _ _ _ _ _ _ => px (or_assign rfl)) ?_
    exact steps_nil
  intro own22 a22 w22 hd22 hz22 hk22 hf22 hE22
  obtain ⟨⟨g18, (e22_2 : a22.eval (.tmp 2) = .pointer (some ⟨g18, 0, none⟩)), (b22_g18 : BlkO own22 19 w22 g18 25 #[.int .i64 x1.1, .int .i64 x1.2])⟩, ⟨g20, (e22_3 : a22.eval (.tmp 3) = .pointer (some ⟨g20, 0, none⟩)), (b22_g20 : BlkO own22 21 w22 g20 25 #[.int .i64 b2.1, .int .i64 b2.2])⟩, -⟩ := hf22 [0, 1] rfl
  have hX22 := es_ hE0 hE22
  obtain ⟨x23, hx23, hs⟩ := obind hs
  refine rg0_seq 24 own22 [0, 1, 0, 4, 15, 31, 63, 127, 63, 319, 1023, 2047, 4095, 8191, 4095, 20479, 65535, 131071, 262143, 524287] [⟨[], [2], [], Fct.val 5 (.pointer (some ⟨g18, 0, none⟩))⟩,     ⟨[0], [], [], Fct.val 6 (.int .i64 x1.1)⟩,     ⟨[], [3], [], Fct.val 7 (.pointer (some ⟨g20, 0, none⟩))⟩,     ⟨[2], [], [], Fct.val 8 (.int .i64 b2.1)⟩,     ⟨[1, 3], [], [], Fct.val 9 (.bool (decide (x1.1 < b2.1)))⟩,     ⟨[4], [], [], Fct.val 10 (.bool (decide (x1.1 < b2.1)))⟩,     ⟨[5], [2], [], Fct.cond (!(decide (x1.1 < b2.1))) (some 11) (Fct.val 11 (.pointer (some ⟨g18, 0, none⟩)))⟩,     ⟨[5, 6], [], [], Fct.cond (!(decide (x1.1 < b2.1))) (some 12) (Fct.val 12 (.int .i64 x1.1))⟩,     ⟨[5], [3], [], Fct.cond (!(decide (x1.1 < b2.1))) (some 13) (Fct.val 13 (.pointer (some ⟨g20, 0, none⟩)))⟩,     ⟨[5, 8], [], [], Fct.cond (!(decide (x1.1 < b2.1))) (some 14) (Fct.val 14 (.int .i64 b2.1))⟩,     ⟨[5, 7, 9], [], [], Fct.cond (!(decide (x1.1 < b2.1))) (some 15) (Fct.val 15 (.bool (decide (x1.1 = b2.1))))⟩,     ⟨[5, 10], [], [], Fct.cond (!(decide (x1.1 < b2.1))) (some 16) (Fct.val 16 (.bool (decide (x1.1 = b2.1))))⟩,     ⟨[11], [2], [], Fct.cond ((!(decide (x1.1 < b2.1))) && (decide (x1.1 = b2.1))) (some 17) (Fct.val 17 (.pointer (some ⟨g18, 1, none⟩)))⟩,     ⟨[11, 12], [], [], Fct.cond ((!(decide (x1.1 < b2.1))) && (decide (x1.1 = b2.1))) (some 18) (Fct.val 18 (.int .i64 x1.2))⟩,     ⟨[11], [3], [], Fct.cond ((!(decide (x1.1 < b2.1))) && (decide (x1.1 = b2.1))) (some 19) (Fct.val 19 (.pointer (some ⟨g20, 1, none⟩)))⟩,     ⟨[11, 14], [], [], Fct.cond ((!(decide (x1.1 < b2.1))) && (decide (x1.1 = b2.1))) (some 20) (Fct.val 20 (.int .i64 b2.2))⟩,     ⟨[11, 13, 15], [], [], Fct.cond ((!(decide (x1.1 < b2.1))) && (decide (x1.1 = b2.1))) (some 21) (Fct.val 21 (.bool (decide (x1.2 < b2.2))))⟩,     ⟨[5, 11, 16], [], [], Fct.cond (!(decide (x1.1 < b2.1))) (some 22) (Fct.val 22 (.bool x23))⟩,     ⟨[5, 17], [], [], Fct.val 23 (.bool ((decide (x1.1 < b2.1)) || x23))⟩,     ⟨[18], [], [], Fct.val 4 (.bool ((decide (x1.1 < b2.1)) || x23))⟩] hz22 hd22 (by kernel_rfl) ?_ ?_
  · refine sc (fun _ _ _ _ s _ => px (or_field fo25_0 (s.1.trans e22_2) (by rfl))) ?_
    refine sc (fun _ _ _ f _ hE => px (or_load1 to3 f.1 (Blk.at_ (be_ hE b22_g18).2 0 rfl))) ?_
    refine sc (fun _ _ _ _ s _ => px (or_field fo25_0 (s.1.trans e22_3) (by rfl))) ?_
    refine sc (fun _ _ _ f _ hE => px (or_load1 to3 f.1 (Blk.at_ (be_ hE b22_g20).2 0 rfl))) ?_
    refine sc (fun _ _ _ f _ _ => px (or_lss f.1 f.2.1 rfl)) ?_
    refine sc (fun _ _ _ f _ _ => px (or_move f.1)) ?_
    refine sc (fun _ _ _ f s _ => sg_f rfl rfl rfl f.1 (fun hg => or_field fo25_0 (s.1.trans e22_2) (by rfl))) ?_
    refine sc (fun _ _ _ f _ hE => sg_f rfl rfl rfl f.1 (fun hg => or_load1 to3 (f.2.1.1 hg) (Blk.at_ (be_ hE b22_g18).2 0 rfl))) ?_
    refine sc (fun _ _ _ f s _ => sg_f rfl rfl rfl f.1 (fun hg => or_field fo25_0 (s.1.trans e22_3) (by rfl))) ?_
    refine sc (fun _ _ _ f _ hE => sg_f rfl rfl rfl f.1 (fun hg => or_load1 to3 (f.2.1.1 hg) (Blk.at_ (be_ hE b22_g20).2 0 rfl))) ?_
    refine sc (fun _ _ _ f _ _ => sg_f rfl rfl rfl f.1 (fun hg => or_eql (f.2.1.1 hg) (f.2.2.1.1 hg) rfl)) ?_
    refine sc (fun _ _ _ f _ _ => sg_f rfl rfl rfl f.1 (fun hg => or_move (f.2.1.1 hg))) ?_
    refine sc (fun _ _ _ f s _ => sg_tc rfl rfl rfl f.1 (fun hg => or_field fo25_1 (s.1.trans e22_2) (by rfl))) ?_
    refine sc (fun _ _ _ f _ hE => sg_tc rfl rfl rfl f.1 (fun hg => or_load1 to3 (f.2.1.1 hg) (Blk.at_ (be_ hE b22_g18).2 1 rfl))) ?_
    refine sc (fun _ _ _ f s _ => sg_tc rfl rfl rfl f.1 (fun hg => or_field fo25_1 (s.1.trans e22_3) (by rfl))) ?_
    refine sc (fun _ _ _ f _ hE => sg_tc rfl rfl rfl f.1 (fun hg => or_load1 to3 (f.2.1.1 hg) (Blk.at_ (be_ hE b22_g20).2 1 rfl))) ?_
    refine sc (fun _ _ _ f _ _ => sg_tc rfl rfl rfl f.1 (fun hg => or_lss (f.2.1.1 hg) (f.2.2.1.1 hg) rfl)) ?_
    refine sc (fun _ _ _ f _ _ => sg_f rfl rfl rfl f.1 (fun hg => or_and (f.2.1.1 hg) (fun hx => f.2.2.1.1 (gI hg hx)) rfl (osome hx23).symm)) ?_
    refine sc (fun _ _ _ f _ _ => px (or_or f.1 rfl (fun hx => f.2.1.1 hx) rfl)) ?_
    refine sc (fun _ _ _ f _ _ => px (or_assign f.1)) ?_
    exact steps_nil
  intro own24 a24 w24 hd24 hz24 hk24 hf24 hE24
  obtain ⟨(e24_4 : a24.eval (.tmp 4) = .bool ((decide (x1.1 < b2.1)) || x23)), -⟩ := hf24 [19] rfl
  have hX24 := es_ hX22 hE24
  refine fl_ret ?_
  obtain rfl := osome hs
  exact hret _ _ _ _ (.inl rfl) hd24 (results1_ rfl (RVal.tmp_ e24_4)) ⟨own24, rfl, hX24⟩
theorem guard_between_w (w : World) (x1 : Int × Int) (b2 : Int × Int) (r : (Int × Int) × (Int × Int)) (hs : guard_between x1 b2 = some r) :
    Calls Try.prog 30 #[.agg #[.int .i64 x1.1, .int .i64 x1.2], .agg #[.int .i64 b2.1, .int .i64 b2.2]] w fun e w' => ∃ own' : Own, e = .returned (.agg #[.int .i64 r.1.1, .int .i64 r.1.2, .int .i64 r.2.1, .int .i64 r.2.2]) ∧ Evo [] (fun _ => 0) own' w w' := by
  refine fl_enter (n := 14) rfl rfl rfl (Nat.le_of_ble_eq_true rfl) ?_
  intro a0 Q hd0 hz0 harg hret
  have ha0 := harg 0 _ rfl
  have ha1 := harg 1 _ rfl
  clear harg
  have hE0 : Evo [] (fun _ => 0) (fun _ => 0) w w := Evo.refl _ _ _
  refine rg0_seq 14 (fun _ => 0) [0, 0, 0] [⟨[], [0], [], Fct.blk 27 2 (fun g => .pointer (some ⟨g, 0, none⟩)) 25 #[.int .i64 x1.1, .int .i64 x1.2]⟩,     ⟨[], [1], [], Fct.blk 29 3 (fun g => .pointer (some ⟨g, 0, none⟩)) 25 #[.int .i64 b2.1, .int .i64 b2.2]⟩,     ⟨[], [], [], Fct.blk 31 4 (fun g => .pointer (some ⟨g, 0, none⟩)) 81 #[.int .i64 0, .int .i64 0, .int .i64 0, .int .i64 0]⟩] hz0 hd0 (by kernel_rfl) ?_ ?_
  · refine sc (fun _ _ _ _ s _ => px (or_new [(0, .agg #[.int .i64 x1.1, .int .i64 x1.2])] rfl rfl ⟨(s.1.trans ha0), trivial⟩ (by kernel_rfl))) ?_
    refine sc (fun _ _ _ _ s _ => px (or_new [(1, .agg #[.int .i64 b2.1, .int .i64 b2.2])] rfl rfl ⟨(s.1.trans ha1), trivial⟩ (by kernel_rfl))) ?_
    refine sc (fun _ _ _ _ _ _ => px (or_new [] rfl rfl trivial (by kernel_rfl))) ?_
    exact steps_nil
  intro own32 a32 w32 hd32 hz32 hk32 hf32 hE32
  obtain ⟨⟨g26, (e32_2 : a32.eval (.tmp 2) = .pointer (some ⟨g26, 0, none⟩)), (b32_g26 : BlkO own32 27 w32 g26 25 #[.int .i64 x1.1, .int .i64 x1.2])⟩, ⟨g28, (e32_3 : a32.eval (.tmp 3) = .pointer (some ⟨g28, 0, none⟩)), (b32_g28 : BlkO own32 29 w32 g28 25 #[.int .i64 b2.1, .int .i64 b2.2])⟩, ⟨g30, (e32_4 : a32.eval (.tmp 4) = .pointer (some ⟨g30, 0, none⟩)), (b32_g30 : BlkO own32 31 w32 g30 81 #[.int .i64 0, .int .i64 0, .int .i64 0, .int .i64 0])⟩, -⟩ := hf32 [0, 1, 2] rfl
  have hX32 := es_ hE0 hE32
  refine fl_seq (fun Q33 hn33 hp33 => ?_)
  obtain ⟨r34, hr34, hs⟩ := obind hs
  refine rg0_seq 14 own32 [0, 0, 3] [⟨[], [3], [], Fct.val 5 (.agg #[.int .i64 b2.1, .int .i64 b2.2])⟩,     ⟨[], [2], [], Fct.val 6 (.agg #[.int .i64 x1.1, .int .i64 x1.2])⟩,     ⟨[0, 1], [], [], Fct.val 7 (.bool r34)⟩] hz32 hd32 (by kernel_rfl) ?_ ?_
  · refine sc (fun _ _ _ _ s hE => px (or_load (l := [.int .i64 b2.1, .int .i64 b2.2]) ta25 (s.1.trans e32_3) (Blk.cellsFrom (be_ hE b32_g28).2 0 rfl) rfl)) ?_
    refine sc (fun _ _ _ _ s hE => px (or_load (l := [.int .i64 x1.1, .int .i64 x1.2]) ta25 (s.1.trans e32_2) (Blk.cellsFrom (be_ hE b32_g26).2 0 rfl) rfl)) ?_
    refine sc (fun _ _ _ f _ _ => px (or_call cf51 (args2 f.1 f.2.1) (exact_Less_w _ b2 x1  r34 hr34) post_val)) ?_
    exact steps_nil
  intro own35 a35 w35 hd35 hz35 hk35 hf35 hE35
  have e35_2 := (hk35 2 rfl).trans e32_2
  have e35_3 := (hk35 3 rfl).trans e32_3
  have e35_4 := (hk35 4 rfl).trans e32_4
  obtain ⟨(e35_7 : a35.eval (.tmp 7) = .bool r34), -⟩ := hf35 [2] rfl
  have hX35 := es_ hX32 hE35
  have b35_g26 := be_ hE35 b32_g26
  have b35_g28 := be_ hE35 b32_g28
  have b35_g30 := be_ hE35 b32_g30
  refine fl_cond e35_7 hs (fun c36 hs => ?_) (fun c36 hs => ?_)
  · refine rg_plain_seq (n := 14) (rs := [Fct.at_ 31 g30 81 #[.int .i64 0, .int .i64 0, .int .i64 0, .int .i64 0]]) (own0 := own35) (K := [31]) (bs := [0, 0, 3, 7]) (ds := [⟨[], [3], [], Fct.val 8 (.agg #[.int .i64 b2.1, .int .i64 b2.2])⟩,     ⟨[], [2], [], Fct.val 9 (.agg #[.int .i64 x1.1, .int .i64 x1.2])⟩,     ⟨[0, 1], [], [], Fct.val 10 (.agg #[.int .i64 b2.1, .int .i64 b2.2, .int .i64 x1.1, .int .i64 x1.2])⟩,     ⟨[2, 4], [4], [31], Fct.at_ 37 g30 81 #[.int .i64 b2.1, .int .i64 b2.2, .int .i64 x1.1, .int .i64 x1.2]⟩]) (by kernel_rfl) hz35 hd35 (by simp only [List.forall_mem_cons]; exact ⟨b35_g30, fun _ h => nomatch h⟩) ?_ ?_
    · refine sc (fun _ _ _ _ s hE => px (or_load (l := [.int .i64 b2.1, .int .i64 b2.2]) ta25 (s.1.trans e35_3) (Blk.cellsFrom (be_ hE b35_g28).2 0 rfl) rfl)) ?_
      refine sc (fun _ _ _ _ s hE => px (or_load (l := [.int .i64 x1.1, .int .i64 x1.2]) ta25 (s.1.trans e35_2) (Blk.cellsFrom (be_ hE b35_g26).2 0 rfl) rfl)) ?_
      refine sc (fun _ _ _ f _ _ => px (or_k [(8, .agg #[.int .i64 b2.1, .int .i64 b2.2]), (9, .agg #[.int .i64 x1.1, .int .i64 x1.2])] rfl rfl ⟨f.1, f.2.1, trivial⟩ (by kernel_rfl))) ?_
      refine sc (fun own a wx hf hsl hE => ?_) ?_
      · obtain ⟨f_10, b_g30, -⟩ := hf
        obtain ⟨s_4, -⟩ := hsl
        exact px (or_store (l := #[.int .i64 b2.1, .int .i64 b2.2, .int .i64 x1.1, .int .i64 x1.2]) (lab := 31) (lab2 := 37) ts81 (s_4.trans e35_4) f_10 b_g30 (by simp) (by kernel_rfl) (mem_of rfl) (by decide) (by kernel_rfl) (fun own' a' w' ha hb => hb))
      exact steps_nil
    intro own38 a38 w38 hd38 hz38 hk38 hf38 hE38
    have e38_4 := (hk38 4 rfl).trans e35_4
    obtain ⟨(b38_g30 : BlkO own38 37 w38 g30 81 #[.int .i64 b2.1, .int .i64 b2.2, .int .i64 x1.1, .int .i64 x1.2]), -⟩ := hf38 [3] rfl
    have hX38 := es_ hX35 hE38
    refine fl_ret ?_
    refine hp33 _ _ _ rfl ?_
    obtain rfl := osome hs
    exact hret _ _ _ _ (.inl rfl) hd38 (results1_ rfl (RVal.cell_ e38_4 (run_loadVarAgg (l := [.int .i64 b2.1, .int .i64 b2.2, .int .i64 x1.1, .int .i64 x1.2]) ta81 (Blk.cellsFrom b38_g30.2 0 rfl) rfl))) ⟨own38, rfl, hX38⟩
  refine fl_skip ?_
  refine hn33 _ _ ?_
  refine rg_plain_seq (n := 14) (rs := [Fct.at_ 31 g30 81 #[.int .i64 0, .int .i64 0, .int .i64 0, .int .i64 0]]) (own0 := own35) (K := [31]) (bs := [0, 0, 3, 7]) (ds := [⟨[], [2], [], Fct.val 11 (.agg #[.int .i64 x1.1, .int .i64 x1.2])⟩,     ⟨[], [3], [], Fct.val 12 (.agg #[.int .i64 b2.1, .int .i64 b2.2])⟩,     ⟨[0, 1], [], [], Fct.val 13 (.agg #[.int .i64 x1.1, .int .i64 x1.2, .int .i64 b2.1, .int .i64 b2.2])⟩,     ⟨[2, 4], [4], [31], Fct.at_ 39 g30 81 #[.int .i64 x1.1, .int .i64 x1.2, .int .i64 b2.1, .int .i64 b2.2]⟩]) (by kernel_rfl) hz35 hd35 (by simp only [List.forall_mem_cons]; exact ⟨b35_g30, fun _ h => nomatch h⟩) ?_ ?_
  · refine sc (fun _ _ _ _ s hE => px (or_load (l := [.int .i64 x1.1, .int .i64 x1.2]) ta25 (s.1.trans e35_2) (Blk.cellsFrom (be_ hE b35_g26).2 0 rfl) rfl)) ?_
    refine sc (fun _ _ _ _ s hE => px (or_load (l := [.int .i64 b2.1, .int .i64 b2.2]) ta25 (s.1.trans e35_3) (Blk.cellsFrom (be_ hE b35_g28).2 0 rfl) rfl)) ?_
    refine sc (fun _ _ _ f _ _ => px (or_k [(11, .agg #[.int .i64 x1.1, .int .i64 x1.2]), (12, .agg #[.int .i64 b2.1, .int .i64 b2.2])] rfl rfl ⟨f.1, f.2.1, trivial⟩ (by kernel_rfl))) ?_
    refine sc (fun own a wx hf hsl hE => ?_) ?_
    · obtain ⟨f_13, b_g30, -⟩ := hf
      obtain ⟨s_4, -⟩ := hsl
      exact px (or_store (l := #[.int .i64 x1.1, .int .i64 x1.2, .int .i64 b2.1, .int .i64 b2.2]) (lab := 31) (lab2 := 39) ts81 (s_4.trans e35_4) f_13 b_g30 (by simp) (by kernel_rfl) (mem_of rfl) (by decide) (by kernel_rfl) (fun own' a' w' ha hb => hb))
    exact steps_nil
  intro own40 a40 w40 hd40 hz40 hk40 hf40 hE40
  have e40_4 := (hk40 4 rfl).trans e35_4
  obtain ⟨(b40_g30 : BlkO own40 39 w40 g30 81 #[.int .i64 x1.1, .int .i64 x1.2, .int .i64 b2.1, .int .i64 b2.2]), -⟩ := hf40 [3] rfl
  have hX40 := es_ hX35 hE40
  refine fl_ret ?_
  obtain rfl := osome hs
  exact hret _ _ _ _ (.inl rfl) hd40 (results1_ rfl (RVal.cell_ e40_4 (run_loadVarAgg (l := [.int .i64 x1.1, .int .i64 x1.2, .int .i64 b2.1, .int .i64 b2.2]) ta81 (Blk.cellsFrom b40_g30.2 0 rfl) rfl))) ⟨own40, rfl, hX40⟩
set_option maxHeartbeats 2000000 in
theorem guard_New_w (w : World) (lines1 : List Int) (Alines1 : Option Addr) (clines1 : Nat) (l2 : List ((List (Int × Int)) × Int × Int)) (Al2 : Option Addr) (cl2 : Nat) (hlines1 : RdO (fun _ => 0) [0] w R3 Alines1 clines1 lines1) (hl2 : RdO (fun _ => 0) [0] w R63 Al2 cl2 l2) (r : (((List ((Int × Int) × (Int × Int))) × (List ((Int × Int) × (List Int))) × (List Int))) × (List Int) × (List (Int × Int)) × (List ((Int × Int) × Bool)) × (List (((Int × Int) × (Int × Int)) × Bool))) (hs : guard_New lines1 l2 = some r) :
    Calls Try.prog 7 #[.slice Alines1 lines1.length clines1, .slice Al2 l2.length cl2] w fun e w' => ∃ (own' : Own) (x : (Option Addr × Nat) × (Option Addr × Nat) × (Option Addr × Nat) × (Option Addr × Nat) × (Option Addr × Nat) × (Option Addr × Nat) × (Option Addr × Nat) × (Option Addr × Nat) × (Option Addr × Nat)), e = .returned (.pointer (some ⟨x.1.2, 0, none⟩)) ∧ Evo [] (fun _ => 0) own' w w' ∧ RwO own' 3 [] w' 80 R80 x.2.2.1.1 x.2.2.1.2 r.1.1 ∧ MpN own' 4 5 [] w' x.2.2.2.1.2 vv111 3 R3 r.1.2.1 ∧ RwO own' 6 [] w' 3 R3 x.2.2.2.2.1.1 x.2.2.2.2.1.2 r.1.2.2 ∧ BlkO own' 2 w' x.2.1.2 106 #[.slice x.2.2.1.1 r.1.1.length x.2.2.1.2, .map (some x.2.2.2.1.2), .slice x.2.2.2.2.1.1 r.1.2.2.length x.2.2.2.2.1.2] ∧ RwO own' 7 [] w' 3 R3 x.2.2.2.2.2.1.1 x.2.2.2.2.2.1.2 r.2.1 ∧ RwO own' 8 [] w' 25 R25 x.2.2.2.2.2.2.1.1 x.2.2.2.2.2.2.1.2 r.2.2.1 ∧ MpO own' 9 w' x.2.2.2.2.2.2.2.1.2 vv25 vv4 r.2.2.2.1 ∧ MpO own' 10 w' x.2.2.2.2.2.2.2.2.2 vv81 vv4 r.2.2.2.2 ∧ BlkO own' 1 w' x.1.2 77 #[.pointer (some ⟨x.2.1.2, 0, none⟩), .slice x.2.2.2.2.2.1.1 r.2.1.length x.2.2.2.2.2.1.2, .slice x.2.2.2.2.2.2.1.1 r.2.2.1.length x.2.2.2.2.2.2.1.2, .map (some x.2.2.2.2.2.2.2.1.2), .map (some x.2.2.2.2.2.2.2.2.2)] := by
  refine fl_enter (n := 91) rfl rfl rfl (Nat.le_of_ble_eq_true rfl) ?_
  intro a0 Q hd0 hz0 harg hret
  have ha0 := harg 0 _ rfl
  have ha1 := harg 1 _ rfl
  clear harg
  have hE0 : Evo [] (fun _ => 0) (fun _ => 0) w w := Evo.refl _ _ _
  refine rg0_seq 91 (fun _ => 0) (bz 1) [⟨[], [], [], Fct.val 4 (.pointer none)⟩] hz0 hd0 (by kernel_rfl) ?_ ?_
  · refine sc (fun _ _ _ _ _ _ => px (or_assign rfl)) ?_
    exact steps_nil
  intro own4604 a4604 w4604 hd4604 hz4604 hk4604 hf4604 hE4604
  have e4604_0 := (hk4604 0 rfl).trans ha0
  have e4604_1 := (hk4604 1 rfl).trans ha1
  have hX4604 := es_ hE0 hE4604
  have b4604_Alines1 := RdO.evo rfl hE4604 hlines1
  have b4604_Al2 := RdO.evo rfl hE4604 hl2
  obtain ⟨r4605, hr4605, hs⟩ := obind hs
  obtain ⟨x4616, hx4616, hs⟩ := obind hs
  refine rg_plain_seq (n := 91) (rs := []) (own0 := own4604) (K := [4615]) (bs := [0, 1, 0, 5, 0, 0, 63, 127, 255]) (ds := [⟨[], [], [], Fct.mems [4610, 4611, 4612, 4613, 4614] 10 (fun (x : (Option Addr × Nat) × (Option Addr × Nat) × (Option Addr × Nat) × (Option Addr × Nat)) => .pointer (some ⟨x.1.2, 0, none⟩)) (fun (x : (Option Addr × Nat) × (Option Addr × Nat) × (Option Addr × Nat) × (Option Addr × Nat)) own w => RwO own 4610 [] w 80 R80 x.2.1.1 x.2.1.2 r4605.1 ∧ MpN own 4611 4612 [] w x.2.2.1.2 vv111 3 R3 r4605.2.1 ∧ RwO own 4613 [] w 3 R3 x.2.2.2.1 x.2.2.2.2 r4605.2.2 ∧ BlkO own 4614 w x.1.2 106 #[.slice x.2.1.1 r4605.1.length x.2.1.2, .map (some x.2.2.1.2), .slice x.2.2.2.1 r4605.2.2.length x.2.2.2.2]) (fun hk he h => ⟨RwO.evo (hits_sub hk (by decide)) he h.1, MpN.evo (hits_sub hk (by decide)) he h.2.1, RwO.evo (hits_sub hk (by decide)) he h.2.2.1, BlkO.evo (not_hit hk (by decide)) he h.2.2.2⟩)⟩,     ⟨[0], [], [], Fct.rel [11, 10] (fun l => ∀ (cA4606 : Nat), l.getD 1 undef = .pointer (some ⟨cA4606, 0, none⟩) → l.getD 0 undef = .agg #[.pointer (some ⟨cA4606, 0, none⟩)])⟩,     ⟨[], [0], [], Fct.val 12 (.slice Alines1 lines1.length clines1)⟩,     ⟨[2], [], [4615], Fct.row 4617 [] 13 3 R3 x4616⟩,     ⟨[], [], [], Fct.map_ 4620 14 vv25 vv4 ([] : List ((Int × Int) × Bool))⟩,     ⟨[], [], [], Fct.map_ 4622 15 vv81 vv4 ([] : List (((Int × Int) × (Int × Int)) × Bool))⟩,     ⟨[1, 0, 3, 4, 5], [], [], Fct.rel [16, 10, 13, 14, 15] (fun l => ∀ (cA4606 : Nat) (A4618 : Option Addr) (cA4618 : Nat) (g4619 : Nat) (g4621 : Nat), l.getD 1 undef = .pointer (some ⟨cA4606, 0, none⟩) → l.getD 2 undef = .slice A4618 x4616.length cA4618 → l.getD 3 undef = .map (some g4619) → l.getD 4 undef = .map (some g4621) → l.getD 0 undef = .agg #[.pointer (some ⟨cA4606, 0, none⟩), .slice A4618 x4616.length cA4618, .slice none 0 0, .map (some g4619), .map (some g4621)])⟩,     ⟨[6, 0, 3, 4, 5], [], [], Fct.by_ [4624] [17, 10, 13, 14, 15] (fun l own w => ∃ g4623 : Nat, l.getD 0 undef = .pointer (some ⟨g4623, 0, none⟩) ∧ (∀ (cA4606 : Nat) (A4618 : Option Addr) (cA4618 : Nat) (g4619 : Nat) (g4621 : Nat), l.getD 1 undef = .pointer (some ⟨cA4606, 0, none⟩) → l.getD 2 undef = .slice A4618 x4616.length cA4618 → l.getD 3 undef = .map (some g4619) → l.getD 4 undef = .map (some g4621) → BlkO own 4624 w g4623 77 #[.pointer (some ⟨cA4606, 0, none⟩), .slice A4618 x4616.length cA4618, .slice none 0 0, .map (some g4619), .map (some g4621)])) (fun hk he h => by obtain ⟨g, e, h⟩ := h; exact ⟨g, e, fun _ _ _ _ _ h0' h1' h2' h3' => BlkO.evo (not_hit hk (by decide)) he (h _ _ _ _ _ h0' h1' h2' h3')⟩)⟩,     ⟨[7, 0, 3, 4, 5], [], [], Fct.rel [5, 17] (fun l => ∀ (g4623 : Nat), l.getD 1 undef = .pointer (some ⟨g4623, 0, none⟩) → l.getD 0 undef = .pointer (some ⟨g4623, 0, none⟩))⟩]) (by kernel_rfl) hz4604 hd4604 nm_ ?_ ?_
  · refine sc (fun _ _ _ _ _ _ => px (or_call cf28 (args1 rfl) (rows_New_w _ ([] : List ((Int × Int) × (Int × Int))) none 0 RdO.nil_ r4605 hr4605) (post_mems (m := (fun _ => 0)) (m' := (look0 [(1, 4614), (2, 4610), (3, 4611), (4, 4612), (5, 4613)])) (fun _ _ => .inl rfl) (fun own' w' a' x h1 h => ⟨x, h1, ⟨RwO.back_ h.1 (by decide) (.inl (Rep.fl_flat _)), MpN.back_ h.2.1 (by decide) (by decide) (.inl (Rep.fl_flat _)), RwO.back_ h.2.2.1 (by decide) (.inl (Rep.fl_flat _)), BlkO.back_ h.2.2.2 (by decide)⟩⟩)))) ?_
    refine sc (fun own a wx hf hsl hE => ?_) ?_
    · obtain ⟨⟨⟨⟨A4606, cA4606⟩, ⟨A4607, cA4607⟩, ⟨A4608, cA4608⟩, ⟨A4609, cA4609⟩⟩, (f_10 : a.eval (.tmp 10) = .pointer (some ⟨cA4606, 0, none⟩)), b_A4607, b_cA4608, b_A4609, b_cA4606⟩, -⟩ := hf
      exact px (or_mono (f := Fct.val 11 (.agg #[.pointer (some ⟨cA4606, 0, none⟩)])) (or_k [(10, .pointer (some ⟨cA4606, 0, none⟩))] rfl rfl ⟨f_10, trivial⟩ (by kernel_rfl)) (fun own' a' w' v' hp h => fun _ h0' => by cases (f_10.symm.trans ((hp.2 10 (by decide)).symm.trans h0')); exact h))
    refine sc (fun _ _ _ _ s _ => px (or_move (s.1.trans e4604_0))) ?_
    refine sc (fun _ _ _ f _ hE => px (or_append (R := R3) (lab := 4615) (lab2 := 4617) (L := []) (L3 := []) tp22 rfl RwO.nil_ (by decide) f.1 (RdO.evo rfl hE b4604_Alines1) hx4616 (by decide) (by decide) (mem_of rfl) (.inl (Rep.fl_flat _)))) ?_
    refine sc (fun _ _ _ _ _ _ => px (or_makeMap)) ?_
    refine sc (fun _ _ _ _ _ _ => px (or_makeMap)) ?_
    refine sc (fun own a wx hf hsl hE => ?_) ?_
    · obtain ⟨(q_11 : ∀ (cA4606 : Nat), a.eval (.tmp 10) = .pointer (some ⟨cA4606, 0, none⟩) → a.eval (.tmp 11) = .agg #[.pointer (some ⟨cA4606, 0, none⟩)]), ⟨⟨⟨A4606, cA4606⟩, ⟨A4607, cA4607⟩, ⟨A4608, cA4608⟩, ⟨A4609, cA4609⟩⟩, (f_10 : a.eval (.tmp 10) = .pointer (some ⟨cA4606, 0, none⟩)), b_A4607, b_cA4608, b_A4609, b_cA4606⟩, ⟨⟨A4618, cA4618⟩, (f_13 : a.eval (.tmp 13) = .slice A4618 x4616.length cA4618), b_A4618⟩, ⟨g4619, (f_14 : a.eval (.tmp 14) = .map (some g4619)), b_g4619⟩, ⟨g4621, (f_15 : a.eval (.tmp 15) = .map (some g4621)), b_g4621⟩, -⟩ := hf
      have f_11 := q_11 _ f_10
      exact px (or_mono (f := Fct.val 16 (.agg #[.pointer (some ⟨cA4606, 0, none⟩), .slice A4618 x4616.length cA4618, .slice none 0 0, .map (some g4619), .map (some g4621)])) (or_k [(11, .agg #[.pointer (some ⟨cA4606, 0, none⟩)]), (13, .slice A4618 x4616.length cA4618), (14, .map (some g4619)), (15, .map (some g4621))] rfl rfl ⟨f_11, f_13, f_14, f_15, trivial⟩ (by kernel_rfl)) (fun own' a' w' v' hp h => fun _ _ _ _ _ h0' h1' h2' h3' => by cases (f_10.symm.trans ((hp.2 10 (by decide)).symm.trans h0')); cases (f_13.symm.trans ((hp.2 13 (by decide)).symm.trans h1')); cases (f_14.symm.trans ((hp.2 14 (by decide)).symm.trans h2')); cases (f_15.symm.trans ((hp.2 15 (by decide)).symm.trans h3')); exact h))
    refine sc (fun own a wx hf hsl hE => ?_) ?_
    · obtain ⟨(q_16 : ∀ (cA4606 : Nat) (A4618 : Option Addr) (cA4618 : Nat) (g4619 : Nat) (g4621 : Nat), a.eval (.tmp 10) = .pointer (some ⟨cA4606, 0, none⟩) → a.eval (.tmp 13) = .slice A4618 x4616.length cA4618 → a.eval (.tmp 14) = .map (some g4619) → a.eval (.tmp 15) = .map (some g4621) → a.eval (.tmp 16) = .agg #[.pointer (some ⟨cA4606, 0, none⟩), .slice A4618 x4616.length cA4618, .slice none 0 0, .map (some g4619), .map (some g4621)]), ⟨⟨⟨A4606, cA4606⟩, ⟨A4607, cA4607⟩, ⟨A4608, cA4608⟩, ⟨A4609, cA4609⟩⟩, (f_10 : a.eval (.tmp 10) = .pointer (some ⟨cA4606, 0, none⟩)), b_A4607, b_cA4608, b_A4609, b_cA4606⟩, ⟨⟨A4618, cA4618⟩, (f_13 : a.eval (.tmp 13) = .slice A4618 x4616.length cA4618), b_A4618⟩, ⟨g4619, (f_14 : a.eval (.tmp 14) = .map (some g4619)), b_g4619⟩, ⟨g4621, (f_15 : a.eval (.tmp 15) = .map (some g4621)), b_g4621⟩, -⟩ := hf
      have f_16 := q_16 _ _ _ _ _ f_10 f_13 f_14 f_15
      exact px (or_mono (f := Fct.blk 4624 17 (fun g => .pointer (some ⟨g, 0, none⟩)) 77 #[.pointer (some ⟨cA4606, 0, none⟩), .slice A4618 x4616.length cA4618, .slice none 0 0, .map (some g4619), .map (some g4621)]) (or_new [(16, .agg #[.pointer (some ⟨cA4606, 0, none⟩), .slice A4618 x4616.length cA4618, .slice none 0 0, .map (some g4619), .map (some g4621)])] rfl rfl ⟨f_16, trivial⟩ (by kernel_rfl)) (fun own' a' w' v' hp h => by obtain ⟨g, e, h⟩ := h; exact ⟨g, e, fun _ _ _ _ _ h0' h1' h2' h3' => by cases (f_10.symm.trans ((hp.2 10 (by decide)).symm.trans h0')); cases (f_13.symm.trans ((hp.2 13 (by decide)).symm.trans h1')); cases (f_14.symm.trans ((hp.2 14 (by decide)).symm.trans h2')); cases (f_15.symm.trans ((hp.2 15 (by decide)).symm.trans h3')); exact h⟩))
    refine sc (fun own a wx hf hsl hE => ?_) ?_
    · obtain ⟨⟨g4623, (f_17 : a.eval (.tmp 17) = .pointer (some ⟨g4623, 0, none⟩)), (bq_g4623 : ∀ (cA4606 : Nat) (A4618 : Option Addr) (cA4618 : Nat) (g4619 : Nat) (g4621 : Nat), a.eval (.tmp 10) = .pointer (some ⟨cA4606, 0, none⟩) → a.eval (.tmp 13) = .slice A4618 x4616.length cA4618 → a.eval (.tmp 14) = .map (some g4619) → a.eval (.tmp 15) = .map (some g4621) → BlkO own 4624 wx g4623 77 #[.pointer (some ⟨cA4606, 0, none⟩), .slice A4618 x4616.length cA4618, .slice none 0 0, .map (some g4619), .map (some g4621)])⟩, ⟨⟨⟨A4606, cA4606⟩, ⟨A4607, cA4607⟩, ⟨A4608, cA4608⟩, ⟨A4609, cA4609⟩⟩, f_10, b_A4607, b_cA4608, b_A4609, b_cA4606⟩, ⟨⟨A4618, cA4618⟩, f_13, b_A4618⟩, ⟨g4619, f_14, b_g4619⟩, ⟨g4621, f_15, b_g4621⟩, -⟩ := hf
      have b_g4623 := bq_g4623 _ _ _ _ _ f_10 f_13 f_14 f_15
      exact px (or_mono (f := Fct.val 5 (.pointer (some ⟨g4623, 0, none⟩))) (or_assign f_17) (fun own' a' w' v' hp h => fun _ h0' => by cases (f_17.symm.trans ((hp.2 17 (by decide)).symm.trans h0')); exact h))
    exact steps_nil
  intro own4625 a4625 w4625 hd4625 hz4625 hk4625 hf4625 hE4625
  have e4625_1 := (hk4625 1 rfl).trans e4604_1
  obtain ⟨⟨⟨⟨A4606, cA4606⟩, ⟨A4607, cA4607⟩, ⟨A4608, cA4608⟩, ⟨A4609, cA4609⟩⟩, (f_10 : a4625.eval (.tmp 10) = .pointer (some ⟨cA4606, 0, none⟩)), (b4625_A4607 : RwO own4625 4610 [] w4625 80 R80 A4607 cA4607 r4605.1), (b4625_cA4608 : MpN own4625 4611 4612 [] w4625 cA4608 vv111 3 R3 r4605.2.1), (b4625_A4609 : RwO own4625 4613 [] w4625 3 R3 A4609 cA4609 r4605.2.2), (b4625_cA4606 : BlkO own4625 4614 w4625 cA4606 106 #[.slice A4607 r4605.1.length cA4607, .map (some cA4608), .slice A4609 r4605.2.2.length cA4609])⟩, ⟨⟨A4618, cA4618⟩, (f_13 : a4625.eval (.tmp 13) = .slice A4618 x4616.length cA4618), (b4625_A4618 : RwO own4625 4617 [] w4625 3 R3 A4618 cA4618 x4616)⟩, ⟨g4619, (f_14 : a4625.eval (.tmp 14) = .map (some g4619)), (b4625_g4619 : MpO own4625 4620 w4625 g4619 vv25 vv4 ([] : List ((Int × Int) × Bool)))⟩, ⟨g4621, (f_15 : a4625.eval (.tmp 15) = .map (some g4621)), (b4625_g4621 : MpO own4625 4622 w4625 g4621 vv81 vv4 ([] : List (((Int × Int) × (Int × Int)) × Bool)))⟩, ⟨g4623, (f_17 : a4625.eval (.tmp 17) = .pointer (some ⟨g4623, 0, none⟩)), (bq_g4623 : ∀ (cA4606 : Nat) (A4618 : Option Addr) (cA4618 : Nat) (g4619 : Nat) (g4621 : Nat), a4625.eval (.tmp 10) = .pointer (some ⟨cA4606, 0, none⟩) → a4625.eval (.tmp 13) = .slice A4618 x4616.length cA4618 → a4625.eval (.tmp 14) = .map (some g4619) → a4625.eval (.tmp 15) = .map (some g4621) → BlkO own4625 4624 w4625 g4623 77 #[.pointer (some ⟨cA4606, 0, none⟩), .slice A4618 x4616.length cA4618, .slice none 0 0, .map (some g4619), .map (some g4621)])⟩, (q_5 : ∀ (g4623 : Nat), a4625.eval (.tmp 17) = .pointer (some ⟨g4623, 0, none⟩) → a4625.eval (.tmp 5) = .pointer (some ⟨g4623, 0, none⟩)), -⟩ := hf4625 [0, 3, 4, 5, 7, 8] rfl
  have b4625_g4623 := bq_g4623 _ _ _ _ _ f_10 f_13 f_14 f_15
  have e4625_5 := q_5 _ f_17
  have hX4625 := es_ hX4604 hE4625
  have b4625_Al2 := RdO.evo rfl hE4625 b4604_Al2
  refine fl_seq (fun Q4626 hn4626 hp4626 => ?_)
  refine rg0_seq 91 own4625 [0, 1, 0] [⟨[], [1], [], Fct.val 18 (.slice Al2 l2.length cl2)⟩,     ⟨[0], [], [], Fct.val 19 (.int .i64 (l2.length : Int))⟩,     ⟨[], [], [], Fct.val 20 (.int .i64 0)⟩] hz4625 hd4625 (by kernel_rfl) ?_ ?_
  · refine sc (fun _ _ _ _ s _ => px (or_move (s.1.trans e4625_1))) ?_
    refine sc (fun _ _ _ f _ _ => px (or_len tu23 f.1 rfl)) ?_
    refine sc (fun _ _ _ _ _ _ => px (or_move rfl)) ?_
    exact steps_nil
  intro own4627 a4627 w4627 hd4627 hz4627 hk4627 hf4627 hE4627
  have e4627_5 := (hk4627 5 rfl).trans e4625_5
  obtain ⟨(e4627_18 : a4627.eval (.tmp 18) = .slice Al2 l2.length cl2), (e4627_19 : a4627.eval (.tmp 19) = .int .i64 (l2.length : Int)), (e4627_20 : a4627.eval (.tmp 20) = .int .i64 0), -⟩ := hf4627 [0, 1, 2] rfl
  have hX4627 := es_ hX4625 hE4627
  have b4627_Al2 := RdO.evo rfl hE4627 b4625_Al2
  have b4627_A4607 := re_ hE4627 b4625_A4607
  have b4627_cA4608 := MpN.evo rfl hE4627 b4625_cA4608
  have b4627_A4609 := re_ hE4627 b4625_A4609
  have b4627_cA4606 := be_ hE4627 b4625_cA4606
  have b4627_A4618 := re_ hE4627 b4625_A4618
  have b4627_g4619 := MpO.evo (by decide) hE4627 b4625_g4619
  have b4627_g4621 := MpO.evo (by decide) hE4627 b4625_g4621
  have b4627_g4623 := be_ hE4627 b4625_g4623
  refine fl_block (fun Q4628 hn4628 hx4628 hp4628 => ?_)
  refine fl_loop (body := (fun s => guard_New_b1 l2 x4616 s.1 s.2.1 s.2.2.1 s.2.2.2.1 s.2.2.2.2.1 s.2.2.2.2.2.1 s.2.2.2.2.2.2)) (z := r) (show loopO _ _ = _ from hs) (fun (s : (List ((Int × Int) × (Int × Int))) × (List ((Int × Int) × (List Int))) × (List Int) × (List (Int × Int)) × (List ((Int × Int) × Bool)) × (List (((Int × Int) × (Int × Int)) × Bool)) × Int) a wx => match s with | (g6153, g6156, g6160, g6164, g6167, g6169, x6170) => ∃ (ox : Own) (A6151 : Option Addr) (c6152 : Nat) (A6158 : Option Addr) (c6159 : Nat) (A6162 : Option Addr) (c6163 : Nat), a.defers = [] ∧ a.tmps.size = 91 ∧ a.eval (.tmp 5) = .pointer (some ⟨g4623, 0, none⟩) ∧ a.eval (.tmp 18) = .slice Al2 l2.length cl2 ∧ a.eval (.tmp 19) = .int .i64 (l2.length : Int) ∧ a.eval (.tmp 20) = .int .i64 x6170 ∧ Evo [] (fun _ => 0) ox w wx ∧ BlkO ox 6149 wx g4623 77 #[.pointer (some ⟨cA4606, 0, none⟩), .slice A4618 x4616.length cA4618, .slice A6162 g6164.length c6163, .map (some g4619), .map (some g4621)] ∧ BlkO ox 6150 wx cA4606 106 #[.slice A6151 g6153.length c6152, .map (some cA4608), .slice A6158 g6160.length c6159] ∧ RwO ox 6154 [] wx 80 R80 A6151 c6152 g6153 ∧ MpN ox 6155 6157 [] wx cA4608 vv111 3 R3 g6156 ∧ RwO ox 6161 [] wx 3 R3 A6158 c6159 g6160 ∧ RwO ox 4617 [] wx 3 R3 A4618 cA4618 x4616 ∧ RwO ox 6165 [] wx 25 R25 A6162 c6163 g6164 ∧ MpO ox 6166 wx g4619 vv25 vv4 g6167 ∧ MpO ox 6168 wx g4621 vv81 vv4 g6169 ∧ RdO ox [0] wx R63 Al2 cl2 l2) ?_ ?_
  · exact ⟨(rl [(4610, 6154), (4611, 6155), (4612, 6157), (4613, 6161), (4614, 6150), (4620, 6166), (4622, 6168), (4624, 6149)] own4627), A4607, cA4607, A4609, cA4609, none, 0, hd4627, hz4627, e4627_5, e4627_18, e4627_19, e4627_20, (Evo.rl_ hX4627 (fun _ => Nat.le_refl 0) rfl), (BlkO.rl_ (mm := [(4610, 6154), (4611, 6155), (4612, 6157), (4613, 6161), (4614, 6150), (4620, 6166), (4622, 6168), (4624, 6149)]) b4627_g4623), (BlkO.rl_ (mm := [(4610, 6154), (4611, 6155), (4612, 6157), (4613, 6161), (4614, 6150), (4620, 6166), (4622, 6168), (4624, 6149)]) b4627_cA4606), (RwO.rl_ (mm := [(4610, 6154), (4611, 6155), (4612, 6157), (4613, 6161), (4614, 6150), (4620, 6166), (4622, 6168), (4624, 6149)]) b4627_A4607), (MpN.rl_ (mm := [(4610, 6154), (4611, 6155), (4612, 6157), (4613, 6161), (4614, 6150), (4620, 6166), (4622, 6168), (4624, 6149)]) b4627_cA4608), (RwO.rl_ (mm := [(4610, 6154), (4611, 6155), (4612, 6157), (4613, 6161), (4614, 6150), (4620, 6166), (4622, 6168), (4624, 6149)]) b4627_A4609), (RwO.rl_ (mm := [(4610, 6154), (4611, 6155), (4612, 6157), (4613, 6161), (4614, 6150), (4620, 6166), (4622, 6168), (4624, 6149)]) b4627_A4618), RwO.nil_, (MpO.rl_ (mm := [(4610, 6154), (4611, 6155), (4612, 6157), (4613, 6161), (4614, 6150), (4620, 6166), (4622, 6168), (4624, 6149)]) b4627_g4619), (MpO.rl_ (mm := [(4610, 6154), (4611, 6155), (4612, 6157), (4613, 6161), (4614, 6150), (4620, 6166), (4622, 6168), (4624, 6149)]) b4627_g4621), (RdO.rl_ (mm := [(4610, 6154), (4611, 6155), (4612, 6157), (4613, 6161), (4614, 6150), (4620, 6166), (4622, 6168), (4624, 6149)]) b4627_Al2)⟩
  · rintro ⟨g6153, g6156, g6160, g6164, g6167, g6169, x6170⟩ zz7683 a7683 w7683 ⟨own7683, A6151, c6152, A6158, c6159, A6162, c6163, hd7684, hz7684, e7684_5, e7684_18, e7684_19, e7684_20, hE7684, b7684_g4623, b7684_cA4606, b7684_A6151, b7684_cA4608, b7684_A6158, b7684_A4618, b7684_A6162, b7684_g4619, b7684_g4621, b7684_Al2⟩ hs Q7683 hn7683 hp7683 hz7683
    have hs : guard_New_b1 l2 x4616 g6153 g6156 g6160 g6164 g6167 g6169 x6170 = some zz7683 := hs
    refine rg0_seq 91 own7683 (bz 1) [⟨[], [20, 19], [], Fct.val 21 (.bool (decide (x6170 < (l2.length : Int))))⟩] hz7684 hd7684 (by kernel_rfl) ?_ ?_
    · refine sc (fun _ _ _ _ s _ => px (or_lss (s.1.trans e7684_20) (s.2.1.trans e7684_19) rfl)) ?_
      exact steps_nil
    intro own7685 a7685 w7685 hd7685 hz7685 hk7685 hf7685 hE7685
    have e7685_5 := (hk7685 5 rfl).trans e7684_5
    have e7685_18 := (hk7685 18 rfl).trans e7684_18
    have e7685_19 := (hk7685 19 rfl).trans e7684_19
    have e7685_20 := (hk7685 20 rfl).trans e7684_20
    obtain ⟨(e7685_21 : a7685.eval (.tmp 21) = .bool (decide (x6170 < (l2.length : Int)))), -⟩ := hf7685 [0] rfl
    have hX7685 := es_ hE7684 hE7685
    have b7685_g4623 := be_ hE7685 b7684_g4623
    have b7685_cA4606 := be_ hE7685 b7684_cA4606
    have b7685_A6151 := re_ hE7685 b7684_A6151
    have b7685_cA4608 := MpN.evo rfl hE7685 b7684_cA4608
    have b7685_A6158 := re_ hE7685 b7684_A6158
    have b7685_A4618 := re_ hE7685 b7684_A4618
    have b7685_A6162 := re_ hE7685 b7684_A6162
    have b7685_g4619 := MpO.evo (by decide) hE7685 b7684_g4619
    have b7685_g4621 := MpO.evo (by decide) hE7685 b7684_g4621
    have b7685_Al2 := RdO.evo rfl hE7685 b7684_Al2
    refine fl_seq (fun Q7686 hn7686 hp7686 => ?_)
    refine fl_cond e7685_21 hs (fun c7687 hs => ?_) (fun c7687 hs => ?_)
    · refine fl_skip ?_
      refine hn7686 _ _ ?_
      refine fl_seq (fun Q7688 hn7688 hp7688 => ?_)
      refine fl_block (fun Q7689 hn7689 hx7689 hp7689 => ?_)
      obtain ⟨x7690, hx7690, hs⟩ := obind hs
      refine rg_plain_seq (n := 91) (rs := []) (own0 := own7685) (K := [7693]) (bs := [0, 1, 0, 7]) (ds := [⟨[], [18, 20], [], Fct.val 22 (.pointer (some ((adr Al2).add ((x6170 : Int).toNat * R63.s))))⟩,     ⟨[0], [], [], Fct.nest X63 [0] 23 (fun (y : ((Option Addr × Nat) × Unit × Unit)) => .agg #[.slice y.1.1 x7690.1.length y.1.2, .int .i64 x7690.2.1, .int .i64 x7690.2.2]) x7690⟩,     ⟨[], [], [], Fct.blk 7693 7 (fun g => .pointer (some ⟨g, 0, none⟩)) 63 #[.slice none 0 0, .int .i64 0, .int .i64 0]⟩,     ⟨[2, 1], [], [7693], Fct.by_ [7694] [7, 23] (fun l own w => ∃ g7692 : Nat, l.getD 0 undef = .pointer (some ⟨g7692, 0, none⟩) ∧ (∀ (A7691 : Option Addr) (cA7691 : Nat), l.getD 1 undef = .agg #[.slice A7691 x7690.1.length cA7691, .int .i64 x7690.2.1, .int .i64 x7690.2.2] → BlkO own 7694 w g7692 63 #[.slice A7691 x7690.1.length cA7691, .int .i64 x7690.2.1, .int .i64 x7690.2.2])) (fun hk he h => by obtain ⟨g, e, h⟩ := h; exact ⟨g, e, fun _ _ h0' => BlkO.evo (not_hit hk (by decide)) he (h _ _ h0')⟩)⟩]) (by kernel_rfl) hz7685 hd7685 nm_ ?_ ?_
      · refine sc (fun _ _ _ _ s _ => px (or_index (R := R63) (l := l2) tl23 (s.1.trans e7685_18) (s.2.1.trans e7685_20) (RdO.some_ b7685_Al2 hx7690) hx7690)) ?_
        refine sc (fun _ _ _ f _ hE => px (or_loadN X63 0 3 ta63 f.1 (Addr.add_zero' _).symm (RdO.evo rfl hE b7685_Al2) hx7690 (fun _ => rfl) (fun _ => rfl))) ?_
        refine sc (fun _ _ _ _ _ _ => px (or_new [] rfl rfl trivial (by kernel_rfl))) ?_
        refine sc (fun own a wx hf hsl hE => ?_) ?_
        · obtain ⟨⟨g7692, f_7, b_g7692⟩, ⟨⟨⟨A7691, cA7691⟩, _, _⟩, (f_23 : a.eval (.tmp 23) = .agg #[.slice A7691 x7690.1.length cA7691, .int .i64 x7690.2.1, .int .i64 x7690.2.2]), ⟨b_A7691, -, -⟩⟩, -⟩ := hf
          exact px (or_store (l := #[.slice A7691 x7690.1.length cA7691, .int .i64 x7690.2.1, .int .i64 x7690.2.2]) (lab := 7693) (lab2 := 7694) ts63 f_7 f_23 b_g7692 (by simp) (by kernel_rfl) (mem_of rfl) (by decide) (by kernel_rfl) (fun own' a' w' ha hb => ⟨_, (ha 7).trans f_7, fun _ _ h0' => by cases (f_23.symm.trans ((ha 23).symm.trans h0')); exact hb⟩))
        exact steps_nil
      intro own7695 a7695 w7695 hd7695 hz7695 hk7695 hf7695 hE7695
      have e7695_5 := (hk7695 5 rfl).trans e7685_5
      have e7695_18 := (hk7695 18 rfl).trans e7685_18
      have e7695_19 := (hk7695 19 rfl).trans e7685_19
      have e7695_20 := (hk7695 20 rfl).trans e7685_20
      obtain ⟨⟨⟨⟨A7691, cA7691⟩, _, _⟩, (f_23 : a7695.eval (.tmp 23) = .agg #[.slice A7691 x7690.1.length cA7691, .int .i64 x7690.2.1, .int .i64 x7690.2.2]), ⟨(b7695_A7691 : RdO own7695 [0] w7695 R25 A7691 cA7691 x7690.1), -, -⟩⟩, ⟨g7692, (e7695_7 : a7695.eval (.tmp 7) = .pointer (some ⟨g7692, 0, none⟩)), (bq_g7692 : ∀ (A7691 : Option Addr) (cA7691 : Nat), a7695.eval (.tmp 23) = .agg #[.slice A7691 x7690.1.length cA7691, .int .i64 x7690.2.1, .int .i64 x7690.2.2] → BlkO own7695 7694 w7695 g7692 63 #[.slice A7691 x7690.1.length cA7691, .int .i64 x7690.2.1, .int .i64 x7690.2.2])⟩, -⟩ := hf7695 [1, 3] rfl
      have b7695_g7692 := bq_g7692 _ _ f_23
      have hX7695 := es_ hX7685 hE7695
      have b7695_g4623 := be_ hE7695 b7685_g4623
      have b7695_cA4606 := be_ hE7695 b7685_cA4606
      have b7695_A6151 := re_ hE7695 b7685_A6151
      have b7695_cA4608 := MpN.evo rfl hE7695 b7685_cA4608
      have b7695_A6158 := re_ hE7695 b7685_A6158
      have b7695_A4618 := re_ hE7695 b7685_A4618
      have b7695_A6162 := re_ hE7695 b7685_A6162
      have b7695_g4619 := MpO.evo (by decide) hE7695 b7685_g4619
      have b7695_g4621 := MpO.evo (by decide) hE7695 b7685_g4621
      have b7695_Al2 := RdO.evo rfl hE7695 b7685_Al2
      refine rg0_seq 91 own7695 [0, 1, 3, 0] [⟨[], [7], [], Fct.val 24 (.pointer (some ⟨g7692, 0, none⟩))⟩,     ⟨[0], [], [], Fct.val 25 (.slice A7691 x7690.1.length cA7691)⟩,     ⟨[1], [], [], Fct.val 26 (.int .i64 (x7690.1.length : Int))⟩,     ⟨[], [], [], Fct.val 27 (.int .i64 0)⟩] hz7695 hd7695 (by kernel_rfl) ?_ ?_
      · refine sc (fun _ _ _ _ s _ => px (or_field fo63_0 (s.1.trans e7695_7) (by rfl))) ?_
        refine sc (fun _ _ _ f _ hE => px (or_load1 to55 f.1 (Blk.at_ (be_ hE b7695_g7692).2 0 rfl))) ?_
        refine sc (fun _ _ _ f _ _ => px (or_len tu55 f.1 rfl)) ?_
        refine sc (fun _ _ _ _ _ _ => px (or_move rfl)) ?_
        exact steps_nil
      intro own7696 a7696 w7696 hd7696 hz7696 hk7696 hf7696 hE7696
      have e7696_5 := (hk7696 5 rfl).trans e7695_5
      have e7696_7 := (hk7696 7 rfl).trans e7695_7
      have e7696_18 := (hk7696 18 rfl).trans e7695_18
      have e7696_19 := (hk7696 19 rfl).trans e7695_19
      have e7696_20 := (hk7696 20 rfl).trans e7695_20
      obtain ⟨(e7696_25 : a7696.eval (.tmp 25) = .slice A7691 x7690.1.length cA7691), (e7696_26 : a7696.eval (.tmp 26) = .int .i64 (x7690.1.length : Int)), (e7696_27 : a7696.eval (.tmp 27) = .int .i64 0), -⟩ := hf7696 [1, 2, 3] rfl
      have hX7696 := es_ hX7695 hE7696
      have b7696_g4623 := be_ hE7696 b7695_g4623
      have b7696_cA4606 := be_ hE7696 b7695_cA4606
      have b7696_A6151 := re_ hE7696 b7695_A6151
      have b7696_cA4608 := MpN.evo rfl hE7696 b7695_cA4608
      have b7696_A6158 := re_ hE7696 b7695_A6158
      have b7696_A4618 := re_ hE7696 b7695_A4618
      have b7696_A6162 := re_ hE7696 b7695_A6162
      have b7696_g4619 := MpO.evo (by decide) hE7696 b7695_g4619
      have b7696_g4621 := MpO.evo (by decide) hE7696 b7695_g4621
      have b7696_Al2 := RdO.evo rfl hE7696 b7695_Al2
      have b7696_A7691 := RdO.evo rfl hE7696 b7695_A7691
      have b7696_g7692 := be_ hE7696 b7695_g7692
      refine fl_block (fun Q7697 hn7697 hx7697 hp7697 => ?_)
      refine fl_loop (body := (fun s => guard_New_b2 x6170 x7690 s.1 s.2.1 s.2.2.1 s.2.2.2.1 s.2.2.2.2.1 s.2.2.2.2.2.1 s.2.2.2.2.2.2)) (z := zz7683) (show loopO _ _ = _ from hs) (fun (s : (List ((Int × Int) × (Int × Int))) × (List ((Int × Int) × (List Int))) × (List Int) × (List (Int × Int)) × (List ((Int × Int) × Bool)) × (List (((Int × Int) × (Int × Int)) × Bool)) × Int) a wx => match s with | (g8188, g8191, g8195, g8199, g8202, g8204, x8205) => ∃ (ox : Own) (A8186 : Option Addr) (c8187 : Nat) (A8193 : Option Addr) (c8194 : Nat) (A8197 : Option Addr) (c8198 : Nat), a.defers = [] ∧ a.tmps.size = 91 ∧ a.eval (.tmp 5) = .pointer (some ⟨g4623, 0, none⟩) ∧ a.eval (.tmp 7) = .pointer (some ⟨g7692, 0, none⟩) ∧ a.eval (.tmp 18) = .slice Al2 l2.length cl2 ∧ a.eval (.tmp 19) = .int .i64 (l2.length : Int) ∧ a.eval (.tmp 20) = .int .i64 x6170 ∧ a.eval (.tmp 25) = .slice A7691 x7690.1.length cA7691 ∧ a.eval (.tmp 26) = .int .i64 (x7690.1.length : Int) ∧ a.eval (.tmp 27) = .int .i64 x8205 ∧ Evo [] (fun _ => 0) ox w wx ∧ BlkO ox 8184 wx g4623 77 #[.pointer (some ⟨cA4606, 0, none⟩), .slice A4618 x4616.length cA4618, .slice A8197 g8199.length c8198, .map (some g4619), .map (some g4621)] ∧ BlkO ox 8185 wx cA4606 106 #[.slice A8186 g8188.length c8187, .map (some cA4608), .slice A8193 g8195.length c8194] ∧ RwO ox 8189 [] wx 80 R80 A8186 c8187 g8188 ∧ MpN ox 8190 8192 [] wx cA4608 vv111 3 R3 g8191 ∧ RwO ox 8196 [] wx 3 R3 A8193 c8194 g8195 ∧ RwO ox 4617 [] wx 3 R3 A4618 cA4618 x4616 ∧ RwO ox 8200 [] wx 25 R25 A8197 c8198 g8199 ∧ MpO ox 8201 wx g4619 vv25 vv4 g8202 ∧ MpO ox 8203 wx g4621 vv81 vv4 g8204 ∧ BlkO ox 7694 wx g7692 63 #[.slice A7691 x7690.1.length cA7691, .int .i64 x7690.2.1, .int .i64 x7690.2.2] ∧ RdO ox [0] wx R25 A7691 cA7691 x7690.1 ∧ RdO ox [0] wx R63 Al2 cl2 l2) ?_ ?_
      · exact ⟨(rl [(6149, 8184), (6150, 8185), (6154, 8189), (6155, 8190), (6157, 8192), (6161, 8196), (6165, 8200), (6166, 8201), (6168, 8203)] own7696), A6151, c6152, A6158, c6159, A6162, c6163, hd7696, hz7696, e7696_5, e7696_7, e7696_18, e7696_19, e7696_20, e7696_25, e7696_26, e7696_27, (Evo.rl_ hX7696 (fun _ => Nat.le_refl 0) rfl), (BlkO.rl_ (mm := [(6149, 8184), (6150, 8185), (6154, 8189), (6155, 8190), (6157, 8192), (6161, 8196), (6165, 8200), (6166, 8201), (6168, 8203)]) b7696_g4623), (BlkO.rl_ (mm := [(6149, 8184), (6150, 8185), (6154, 8189), (6155, 8190), (6157, 8192), (6161, 8196), (6165, 8200), (6166, 8201), (6168, 8203)]) b7696_cA4606), (RwO.rl_ (mm := [(6149, 8184), (6150, 8185), (6154, 8189), (6155, 8190), (6157, 8192), (6161, 8196), (6165, 8200), (6166, 8201), (6168, 8203)]) b7696_A6151), (MpN.rl_ (mm := [(6149, 8184), (6150, 8185), (6154, 8189), (6155, 8190), (6157, 8192), (6161, 8196), (6165, 8200), (6166, 8201), (6168, 8203)]) b7696_cA4608), (RwO.rl_ (mm := [(6149, 8184), (6150, 8185), (6154, 8189), (6155, 8190), (6157, 8192), (6161, 8196), (6165, 8200), (6166, 8201), (6168, 8203)]) b7696_A6158), (RwO.rl_ (mm := [(6149, 8184), (6150, 8185), (6154, 8189), (6155, 8190), (6157, 8192), (6161, 8196), (6165, 8200), (6166, 8201), (6168, 8203)]) b7696_A4618), (RwO.rl_ (mm := [(6149, 8184), (6150, 8185), (6154, 8189), (6155, 8190), (6157, 8192), (6161, 8196), (6165, 8200), (6166, 8201), (6168, 8203)]) b7696_A6162), (MpO.rl_ (mm := [(6149, 8184), (6150, 8185), (6154, 8189), (6155, 8190), (6157, 8192), (6161, 8196), (6165, 8200), (6166, 8201), (6168, 8203)]) b7696_g4619), (MpO.rl_ (mm := [(6149, 8184), (6150, 8185), (6154, 8189), (6155, 8190), (6157, 8192), (6161, 8196), (6165, 8200), (6166, 8201), (6168, 8203)]) b7696_g4621), (BlkO.rl_ (mm := [(6149, 8184), (6150, 8185), (6154, 8189), (6155, 8190), (6157, 8192), (6161, 8196), (6165, 8200), (6166, 8201), (6168, 8203)]) b7696_g7692), (RdO.rl_ (mm := [(6149, 8184), (6150, 8185), (6154, 8189), (6155, 8190), (6157, 8192), (6161, 8196), (6165, 8200), (6166, 8201), (6168, 8203)]) b7696_A7691), (RdO.rl_ (mm := [(6149, 8184), (6150, 8185), (6154, 8189), (6155, 8190), (6157, 8192), (6161, 8196), (6165, 8200), (6166, 8201), (6168, 8203)]) b7696_Al2)⟩
      · rintro ⟨g8188, g8191, g8195, g8199, g8202, g8204, x8205⟩ zz8700 a8700 w8700 ⟨own8700, A8186, c8187, A8193, c8194, A8197, c8198, hd8701, hz8701, e8701_5, e8701_7, e8701_18, e8701_19, e8701_20, e8701_25, e8701_26, e8701_27, hE8701, b8701_g4623, b8701_cA4606, b8701_A8186, b8701_cA4608, b8701_A8193, b8701_A4618, b8701_A8197, b8701_g4619, b8701_g4621, b8701_g7692, b8701_A7691, b8701_Al2⟩ hs Q8700 hn8700 hp8700 hz8700
        have hs : guard_New_b2 x6170 x7690 g8188 g8191 g8195 g8199 g8202 g8204 x8205 = some zz8700 := hs
        refine rg0_seq 91 own8700 (bz 1) [⟨[], [27, 26], [], Fct.val 28 (.bool (decide (x8205 < (x7690.1.length : Int))))⟩] hz8701 hd8701 (by kernel_rfl) ?_ ?_
        · refine sc (fun _ _ _ _ s _ => px (or_lss (s.1.trans e8701_27) (s.2.1.trans e8701_26) rfl)) ?_
          exact steps_nil
        intro own8702 a8702 w8702 hd8702 hz8702 hk8702 hf8702 hE8702
        have e8702_5 := (hk8702 5 rfl).trans e8701_5
        have e8702_7 := (hk8702 7 rfl).trans e8701_7
        have e8702_18 := (hk8702 18 rfl).trans e8701_18
        have e8702_19 := (hk8702 19 rfl).trans e8701_19
        have e8702_20 := (hk8702 20 rfl).trans e8701_20
        have e8702_25 := (hk8702 25 rfl).trans e8701_25
        have e8702_26 := (hk8702 26 rfl).trans e8701_26
        have e8702_27 := (hk8702 27 rfl).trans e8701_27
        obtain ⟨(e8702_28 : a8702.eval (.tmp 28) = .bool (decide (x8205 < (x7690.1.length : Int)))), -⟩ := hf8702 [0] rfl
        have hX8702 := es_ hE8701 hE8702
        have b8702_g4623 := be_ hE8702 b8701_g4623
        have b8702_cA4606 := be_ hE8702 b8701_cA4606
        have b8702_A8186 := re_ hE8702 b8701_A8186
        have b8702_cA4608 := MpN.evo rfl hE8702 b8701_cA4608
        have b8702_A8193 := re_ hE8702 b8701_A8193
        have b8702_A4618 := re_ hE8702 b8701_A4618
        have b8702_A8197 := re_ hE8702 b8701_A8197
        have b8702_g4619 := MpO.evo (by decide) hE8702 b8701_g4619
        have b8702_g4621 := MpO.evo (by decide) hE8702 b8701_g4621
        have b8702_g7692 := be_ hE8702 b8701_g7692
        have b8702_A7691 := RdO.evo rfl hE8702 b8701_A7691
        have b8702_Al2 := RdO.evo rfl hE8702 b8701_Al2
        refine fl_seq (fun Q8703 hn8703 hp8703 => ?_)
        refine fl_cond e8702_28 hs (fun c8704 hs => ?_) (fun c8704 hs => ?_)
        · refine fl_skip ?_
          refine hn8703 _ _ ?_
          refine fl_seq (fun Q8705 hn8705 hp8705 => ?_)
          refine fl_block (fun Q8950 hn8950 hx8950 hp8950 => ?_)
          have K9078 : ∀ (a9078 : Act) (w9078 : World) (own9078 : Own) (g9067 : List ((Int × Int) × (Int × Int))) (g9068 : List ((Int × Int) × (List Int))) (g9071 : List Int) (g9074 : List (Int × Int)) (g9075 : List ((Int × Int) × Bool)) (g9077 : List (((Int × Int) × (Int × Int)) × Bool)) (A9065 : Option Addr) (c9066 : Nat) (A9069 : Option Addr) (c9070 : Nat) (A9072 : Option Addr) (c9073 : Nat), a9078.defers = [] → a9078.tmps.size = 91 → a9078.eval (.tmp 5) = .pointer (some ⟨g4623, 0, none⟩) → a9078.eval (.tmp 7) = .pointer (some ⟨g7692, 0, none⟩) → a9078.eval (.tmp 18) = .slice Al2 l2.length cl2 → a9078.eval (.tmp 19) = .int .i64 (l2.length : Int) → a9078.eval (.tmp 20) = .int .i64 x6170 → a9078.eval (.tmp 25) = .slice A7691 x7690.1.length cA7691 → a9078.eval (.tmp 26) = .int .i64 (x7690.1.length : Int) → a9078.eval (.tmp 27) = .int .i64 x8205 → Evo [] (fun _ => 0) own9078 w w9078 → BlkO own9078 8995 w9078 g4623 77 #[.pointer (some ⟨cA4606, 0, none⟩), .slice A4618 x4616.length cA4618, .slice A9072 g9074.length c9073, .map (some g4619), .map (some g4621)] → BlkO own9078 8996 w9078 cA4606 106 #[.slice A9065 g9067.length c9066, .map (some cA4608), .slice A9069 g9071.length c9070] → RwO own9078 9000 [] w9078 80 R80 A9065 c9066 g9067 → MpN own9078 9001 9003 [] w9078 cA4608 vv111 3 R3 g9068 → RwO own9078 9007 [] w9078 3 R3 A9069 c9070 g9071 → RwO own9078 4617 [] w9078 3 R3 A4618 cA4618 x4616 → RwO own9078 9011 [] w9078 25 R25 A9072 c9073 g9074 → MpO own9078 9012 w9078 g4619 vv25 vv4 g9075 → MpO own9078 9076 w9078 g4621 vv81 vv4 g9077 → BlkO own9078 7694 w9078 g7692 63 #[.slice A7691 x7690.1.length cA7691, .int .i64 x7690.2.1, .int .i64 x7690.2.2] → RdO own9078 [0] w9078 R25 A7691 cA7691 x7690.1 → RdO own9078 [0] w9078 R63 Al2 cl2 l2 → guard_New_k3 x8205 g9067 g9068 g9071 g9074 g9075 g9077 = some zz8700 → (Q8950 .normal a9078 w9078 ∧ Q8950 (.exit 3) a9078 w9078) := by
            intro a9078 w9078 own9078 g9067 g9068 g9071 g9074 g9075 g9077 A9065 c9066 A9069 c9070 A9072 c9073 hd9079 hz9079 e9079_5 e9079_7 e9079_18 e9079_19 e9079_20 e9079_25 e9079_26 e9079_27 hE9079 b9079_g4623 b9079_cA4606 b9079_A9065 b9079_cA4608 b9079_A9069 b9079_A4618 b9079_A9072 b9079_g4619 b9079_g4621 b9079_g7692 b9079_A7691 b9079_Al2 hs
            refine and_both (hn8950 _ _) (hx8950 _ _) ?_
            refine hn8705 _ _ ?_
            refine rg0 91 own9078 (bz 2) [⟨[], [27], [], Fct.val 88 (.int .i64 (ad x8205 1))⟩,     ⟨[0], [], [], Fct.val 27 (.int .i64 (ad x8205 1))⟩] hz9079 hd9079 (by kernel_rfl) ?_ ?_
            · refine sc (fun _ _ _ _ s _ => px (or_add (s.1.trans e9079_27) rfl rfl)) ?_
              refine sc (fun _ _ _ f _ _ => px (or_move f.1)) ?_
              exact steps_nil
            intro own9080 a9080 w9080 hd9080 hz9080 hk9080 hf9080 hE9080
            have e9080_5 := (hk9080 5 rfl).trans e9079_5
            have e9080_7 := (hk9080 7 rfl).trans e9079_7
            have e9080_18 := (hk9080 18 rfl).trans e9079_18
            have e9080_19 := (hk9080 19 rfl).trans e9079_19
            have e9080_20 := (hk9080 20 rfl).trans e9079_20
            have e9080_25 := (hk9080 25 rfl).trans e9079_25
            have e9080_26 := (hk9080 26 rfl).trans e9079_26
            obtain ⟨(e9080_27 : a9080.eval (.tmp 27) = .int .i64 (ad x8205 1)), -⟩ := hf9080 [1] rfl
            have hX9080 := es_ hE9079 hE9080
            have b9080_g4623 := be_ hE9080 b9079_g4623
            have b9080_cA4606 := be_ hE9080 b9079_cA4606
            have b9080_A9065 := re_ hE9080 b9079_A9065
            have b9080_cA4608 := MpN.evo rfl hE9080 b9079_cA4608
            have b9080_A9069 := re_ hE9080 b9079_A9069
            have b9080_A4618 := re_ hE9080 b9079_A4618
            have b9080_A9072 := re_ hE9080 b9079_A9072
            have b9080_g4619 := MpO.evo (by decide) hE9080 b9079_g4619
            have b9080_g4621 := MpO.evo (by decide) hE9080 b9079_g4621
            have b9080_g7692 := be_ hE9080 b9079_g7692
            have b9080_A7691 := RdO.evo rfl hE9080 b9079_A7691
            have b9080_Al2 := RdO.evo rfl hE9080 b9079_Al2
            exact hn8700 _ _ _ hs ⟨(rl [(8995, 8184), (8996, 8185), (9000, 8189), (9001, 8190), (9003, 8192), (9007, 8196), (9011, 8200), (9012, 8201), (9076, 8203)] own9080), A9065, c9066, A9069, c9070, A9072, c9073, hd9080, hz9080, e9080_5, e9080_7, e9080_18, e9080_19, e9080_20, e9080_25, e9080_26, e9080_27, (Evo.rl_ hX9080 (fun _ => Nat.le_refl 0) rfl), (BlkO.rl_ (mm := [(8995, 8184), (8996, 8185), (9000, 8189), (9001, 8190), (9003, 8192), (9007, 8196), (9011, 8200), (9012, 8201), (9076, 8203)]) b9080_g4623), (BlkO.rl_ (mm := [(8995, 8184), (8996, 8185), (9000, 8189), (9001, 8190), (9003, 8192), (9007, 8196), (9011, 8200), (9012, 8201), (9076, 8203)]) b9080_cA4606), (RwO.rl_ (mm := [(8995, 8184), (8996, 8185), (9000, 8189), (9001, 8190), (9003, 8192), (9007, 8196), (9011, 8200), (9012, 8201), (9076, 8203)]) b9080_A9065), (MpN.rl_ (mm := [(8995, 8184), (8996, 8185), (9000, 8189), (9001, 8190), (9003, 8192), (9007, 8196), (9011, 8200), (9012, 8201), (9076, 8203)]) b9080_cA4608), (RwO.rl_ (mm := [(8995, 8184), (8996, 8185), (9000, 8189), (9001, 8190), (9003, 8192), (9007, 8196), (9011, 8200), (9012, 8201), (9076, 8203)]) b9080_A9069), (RwO.rl_ (mm := [(8995, 8184), (8996, 8185), (9000, 8189), (9001, 8190), (9003, 8192), (9007, 8196), (9011, 8200), (9012, 8201), (9076, 8203)]) b9080_A4618), (RwO.rl_ (mm := [(8995, 8184), (8996, 8185), (9000, 8189), (9001, 8190), (9003, 8192), (9007, 8196), (9011, 8200), (9012, 8201), (9076, 8203)]) b9080_A9072), (MpO.rl_ (mm := [(8995, 8184), (8996, 8185), (9000, 8189), (9001, 8190), (9003, 8192), (9007, 8196), (9011, 8200), (9012, 8201), (9076, 8203)]) b9080_g4619), (MpO.rl_ (mm := [(8995, 8184), (8996, 8185), (9000, 8189), (9001, 8190), (9003, 8192), (9007, 8196), (9011, 8200), (9012, 8201), (9076, 8203)]) b9080_g4621), (BlkO.rl_ (mm := [(8995, 8184), (8996, 8185), (9000, 8189), (9001, 8190), (9003, 8192), (9007, 8196), (9011, 8200), (9012, 8201), (9076, 8203)]) b9080_g7692), (RdO.rl_ (mm := [(8995, 8184), (8996, 8185), (9000, 8189), (9001, 8190), (9003, 8192), (9007, 8196), (9011, 8200), (9012, 8201), (9076, 8203)]) b9080_A7691), (RdO.rl_ (mm := [(8995, 8184), (8996, 8185), (9000, 8189), (9001, 8190), (9003, 8192), (9007, 8196), (9011, 8200), (9012, 8201), (9076, 8203)]) b9080_Al2)⟩
          obtain ⟨x9081, hx9081, hs⟩ := obind hs
          refine rg_plain_seq (n := 91) (rs := []) (own0 := own8702) (K := [9083]) (bs := [0, 0, 2, 0, 15, 31]) (ds := [⟨[], [27], [], Fct.val 29 (.int .i64 x8205)⟩,     ⟨[], [25, 27], [], Fct.val 30 (.pointer (some ((adr A7691).add ((x8205 : Int).toNat * R25.s))))⟩,     ⟨[1], [], [], Fct.val 31 (.agg #[.int .i64 x9081.1, .int .i64 x9081.2])⟩,     ⟨[], [], [], Fct.blk 9083 9 (fun g => .pointer (some ⟨g, 0, none⟩)) 25 #[.int .i64 0, .int .i64 0]⟩,     ⟨[0], [], [], Fct.val 8 (.int .i64 x8205)⟩,     ⟨[3, 2], [], [9083], Fct.blk 9084 9 (fun g => .pointer (some ⟨g, 0, none⟩)) 25 #[.int .i64 x9081.1, .int .i64 x9081.2]⟩]) (by kernel_rfl) hz8702 hd8702 nm_ ?_ ?_
          · refine sc (fun _ _ _ _ s _ => px (or_move (s.1.trans e8702_27))) ?_
            refine sc (fun _ _ _ _ s _ => px (or_index (R := R25) (l := x7690.1) tl55 (s.1.trans e8702_25) (s.2.1.trans e8702_27) (RdO.some_ b8702_A7691 hx9081) hx9081)) ?_
            refine sc (fun _ _ _ f _ hE => px (or_load (l := E25.f x9081) ta25 f.1 (RdO.cells (F := E25) (RdO.evo rfl hE b8702_A7691) hx9081) rfl)) ?_
            refine sc (fun _ _ _ _ _ _ => px (or_new [] rfl rfl trivial (by kernel_rfl))) ?_
            refine sc (fun _ _ _ f _ _ => px (or_assign f.1)) ?_
            refine sc (fun own a wx hf hsl hE => ?_) ?_
            · obtain ⟨⟨g9082, f_9, b_g9082⟩, f_31, -⟩ := hf
              exact px (or_store (l := #[.int .i64 x9081.1, .int .i64 x9081.2]) (lab := 9083) (lab2 := 9084) ts25 f_9 f_31 b_g9082 (by simp) (by kernel_rfl) (mem_of rfl) (by decide) (by kernel_rfl) (fun own' a' w' ha hb => ⟨_, (ha 9).trans f_9, hb⟩))
            exact steps_nil
          intro own9085 a9085 w9085 hd9085 hz9085 hk9085 hf9085 hE9085
          have e9085_5 := (hk9085 5 rfl).trans e8702_5
          have e9085_7 := (hk9085 7 rfl).trans e8702_7
          have e9085_18 := (hk9085 18 rfl).trans e8702_18
          have e9085_19 := (hk9085 19 rfl).trans e8702_19
          have e9085_20 := (hk9085 20 rfl).trans e8702_20
          have e9085_25 := (hk9085 25 rfl).trans e8702_25
          have e9085_26 := (hk9085 26 rfl).trans e8702_26
          have e9085_27 := (hk9085 27 rfl).trans e8702_27
          obtain ⟨⟨g9082, (e9085_9 : a9085.eval (.tmp 9) = .pointer (some ⟨g9082, 0, none⟩)), (b9085_g9082 : BlkO own9085 9084 w9085 g9082 25 #[.int .i64 x9081.1, .int .i64 x9081.2])⟩, (e9085_8 : a9085.eval (.tmp 8) = .int .i64 x8205), -⟩ := hf9085 [5, 4] rfl
          have hX9085 := es_ hX8702 hE9085
          have b9085_g4623 := be_ hE9085 b8702_g4623
          have b9085_cA4606 := be_ hE9085 b8702_cA4606
          have b9085_A8186 := re_ hE9085 b8702_A8186
          have b9085_cA4608 := MpN.evo rfl hE9085 b8702_cA4608
          have b9085_A8193 := re_ hE9085 b8702_A8193
          have b9085_A4618 := re_ hE9085 b8702_A4618
          have b9085_A8197 := re_ hE9085 b8702_A8197
          have b9085_g4619 := MpO.evo (by decide) hE9085 b8702_g4619
          have b9085_g4621 := MpO.evo (by decide) hE9085 b8702_g4621
          have b9085_g7692 := be_ hE9085 b8702_g7692
          have b9085_A7691 := RdO.evo rfl hE9085 b8702_A7691
          have b9085_Al2 := RdO.evo rfl hE9085 b8702_Al2
          refine fl_seq (fun Q9086 hn9086 hp9086 => ?_)
          have K9144 : ∀ (a9144 : Act) (w9144 : World) (own9144 : Own) (g9129 : List ((Int × Int) × (Int × Int))) (g9132 : List ((Int × Int) × (List Int))) (g9136 : List Int) (g9140 : List (Int × Int)) (g9143 : List ((Int × Int) × Bool)) (A9127 : Option Addr) (c9128 : Nat) (A9134 : Option Addr) (c9135 : Nat) (A9138 : Option Addr) (c9139 : Nat), a9144.defers = [] → a9144.tmps.size = 91 → a9144.eval (.tmp 5) = .pointer (some ⟨g4623, 0, none⟩) → a9144.eval (.tmp 7) = .pointer (some ⟨g7692, 0, none⟩) → a9144.eval (.tmp 8) = .int .i64 x8205 → a9144.eval (.tmp 9) = .pointer (some ⟨g9082, 0, none⟩) → a9144.eval (.tmp 18) = .slice Al2 l2.length cl2 → a9144.eval (.tmp 19) = .int .i64 (l2.length : Int) → a9144.eval (.tmp 20) = .int .i64 x6170 → a9144.eval (.tmp 25) = .slice A7691 x7690.1.length cA7691 → a9144.eval (.tmp 26) = .int .i64 (x7690.1.length : Int) → a9144.eval (.tmp 27) = .int .i64 x8205 → Evo [] (fun _ => 0) own9144 w w9144 → BlkO own9144 9125 w9144 g4623 77 #[.pointer (some ⟨cA4606, 0, none⟩), .slice A4618 x4616.length cA4618, .slice A9138 g9140.length c9139, .map (some g4619), .map (some g4621)] → BlkO own9144 9126 w9144 cA4606 106 #[.slice A9127 g9129.length c9128, .map (some cA4608), .slice A9134 g9136.length c9135] → RwO own9144 9130 [] w9144 80 R80 A9127 c9128 g9129 → MpN own9144 9131 9133 [] w9144 cA4608 vv111 3 R3 g9132 → RwO own9144 9137 [] w9144 3 R3 A9134 c9135 g9136 → RwO own9144 4617 [] w9144 3 R3 A4618 cA4618 x4616 → RwO own9144 9141 [] w9144 25 R25 A9138 c9139 g9140 → MpO own9144 9142 w9144 g4619 vv25 vv4 g9143 → MpO own9144 8203 w9144 g4621 vv81 vv4 g8204 → BlkO own9144 7694 w9144 g7692 63 #[.slice A7691 x7690.1.length cA7691, .int .i64 x7690.2.1, .int .i64 x7690.2.2] → RdO own9144 [0] w9144 R25 A7691 cA7691 x7690.1 → BlkO own9144 9084 w9144 g9082 25 #[.int .i64 x9081.1, .int .i64 x9081.2] → RdO own9144 [0] w9144 R63 Al2 cl2 l2 → guard_New_k4 x7690 g8204 x8205 x9081 g9129 g9132 g9136 g9140 g9143 = some zz8700 → Q9086 .normal a9144 w9144 := by
            intro a9144 w9144 own9144 g9129 g9132 g9136 g9140 g9143 A9127 c9128 A9134 c9135 A9138 c9139 hd9145 hz9145 e9145_5 e9145_7 e9145_8 e9145_9 e9145_18 e9145_19 e9145_20 e9145_25 e9145_26 e9145_27 hE9145 b9145_g4623 b9145_cA4606 b9145_A9127 b9145_cA4608 b9145_A9134 b9145_A4618 b9145_A9138 b9145_g4619 b9145_g4621 b9145_g7692 b9145_A7691 b9145_g9082 b9145_Al2 hs
            refine hn9086 _ _ ?_
            obtain ⟨x9146, hx9146, hs⟩ := obind hs
            obtain ⟨x9147, hx9147, hs⟩ := obind hs
            refine rg_draw_seq g_mixed (n := 91) (rs := []) (own0 := own9144) (K := []) (bs := [0, 1, 3, 7, 15, 7, 39, 127, 255, 7, 1023, 2047]) (ds := [⟨[], [8], [], Fct.val 64 (.int .i64 x8205)⟩,     ⟨[0], [], [], Fct.val 65 (.bool (decide (0 < x8205)))⟩,     ⟨[1], [], [], Fct.val 66 (.bool (decide (0 < x8205)))⟩,     ⟨[2], [7], [], Fct.cond (decide (0 < x8205)) (some 67) (Fct.val 67 (.pointer (some ⟨g7692, 0, none⟩)))⟩,     ⟨[2, 3], [], [], Fct.cond (decide (0 < x8205)) (some 68) (Fct.val 68 (.slice A7691 x7690.1.length cA7691))⟩,     ⟨[2], [8], [], Fct.cond (decide (0 < x8205)) (some 69) (Fct.val 69 (.int .i64 x8205))⟩,     ⟨[2, 5], [], [], Fct.cond (decide (0 < x8205)) (some 70) (Fct.val 70 (.int .i64 (sb x8205 1)))⟩,     ⟨[2, 4, 6], [], [], Fct.cond (decide (0 < x8205)) (some 71) (Fct.val 71 (.pointer (some ((adr A7691).add ((sb x8205 1 : Int).toNat * R25.s)))))⟩,     ⟨[2, 7], [], [], Fct.cond (decide (0 < x8205)) (some 72) (Fct.val 72 (.agg #[.int .i64 x9146.1, .int .i64 x9146.2]))⟩,     ⟨[2], [9], [], Fct.cond (decide (0 < x8205)) (some 73) (Fct.val 73 (.agg #[.int .i64 x9081.1, .int .i64 x9081.2]))⟩,     ⟨[2, 8, 9], [], [], Fct.cond (decide (0 < x8205)) (some 74) (Fct.val 74 (.bool (!decide (x9146 = x9081))))⟩,     ⟨[2, 10], [], [], Fct.val 75 (.bool x9147)⟩]) (by kernel_rfl) hz9145 hd9145 nm_ ?_ ?_
            · refine sc (fun _ _ _ _ s _ => px (or_move (s.1.trans e9145_8))) ?_
              refine sc (fun _ _ _ f _ _ => px (or_gtr f.1 rfl rfl)) ?_
              refine sc (fun _ _ _ f _ _ => px (or_move f.1)) ?_
              refine sc (fun _ _ _ f s _ => sg_t rfl rfl rfl f.1 (fun hg => or_field fo63_0 (s.1.trans e9145_7) (by rfl))) ?_
              refine sc (fun _ _ _ f _ hE => sg_t rfl rfl rfl f.1 (fun hg => or_load1 to55 (f.2.1.1 hg) (Blk.at_ (be_ hE b9145_g7692).2 0 rfl))) ?_
              refine sc (fun _ _ _ f s _ => sg_t rfl rfl rfl f.1 (fun hg => or_move (s.1.trans e9145_8))) ?_
              refine sc (fun _ _ _ f _ _ => sg_t rfl rfl rfl f.1 (fun hg => or_sub (f.2.1.1 hg) rfl rfl)) ?_
              refine sc (fun _ _ _ f _ _ => sg_t rfl rfl rfl f.1 (fun hg => or_index (R := R25) (l := x7690.1) tl55 (f.2.1.1 hg) (f.2.2.1.1 hg) (RdO.some_ b9145_A7691 (gd_t hx9146 hg)) (gd_t hx9146 hg))) ?_
              refine sc (fun _ _ _ f _ hE => sg_t rfl rfl rfl f.1 (fun hg => or_load (l := E25.f x9146) ta25 (f.2.1.1 hg) (RdO.cells (F := E25) (RdO.evo rfl hE b9145_A7691) (gd_t hx9146 hg)) rfl)) ?_
              refine sc (fun _ _ _ f s hE => sg_t rfl rfl rfl f.1 (fun hg => or_load (l := [.int .i64 x9081.1, .int .i64 x9081.2]) ta25 (s.1.trans e9145_9) (Blk.cellsFrom (be_ hE b9145_g9082).2 0 rfl) rfl)) ?_
              refine sc (fun _ _ _ f _ _ => sg_t rfl rfl rfl f.1 (fun hg => or_neqA sg25 (f.2.1.1 hg) (f.2.2.1.1 hg) (sn25 x9146.1 x9146.2 x9081.1 x9081.2 _) rfl)) ?_
              refine sc (fun _ _ _ f _ _ => px (or_and f.1 (fun hx => f.2.1.1 hx) rfl (osome hx9147).symm)) ?_
              exact steps_nil
            intro own9148 a9148 w9148 hd9148 hz9148 hk9148 hf9148 hE9148
            have e9148_5 := (hk9148 5 rfl).trans e9145_5
            have e9148_7 := (hk9148 7 rfl).trans e9145_7
            have e9148_8 := (hk9148 8 rfl).trans e9145_8
            have e9148_9 := (hk9148 9 rfl).trans e9145_9
            have e9148_18 := (hk9148 18 rfl).trans e9145_18
            have e9148_19 := (hk9148 19 rfl).trans e9145_19
            have e9148_20 := (hk9148 20 rfl).trans e9145_20
            have e9148_25 := (hk9148 25 rfl).trans e9145_25
            have e9148_26 := (hk9148 26 rfl).trans e9145_26
            have e9148_27 := (hk9148 27 rfl).trans e9145_27
            obtain ⟨(e9148_75 : a9148.eval (.tmp 75) = .bool x9147), -⟩ := hf9148 [11] rfl
            have hX9148 := es_ hE9145 hE9148
            have b9148_g4623 := be_ hE9148 b9145_g4623
            have b9148_cA4606 := be_ hE9148 b9145_cA4606
            have b9148_A9127 := re_ hE9148 b9145_A9127
            have b9148_cA4608 := MpN.evo rfl hE9148 b9145_cA4608
            have b9148_A9134 := re_ hE9148 b9145_A9134
            have b9148_A4618 := re_ hE9148 b9145_A4618
            have b9148_A9138 := re_ hE9148 b9145_A9138
            have b9148_g4619 := MpO.evo (by decide) hE9148 b9145_g4619
            have b9148_g4621 := MpO.evo (by decide) hE9148 b9145_g4621
            have b9148_g7692 := be_ hE9148 b9145_g7692
            have b9148_A7691 := RdO.evo rfl hE9148 b9145_A7691
            have b9148_g9082 := be_ hE9148 b9145_g9082
            have b9148_Al2 := RdO.evo rfl hE9148 b9145_Al2
            refine fl_cond e9148_75 hs (fun c9149 hs => ?_) (fun c9149 hs => ?_)
            · obtain ⟨x9152, hx9152, hs⟩ := obind hs
              obtain ⟨r9153, hr9153, hs⟩ := obind hs
              obtain ⟨D9154, hD9154, hs⟩ := obind hs
              refine rg_draw g_mixed (n := 91) (rs := [Fct.mapAt 8203 g4621 vv81 vv4 g8204]) (own0 := own9148) (K := [8203]) (bs := [0, 1, 3, 7, 0, 16, 0, 64, 240, 496, 0, 2032, 4095]) (ds := [⟨[], [5], [], Fct.val 76 (.pointer (some ⟨g4623, 0, none⟩))⟩,     ⟨[0], [], [], Fct.val 77 (.pointer (some ⟨g4623, 0, none⟩))⟩,     ⟨[1], [], [], Fct.val 78 (.pointer (some ⟨g4623, 4, none⟩))⟩,     ⟨[2], [], [], Fct.val 79 (.map (some g4621))⟩,     ⟨[], [7], [], Fct.val 80 (.pointer (some ⟨g7692, 0, none⟩))⟩,     ⟨[4], [], [], Fct.val 81 (.slice A7691 x7690.1.length cA7691)⟩,     ⟨[], [8], [], Fct.val 82 (.int .i64 x8205)⟩,     ⟨[6], [], [], Fct.val 83 (.int .i64 (sb x8205 1))⟩,     ⟨[5, 7], [], [], Fct.val 84 (.pointer (some ((adr A7691).add ((sb x8205 1 : Int).toNat * R25.s))))⟩,     ⟨[8], [], [], Fct.val 85 (.agg #[.int .i64 x9152.1, .int .i64 x9152.2])⟩,     ⟨[], [9], [], Fct.val 86 (.agg #[.int .i64 x9081.1, .int .i64 x9081.2])⟩,     ⟨[9, 10], [], [], Fct.val 87 (.agg #[.int .i64 r9153.1.1, .int .i64 r9153.1.2, .int .i64 r9153.2.1, .int .i64 r9153.2.2])⟩,     ⟨[3, 11, 13], [], [8203], Fct.mapAt 9155 g4621 vv81 vv4 D9154⟩]) (by kernel_rfl) hz9148 hd9148 (by simp only [List.forall_mem_cons]; exact ⟨b9148_g4621, fun _ h => nomatch h⟩) ?_ ?_
              · refine sc (fun _ _ _ _ s _ => px (or_move (s.1.trans e9148_5))) ?_
                refine sc (fun _ _ _ f _ _ => px (or_k [(76, .pointer (some ⟨g4623, 0, none⟩))] rfl rfl ⟨f.1, trivial⟩ (by kernel_rfl))) ?_
                refine sc (fun _ _ _ f _ _ => px (or_field fo77_4 f.1 (by rfl))) ?_
                refine sc (fun _ _ _ f _ hE => px (or_load1 to75 f.1 (Blk.at_ (be_ hE b9148_g4623).2 4 rfl))) ?_
                refine sc (fun _ _ _ _ s _ => px (or_field fo63_0 (s.1.trans e9148_7) (by rfl))) ?_
                refine sc (fun _ _ _ f _ hE => px (or_load1 to55 f.1 (Blk.at_ (be_ hE b9148_g7692).2 0 rfl))) ?_
                refine sc (fun _ _ _ _ s _ => px (or_move (s.1.trans e9148_8))) ?_
                refine sc (fun _ _ _ f _ _ => px (or_sub f.1 rfl rfl)) ?_
                refine sc (fun _ _ _ f _ _ => px (or_index (R := R25) (l := x7690.1) tl55 f.1 f.2.1 (RdO.some_ b9148_A7691 hx9152) hx9152)) ?_
                refine sc (fun _ _ _ f _ hE => px (or_load (l := E25.f x9152) ta25 f.1 (RdO.cells (F := E25) (RdO.evo rfl hE b9148_A7691) hx9152) rfl)) ?_
                refine sc (fun _ _ _ _ s hE => px (or_load (l := [.int .i64 x9081.1, .int .i64 x9081.2]) ta25 (s.1.trans e9148_9) (Blk.cellsFrom (be_ hE b9148_g9082).2 0 rfl) rfl)) ?_
                refine sc (fun _ _ _ f _ _ => px (or_call cf30 (args2 f.1 f.2.1) (guard_between_w _ x9152 x9081  r9153 hr9153) post_val)) ?_
                refine sc (fun own a wx hf hsl hE => ?_) ?_
                · obtain ⟨f_79, f_87, b_g4621, -⟩ := hf
                  exact px (or_mapUpdate (kf := vv81) (vf := vv4) (k := r9153) (v := true) (lab := 8203) (lab2 := 9155) ko81 tm75 f_79 f_87 rfl b_g4621 (osome hD9154).symm (mem_of rfl) (by decide) (fun own' a' w' hb => hb))
                exact steps_nil
              intro own9156 a9156 w9156 hd9156 hz9156 hk9156 hf9156 hE9156
              have e9156_5 := (hk9156 5 rfl).trans e9148_5
              have e9156_7 := (hk9156 7 rfl).trans e9148_7
              have e9156_18 := (hk9156 18 rfl).trans e9148_18
              have e9156_19 := (hk9156 19 rfl).trans e9148_19
              have e9156_20 := (hk9156 20 rfl).trans e9148_20
              have e9156_25 := (hk9156 25 rfl).trans e9148_25
              have e9156_26 := (hk9156 26 rfl).trans e9148_26
              have e9156_27 := (hk9156 27 rfl).trans e9148_27
              obtain ⟨(b9156_g4621 : MpO own9156 9155 w9156 g4621 vv81 vv4 D9154), -⟩ := hf9156 [12] rfl
              have hX9156 := es_ hX9148 hE9156
              have b9156_g4623 := be_ hE9156 b9148_g4623
              have b9156_cA4606 := be_ hE9156 b9148_cA4606
              have b9156_A9127 := re_ hE9156 b9148_A9127
              have b9156_cA4608 := MpN.evo rfl hE9156 b9148_cA4608
              have b9156_A9134 := re_ hE9156 b9148_A9134
              have b9156_A4618 := re_ hE9156 b9148_A4618
              have b9156_A9138 := re_ hE9156 b9148_A9138
              have b9156_g4619 := MpO.evo (by decide) hE9156 b9148_g4619
              have b9156_g7692 := be_ hE9156 b9148_g7692
              have b9156_A7691 := RdO.evo rfl hE9156 b9148_A7691
              have b9156_Al2 := RdO.evo rfl hE9156 b9148_Al2
              exact (K9078 _ _ (rl [(9125, 8995), (9126, 8996), (9130, 9000), (9131, 9001), (9133, 9003), (9137, 9007), (9141, 9011), (9142, 9012), (9155, 9076)] own9156) _ _ _ _ _ _ A9127 c9128 A9134 c9135 A9138 c9139 hd9156 hz9156 e9156_5 e9156_7 e9156_18 e9156_19 e9156_20 e9156_25 e9156_26 e9156_27 (Evo.rl_ hX9156 (fun _ => Nat.le_refl 0) rfl) (BlkO.rl_ (mm := [(9125, 8995), (9126, 8996), (9130, 9000), (9131, 9001), (9133, 9003), (9137, 9007), (9141, 9011), (9142, 9012), (9155, 9076)]) b9156_g4623) (BlkO.rl_ (mm := [(9125, 8995), (9126, 8996), (9130, 9000), (9131, 9001), (9133, 9003), (9137, 9007), (9141, 9011), (9142, 9012), (9155, 9076)]) b9156_cA4606) (RwO.rl_ (mm := [(9125, 8995), (9126, 8996), (9130, 9000), (9131, 9001), (9133, 9003), (9137, 9007), (9141, 9011), (9142, 9012), (9155, 9076)]) b9156_A9127) (MpN.rl_ (mm := [(9125, 8995), (9126, 8996), (9130, 9000), (9131, 9001), (9133, 9003), (9137, 9007), (9141, 9011), (9142, 9012), (9155, 9076)]) b9156_cA4608) (RwO.rl_ (mm := [(9125, 8995), (9126, 8996), (9130, 9000), (9131, 9001), (9133, 9003), (9137, 9007), (9141, 9011), (9142, 9012), (9155, 9076)]) b9156_A9134) (RwO.rl_ (mm := [(9125, 8995), (9126, 8996), (9130, 9000), (9131, 9001), (9133, 9003), (9137, 9007), (9141, 9011), (9142, 9012), (9155, 9076)]) b9156_A4618) (RwO.rl_ (mm := [(9125, 8995), (9126, 8996), (9130, 9000), (9131, 9001), (9133, 9003), (9137, 9007), (9141, 9011), (9142, 9012), (9155, 9076)]) b9156_A9138) (MpO.rl_ (mm := [(9125, 8995), (9126, 8996), (9130, 9000), (9131, 9001), (9133, 9003), (9137, 9007), (9141, 9011), (9142, 9012), (9155, 9076)]) b9156_g4619) (MpO.rl_ (mm := [(9125, 8995), (9126, 8996), (9130, 9000), (9131, 9001), (9133, 9003), (9137, 9007), (9141, 9011), (9142, 9012), (9155, 9076)]) b9156_g4621) (BlkO.rl_ (mm := [(9125, 8995), (9126, 8996), (9130, 9000), (9131, 9001), (9133, 9003), (9137, 9007), (9141, 9011), (9142, 9012), (9155, 9076)]) b9156_g7692) (RdO.rl_ (mm := [(9125, 8995), (9126, 8996), (9130, 9000), (9131, 9001), (9133, 9003), (9137, 9007), (9141, 9011), (9142, 9012), (9155, 9076)]) b9156_A7691) (RdO.rl_ (mm := [(9125, 8995), (9126, 8996), (9130, 9000), (9131, 9001), (9133, 9003), (9137, 9007), (9141, 9011), (9142, 9012), (9155, 9076)]) b9156_Al2) hs).1
            refine fl_skip ?_
            exact (K9078 _ _ (rl [(8203, 9076), (9125, 8995), (9126, 8996), (9130, 9000), (9131, 9001), (9133, 9003), (9137, 9007), (9141, 9011), (9142, 9012)] own9148) _ _ _ _ _ _ A9127 c9128 A9134 c9135 A9138 c9139 hd9148 hz9148 e9148_5 e9148_7 e9148_18 e9148_19 e9148_20 e9148_25 e9148_26 e9148_27 (Evo.rl_ hX9148 (fun _ => Nat.le_refl 0) rfl) (BlkO.rl_ (mm := [(8203, 9076), (9125, 8995), (9126, 8996), (9130, 9000), (9131, 9001), (9133, 9003), (9137, 9007), (9141, 9011), (9142, 9012)]) b9148_g4623) (BlkO.rl_ (mm := [(8203, 9076), (9125, 8995), (9126, 8996), (9130, 9000), (9131, 9001), (9133, 9003), (9137, 9007), (9141, 9011), (9142, 9012)]) b9148_cA4606) (RwO.rl_ (mm := [(8203, 9076), (9125, 8995), (9126, 8996), (9130, 9000), (9131, 9001), (9133, 9003), (9137, 9007), (9141, 9011), (9142, 9012)]) b9148_A9127) (MpN.rl_ (mm := [(8203, 9076), (9125, 8995), (9126, 8996), (9130, 9000), (9131, 9001), (9133, 9003), (9137, 9007), (9141, 9011), (9142, 9012)]) b9148_cA4608) (RwO.rl_ (mm := [(8203, 9076), (9125, 8995), (9126, 8996), (9130, 9000), (9131, 9001), (9133, 9003), (9137, 9007), (9141, 9011), (9142, 9012)]) b9148_A9134) (RwO.rl_ (mm := [(8203, 9076), (9125, 8995), (9126, 8996), (9130, 9000), (9131, 9001), (9133, 9003), (9137, 9007), (9141, 9011), (9142, 9012)]) b9148_A4618) (RwO.rl_ (mm := [(8203, 9076), (9125, 8995), (9126, 8996), (9130, 9000), (9131, 9001), (9133, 9003), (9137, 9007), (9141, 9011), (9142, 9012)]) b9148_A9138) (MpO.rl_ (mm := [(8203, 9076), (9125, 8995), (9126, 8996), (9130, 9000), (9131, 9001), (9133, 9003), (9137, 9007), (9141, 9011), (9142, 9012)]) b9148_g4619) (MpO.rl_ (mm := [(8203, 9076), (9125, 8995), (9126, 8996), (9130, 9000), (9131, 9001), (9133, 9003), (9137, 9007), (9141, 9011), (9142, 9012)]) b9148_g4621) (BlkO.rl_ (mm := [(8203, 9076), (9125, 8995), (9126, 8996), (9130, 9000), (9131, 9001), (9133, 9003), (9137, 9007), (9141, 9011), (9142, 9012)]) b9148_g7692) (RdO.rl_ (mm := [(8203, 9076), (9125, 8995), (9126, 8996), (9130, 9000), (9131, 9001), (9133, 9003), (9137, 9007), (9141, 9011), (9142, 9012)]) b9148_A7691) (RdO.rl_ (mm := [(8203, 9076), (9125, 8995), (9126, 8996), (9130, 9000), (9131, 9001), (9133, 9003), (9137, 9007), (9141, 9011), (9142, 9012)]) b9148_Al2) hs).1
          refine rg_draw_seq g_mixed (n := 91) (rs := []) (own0 := own9085) (K := []) (bs := [0, 1, 3, 7, 0, 31, 63]) (ds := [⟨[], [5], [], Fct.val 32 (.pointer (some ⟨g4623, 0, none⟩))⟩,     ⟨[0], [], [], Fct.val 33 (.pointer (some ⟨g4623, 0, none⟩))⟩,     ⟨[1], [], [], Fct.val 34 (.pointer (some ⟨g4623, 3, none⟩))⟩,     ⟨[2], [], [], Fct.val 35 (.map (some g4619))⟩,     ⟨[], [9], [], Fct.val 36 (.agg #[.int .i64 x9081.1, .int .i64 x9081.2])⟩,     ⟨[3, 4], [], [], Fct.val 37 (.bool ((lkM g8202 x9081).getD false))⟩,     ⟨[5], [], [], Fct.val 38 (.bool (!((lkM g8202 x9081).getD false)))⟩]) (by kernel_rfl) hz9085 hd9085 nm_ ?_ ?_
          · refine sc (fun _ _ _ _ s _ => px (or_move (s.1.trans e9085_5))) ?_
            refine sc (fun _ _ _ f _ _ => px (or_k [(32, .pointer (some ⟨g4623, 0, none⟩))] rfl rfl ⟨f.1, trivial⟩ (by kernel_rfl))) ?_
            refine sc (fun _ _ _ f _ _ => px (or_field fo77_3 f.1 (by rfl))) ?_
            refine sc (fun _ _ _ f _ hE => px (or_load1 to74 f.1 (Blk.at_ (be_ hE b9085_g4623).2 3 rfl))) ?_
            refine sc (fun _ _ _ _ s hE => px (or_load (l := [.int .i64 x9081.1, .int .i64 x9081.2]) ta25 (s.1.trans e9085_9) (Blk.cellsFrom (be_ hE b9085_g9082).2 0 rfl) rfl)) ?_
            refine sc (fun _ _ _ f _ hE => px (or_lookupE (kf := vv25) (vf := vv4) (k := x9081) (dv := false) ko25 tm74 tzv74 f.1 f.2.1 (MpO.evo (by decide) hE b9085_g4619) rfl)) ?_
            refine sc (fun _ _ _ f _ _ => px (or_not f.1 rfl)) ?_
            exact steps_nil
          intro own9157 a9157 w9157 hd9157 hz9157 hk9157 hf9157 hE9157
          have e9157_5 := (hk9157 5 rfl).trans e9085_5
          have e9157_7 := (hk9157 7 rfl).trans e9085_7
          have e9157_8 := (hk9157 8 rfl).trans e9085_8
          have e9157_9 := (hk9157 9 rfl).trans e9085_9
          have e9157_18 := (hk9157 18 rfl).trans e9085_18
          have e9157_19 := (hk9157 19 rfl).trans e9085_19
          have e9157_20 := (hk9157 20 rfl).trans e9085_20
          have e9157_25 := (hk9157 25 rfl).trans e9085_25
          have e9157_26 := (hk9157 26 rfl).trans e9085_26
          have e9157_27 := (hk9157 27 rfl).trans e9085_27
          obtain ⟨(e9157_38 : a9157.eval (.tmp 38) = .bool (!((lkM g8202 x9081).getD false))), -⟩ := hf9157 [6] rfl
          have hX9157 := es_ hX9085 hE9157
          have b9157_g4623 := be_ hE9157 b9085_g4623
          have b9157_cA4606 := be_ hE9157 b9085_cA4606
          have b9157_A8186 := re_ hE9157 b9085_A8186
          have b9157_cA4608 := MpN.evo rfl hE9157 b9085_cA4608
          have b9157_A8193 := re_ hE9157 b9085_A8193
          have b9157_A4618 := re_ hE9157 b9085_A4618
          have b9157_A8197 := re_ hE9157 b9085_A8197
          have b9157_g4619 := MpO.evo (by decide) hE9157 b9085_g4619
          have b9157_g4621 := MpO.evo (by decide) hE9157 b9085_g4621
          have b9157_g7692 := be_ hE9157 b9085_g7692
          have b9157_A7691 := RdO.evo rfl hE9157 b9085_A7691
          have b9157_Al2 := RdO.evo rfl hE9157 b9085_Al2
          have b9157_g9082 := be_ hE9157 b9085_g9082
          refine fl_cond e9157_38 hs (fun c9158 hs => ?_) (fun c9158 hs => ?_)
          · obtain ⟨D9159, hD9159, hs⟩ := obind hs
            refine rg_draw_seq g_mixed (n := 91) (rs := [Fct.mapAt 8201 g4619 vv25 vv4 g8202]) (own0 := own9157) (K := [8201]) (bs := [0, 1, 3, 7, 0, 31]) (ds := [⟨[], [5], [], Fct.val 39 (.pointer (some ⟨g4623, 0, none⟩))⟩,     ⟨[0], [], [], Fct.val 40 (.pointer (some ⟨g4623, 0, none⟩))⟩,     ⟨[1], [], [], Fct.val 41 (.pointer (some ⟨g4623, 3, none⟩))⟩,     ⟨[2], [], [], Fct.val 42 (.map (some g4619))⟩,     ⟨[], [9], [], Fct.val 43 (.agg #[.int .i64 x9081.1, .int .i64 x9081.2])⟩,     ⟨[3, 4, 6], [], [8201], Fct.mapAt 9160 g4619 vv25 vv4 D9159⟩]) (by kernel_rfl) hz9157 hd9157 (by simp only [List.forall_mem_cons]; exact ⟨b9157_g4619, fun _ h => nomatch h⟩) ?_ ?_
            · refine sc (fun _ _ _ _ s _ => px (or_move (s.1.trans e9157_5))) ?_
              refine sc (fun _ _ _ f _ _ => px (or_k [(39, .pointer (some ⟨g4623, 0, none⟩))] rfl rfl ⟨f.1, trivial⟩ (by kernel_rfl))) ?_
              refine sc (fun _ _ _ f _ _ => px (or_field fo77_3 f.1 (by rfl))) ?_
              refine sc (fun _ _ _ f _ hE => px (or_load1 to74 f.1 (Blk.at_ (be_ hE b9157_g4623).2 3 rfl))) ?_
              refine sc (fun _ _ _ _ s hE => px (or_load (l := [.int .i64 x9081.1, .int .i64 x9081.2]) ta25 (s.1.trans e9157_9) (Blk.cellsFrom (be_ hE b9157_g9082).2 0 rfl) rfl)) ?_
              refine sc (fun own a wx hf hsl hE => ?_) ?_
              · obtain ⟨f_42, f_43, b_g4619, -⟩ := hf
                exact px (or_mapUpdate (kf := vv25) (vf := vv4) (k := x9081) (v := true) (lab := 8201) (lab2 := 9160) ko25 tm74 f_42 f_43 rfl b_g4619 (osome hD9159).symm (mem_of rfl) (by decide) (fun own' a' w' hb => hb))
              exact steps_nil
            intro own9161 a9161 w9161 hd9161 hz9161 hk9161 hf9161 hE9161
            have e9161_5 := (hk9161 5 rfl).trans e9157_5
            have e9161_7 := (hk9161 7 rfl).trans e9157_7
            have e9161_8 := (hk9161 8 rfl).trans e9157_8
            have e9161_9 := (hk9161 9 rfl).trans e9157_9
            have e9161_18 := (hk9161 18 rfl).trans e9157_18
            have e9161_19 := (hk9161 19 rfl).trans e9157_19
            have e9161_20 := (hk9161 20 rfl).trans e9157_20
            have e9161_25 := (hk9161 25 rfl).trans e9157_25
            have e9161_26 := (hk9161 26 rfl).trans e9157_26
            have e9161_27 := (hk9161 27 rfl).trans e9157_27
            obtain ⟨(b9161_g4619 : MpO own9161 9160 w9161 g4619 vv25 vv4 D9159), -⟩ := hf9161 [5] rfl
            have hX9161 := es_ hX9157 hE9161
            have b9161_g4623 := be_ hE9161 b9157_g4623
            have b9161_cA4606 := be_ hE9161 b9157_cA4606
            have b9161_A8186 := re_ hE9161 b9157_A8186
            have b9161_cA4608 := MpN.evo rfl hE9161 b9157_cA4608
            have b9161_A8193 := re_ hE9161 b9157_A8193
            have b9161_A4618 := re_ hE9161 b9157_A4618
            have b9161_A8197 := re_ hE9161 b9157_A8197
            have b9161_g4621 := MpO.evo (by decide) hE9161 b9157_g4621
            have b9161_g7692 := be_ hE9161 b9157_g7692
            have b9161_A7691 := RdO.evo rfl hE9161 b9157_A7691
            have b9161_Al2 := RdO.evo rfl hE9161 b9157_Al2
            have b9161_g9082 := be_ hE9161 b9157_g9082
            obtain ⟨x9171, hx9171, hs⟩ := obind hs
            refine rg_draw_seq g_mixed (n := 91) (rs := [Fct.rowAt 8200 [] 25 R25 A8197 c8198 g8199, Fct.at_ 8184 g4623 77 #[.pointer (some ⟨cA4606, 0, none⟩), .slice A4618 x4616.length cA4618, .slice A8197 g8199.length c8198, .map (some g4619), .map (some g4621)]]) (own0 := own9161) (K := [8200, 8184]) (bs := [0, 0, 2, 6, 14, 0, 32, 126, 255, 511, 1023]) (ds := [⟨[], [5], [], Fct.val 44 (.pointer (some ⟨g4623, 0, none⟩))⟩,     ⟨[], [5], [], Fct.val 45 (.pointer (some ⟨g4623, 0, none⟩))⟩,     ⟨[1], [], [], Fct.val 46 (.pointer (some ⟨g4623, 0, none⟩))⟩,     ⟨[2], [], [], Fct.val 47 (.pointer (some ⟨g4623, 2, none⟩))⟩,     ⟨[3, 12], [], [], Fct.val 48 (.slice A8197 g8199.length c8198)⟩,     ⟨[], [9], [], Fct.val 49 (.agg #[.int .i64 x9081.1, .int .i64 x9081.2])⟩,     ⟨[5], [], [], Fct.row 9170 [] 50 25 R25 [x9081]⟩,     ⟨[4, 6, 11], [], [8200], Fct.row 9172 [] 51 25 R25 x9171⟩,     ⟨[0], [], [], Fct.val 52 (.pointer (some ⟨g4623, 0, none⟩))⟩,     ⟨[8], [], [], Fct.val 53 (.pointer (some ⟨g4623, 2, none⟩))⟩,     ⟨[9, 7, 12], [], [8184], Fct.by_ [9174] [51] (fun l own w => ∀ (A9173 : Option Addr) (cA9173 : Nat), l.getD 0 undef = .slice A9173 x9171.length cA9173 → BlkO own 9174 w g4623 77 #[.pointer (some ⟨cA4606, 0, none⟩), .slice A4618 x4616.length cA4618, .slice A9173 x9171.length cA9173, .map (some g4619), .map (some g4621)]) (fun hk he h _ _ h0' => BlkO.evo (not_hit hk (by decide)) he (h _ _ h0'))⟩]) (by kernel_rfl) hz9161 hd9161 (by simp only [List.forall_mem_cons]; exact ⟨b9161_A8197, b9161_g4623, fun _ h => nomatch h⟩) ?_ ?_
            · refine sc (fun _ _ _ _ s _ => px (or_move (s.1.trans e9161_5))) ?_
              refine sc (fun _ _ _ _ s _ => px (or_move (s.1.trans e9161_5))) ?_
              refine sc (fun _ _ _ f _ _ => px (or_k [(45, .pointer (some ⟨g4623, 0, none⟩))] rfl rfl ⟨f.1, trivial⟩ (by kernel_rfl))) ?_
              refine sc (fun _ _ _ f _ _ => px (or_field fo77_2 f.1 (by rfl))) ?_
              refine sc (fun own a wx hf hsl hE => ?_) ?_
              · obtain ⟨f_47, (b_g4623 : BlkO own 8184 wx g4623 77 #[.pointer (some ⟨cA4606, 0, none⟩), .slice A4618 x4616.length cA4618, .slice A8197 g8199.length c8198, .map (some g4619), .map (some g4621)]), -⟩ := hf
                exact px (or_load1 to55 f_47 (Blk.at_ b_g4623.2 2 rfl))
              refine sc (fun _ _ _ _ s hE => px (or_load (l := [.int .i64 x9081.1, .int .i64 x9081.2]) ta25 (s.1.trans e9161_9) (Blk.cellsFrom (be_ hE b9161_g9082).2 0 rfl) rfl)) ?_
              refine sc (fun _ _ _ f _ _ => px (or_lit (lab := 9170) (e := 25) (cs := #[.int .i64 x9081.1, .int .i64 x9081.2]) (F := E25) (or_new [(49, .agg #[.int .i64 x9081.1, .int .i64 x9081.2])] rfl rfl ⟨f.1, trivial⟩ (by kernel_rfl)) rfl rfl (show 1 ≤ maxLen by decide))) ?_
              refine sc (fun own a wx hf hsl hE => ?_) ?_
              · obtain ⟨f_48, ⟨⟨A9169, cA9169⟩, f_50, b_A9169⟩, b_A8197, -⟩ := hf
                exact px (or_append (R := R25) (lab := 8200) (lab2 := 9172) (L := []) (L3 := []) tp55 f_48 b_A8197 (by decide) f_50 (RwO.rd b_A9169) hx9171 (by decide) (by decide) (mem_of rfl) (.inl (Rep.fl_flat _)))
              refine sc (fun _ _ _ f _ _ => px (or_k [(44, .pointer (some ⟨g4623, 0, none⟩))] rfl rfl ⟨f.1, trivial⟩ (by kernel_rfl))) ?_
              refine sc (fun _ _ _ f _ _ => px (or_field fo77_2 f.1 (by rfl))) ?_
              refine sc (fun own a wx hf hsl hE => ?_) ?_
              · obtain ⟨f_53, ⟨⟨A9173, cA9173⟩, (f_51 : a.eval (.tmp 51) = .slice A9173 x9171.length cA9173), b_A9173⟩, b_g4623, -⟩ := hf
                exact px (or_store1 (lab := 8184) (lab2 := 9174) ts55 f_53 f_51 b_g4623 (by simp) rfl (mem_of rfl) (by decide) rfl (fun own' a' w' ha hb => fun _ _ h0' => by cases (f_51.symm.trans ((ha 51).symm.trans h0')); exact hb))
              exact steps_nil
            intro own9175 a9175 w9175 hd9175 hz9175 hk9175 hf9175 hE9175
            have e9175_5 := (hk9175 5 rfl).trans e9161_5
            have e9175_7 := (hk9175 7 rfl).trans e9161_7
            have e9175_8 := (hk9175 8 rfl).trans e9161_8
            have e9175_9 := (hk9175 9 rfl).trans e9161_9
            have e9175_18 := (hk9175 18 rfl).trans e9161_18
            have e9175_19 := (hk9175 19 rfl).trans e9161_19
            have e9175_20 := (hk9175 20 rfl).trans e9161_20
            have e9175_25 := (hk9175 25 rfl).trans e9161_25
            have e9175_26 := (hk9175 26 rfl).trans e9161_26
            have e9175_27 := (hk9175 27 rfl).trans e9161_27
            obtain ⟨⟨⟨A9173, cA9173⟩, (f_51 : a9175.eval (.tmp 51) = .slice A9173 x9171.length cA9173), (b9175_A9173 : RwO own9175 9172 [] w9175 25 R25 A9173 cA9173 x9171)⟩, (bq_g4623 : ∀ (A9173 : Option Addr) (cA9173 : Nat), a9175.eval (.tmp 51) = .slice A9173 x9171.length cA9173 → BlkO own9175 9174 w9175 g4623 77 #[.pointer (some ⟨cA4606, 0, none⟩), .slice A4618 x4616.length cA4618, .slice A9173 x9171.length cA9173, .map (some g4619), .map (some g4621)]), -⟩ := hf9175 [7, 10] rfl
            have b9175_g4623 := bq_g4623 _ _ f_51
            have hX9175 := es_ hX9161 hE9175
            have b9175_cA4606 := be_ hE9175 b9161_cA4606
            have b9175_A8186 := re_ hE9175 b9161_A8186
            have b9175_cA4608 := MpN.evo rfl hE9175 b9161_cA4608
            have b9175_A8193 := re_ hE9175 b9161_A8193
            have b9175_A4618 := re_ hE9175 b9161_A4618
            have b9175_g4621 := MpO.evo (by decide) hE9175 b9161_g4621
            have b9175_g7692 := be_ hE9175 b9161_g7692
            have b9175_A7691 := RdO.evo rfl hE9175 b9161_A7691
            have b9175_Al2 := RdO.evo rfl hE9175 b9161_Al2
            have b9175_g9082 := be_ hE9175 b9161_g9082
            have b9175_g4619 := MpO.evo (by decide) hE9175 b9161_g4619
            obtain ⟨r9186, hr9186, hs⟩ := obind hs
            refine rg_draw g_mixed (n := 91) (rs := [Fct.at_ 8185 cA4606 106 #[.slice A8186 g8188.length c8187, .map (some cA4608), .slice A8193 g8195.length c8194], Fct.rowAt 8189 [] 80 R80 A8186 c8187 g8188, Fct.mapnAt 8190 8192 [] cA4608 vv111 3 R3 g8191, Fct.rowAt 8196 [] 3 R3 A8193 c8194 g8195]) (own0 := own9175) (K := [8185, 8189, 8190, 8192, 8196]) (bs := [0, 1, 3, 7, 15, 0, 0, 96, 224, 511]) (ds := [⟨[], [5], [], Fct.val 54 (.pointer (some ⟨g4623, 0, none⟩))⟩,     ⟨[0], [], [], Fct.val 55 (.pointer (some ⟨g4623, 0, none⟩))⟩,     ⟨[1], [], [], Fct.val 56 (.pointer (some ⟨g4623, 0, none⟩))⟩,     ⟨[2], [], [], Fct.val 57 (.pointer (some ⟨g4623, 0, none⟩))⟩,     ⟨[3], [], [], Fct.val 58 (.pointer (some ⟨cA4606, 0, none⟩))⟩,     ⟨[], [9], [], Fct.val 59 (.agg #[.int .i64 x9081.1, .int .i64 x9081.2])⟩,     ⟨[], [9], [], Fct.val 60 (.agg #[.int .i64 x9081.1, .int .i64 x9081.2])⟩,     ⟨[5, 6], [], [], Fct.val 61 (.agg #[.int .i64 x9081.1, .int .i64 x9081.2, .int .i64 x9081.1, .int .i64 x9081.2])⟩,     ⟨[7], [], [], Fct.row 9185 [] 62 80 R80 [(x9081, x9081)]⟩,     ⟨[4, 8, 10, 11, 12, 13], [], [8185, 8189, 8190, 8192, 8196], Fct.mems [9189, 9190, 9191, 9192, 9193] 63 (fun (x : (Option Addr × Nat) × (Option Addr × Nat)) => .int .i64 r9186.1) (fun (x : (Option Addr × Nat) × (Option Addr × Nat)) own w => RwO own 9189 [] w 80 R80 x.1.1 x.1.2 r9186.2.1 ∧ MpN own 9190 9191 [] w cA4608 vv111 3 R3 r9186.2.2.1 ∧ RwO own 9192 [] w 3 R3 x.2.1 x.2.2 r9186.2.2.2 ∧ BlkO own 9193 w cA4606 106 #[.slice x.1.1 r9186.2.1.length x.1.2, .map (some cA4608), .slice x.2.1 r9186.2.2.2.length x.2.2]) (fun hk he h => ⟨RwO.evo (hits_sub hk (by decide)) he h.1, MpN.evo (hits_sub hk (by decide)) he h.2.1, RwO.evo (hits_sub hk (by decide)) he h.2.2.1, BlkO.evo (not_hit hk (by decide)) he h.2.2.2⟩)⟩]) (by kernel_rfl) hz9175 hd9175 (by simp only [List.forall_mem_cons]; exact ⟨b9175_cA4606, b9175_A8186, b9175_cA4608, b9175_A8193, fun _ h => nomatch h⟩) ?_ ?_
            · refine sc (fun _ _ _ _ s _ => px (or_move (s.1.trans e9175_5))) ?_
              refine sc (fun _ _ _ f _ _ => px (or_k [(54, .pointer (some ⟨g4623, 0, none⟩))] rfl rfl ⟨f.1, trivial⟩ (by kernel_rfl))) ?_
              refine sc (fun _ _ _ f _ _ => px (or_field fo77_0 f.1 (by rfl))) ?_
              refine sc (fun _ _ _ f _ _ => px (or_field fo73_0 f.1 (by rfl))) ?_
              refine sc (fun _ _ _ f _ hE => px (or_load1 to70 f.1 (Blk.at_ (be_ hE b9175_g4623).2 0 rfl))) ?_
              refine sc (fun _ _ _ _ s hE => px (or_load (l := [.int .i64 x9081.1, .int .i64 x9081.2]) ta25 (s.1.trans e9175_9) (Blk.cellsFrom (be_ hE b9175_g9082).2 0 rfl) rfl)) ?_
              refine sc (fun _ _ _ _ s hE => px (or_load (l := [.int .i64 x9081.1, .int .i64 x9081.2]) ta25 (s.1.trans e9175_9) (Blk.cellsFrom (be_ hE b9175_g9082).2 0 rfl) rfl)) ?_
              refine sc (fun _ _ _ f _ _ => px (or_k [(59, .agg #[.int .i64 x9081.1, .int .i64 x9081.2]), (60, .agg #[.int .i64 x9081.1, .int .i64 x9081.2])] rfl rfl ⟨f.1, f.2.1, trivial⟩ (by kernel_rfl))) ?_
              refine sc (fun _ _ _ f _ _ => px (or_lit (lab := 9185) (e := 80) (cs := #[.int .i64 x9081.1, .int .i64 x9081.2, .int .i64 x9081.1, .int .i64 x9081.2]) (F := E80) (or_new [(61, .agg #[.int .i64 x9081.1, .int .i64 x9081.2, .int .i64 x9081.1, .int .i64 x9081.2])] rfl rfl ⟨f.1, trivial⟩ (by kernel_rfl)) rfl rfl (show 1 ≤ maxLen by decide))) ?_
              refine sc (fun own a wx hf hsl hE => ?_) ?_
              · obtain ⟨f_58, ⟨⟨A9184, cA9184⟩, f_62, b_A9184⟩, b_cA4606, b_A8186, b_cA4608, b_A8193, -⟩ := hf
                exact px (or_call cf29 (args2 f_58 f_62) (rows_Index_Add_w _ (forth own (look0 [(8185, 1), (8189, 2), (8190, 3), (8192, 4), (8196, 5)])) (g8188, g8191, g8195) cA4606 106 A8186 c8187 cA4608 A8193 c8194 [(x9081, x9081)] A9184 cA9184 (look0_le rfl) (BlkO.forth_ (m := (look0 [(8185, 1), (8189, 2), (8190, 3), (8192, 4), (8196, 5)])) b_cA4606) (RwO.forth_ (m := (look0 [(8185, 1), (8189, 2), (8190, 3), (8192, 4), (8196, 5)])) b_A8186) (MpN.forth_ (m := (look0 [(8185, 1), (8189, 2), (8190, 3), (8192, 4), (8196, 5)])) b_cA4608) (RwO.forth_ (m := (look0 [(8185, 1), (8189, 2), (8190, 3), (8192, 4), (8196, 5)])) b_A8193) (RdO.forth_ (m := (look0 [(8185, 1), (8189, 2), (8190, 3), (8192, 4), (8196, 5)])) (RwO.rd b_A9184)) r9186 hr9186) (post_mems (m := (look0 [(8185, 1), (8189, 2), (8190, 3), (8192, 4), (8196, 5)])) (m' := (look0 [(1, 9193), (2, 9189), (3, 9190), (4, 9191), (5, 9192)])) (hm_of rfl) (fun own' w' a' x h1 h => ⟨x, h1, ⟨RwO.back_ h.1 (by decide) (.inl (Rep.fl_flat _)), MpN.back_ h.2.1 (by decide) (by decide) (.inl (Rep.fl_flat _)), RwO.back_ h.2.2.1 (by decide) (.inl (Rep.fl_flat _)), BlkO.back_ h.2.2.2 (by decide)⟩⟩)))
              exact steps_nil
            intro own9194 a9194 w9194 hd9194 hz9194 hk9194 hf9194 hE9194
            have e9194_5 := (hk9194 5 rfl).trans e9175_5
            have e9194_7 := (hk9194 7 rfl).trans e9175_7
            have e9194_8 := (hk9194 8 rfl).trans e9175_8
            have e9194_9 := (hk9194 9 rfl).trans e9175_9
            have e9194_18 := (hk9194 18 rfl).trans e9175_18
            have e9194_19 := (hk9194 19 rfl).trans e9175_19
            have e9194_20 := (hk9194 20 rfl).trans e9175_20
            have e9194_25 := (hk9194 25 rfl).trans e9175_25
            have e9194_26 := (hk9194 26 rfl).trans e9175_26
            have e9194_27 := (hk9194 27 rfl).trans e9175_27
            obtain ⟨⟨⟨⟨A9187, cA9187⟩, ⟨A9188, cA9188⟩⟩, (f_63 : a9194.eval (.tmp 63) = .int .i64 r9186.1), (b9194_A9187 : RwO own9194 9189 [] w9194 80 R80 A9187 cA9187 r9186.2.1), (b9194_cA4608 : MpN own9194 9190 9191 [] w9194 cA4608 vv111 3 R3 r9186.2.2.1), (b9194_A9188 : RwO own9194 9192 [] w9194 3 R3 A9188 cA9188 r9186.2.2.2), (b9194_cA4606 : BlkO own9194 9193 w9194 cA4606 106 #[.slice A9187 r9186.2.1.length cA9187, .map (some cA4608), .slice A9188 r9186.2.2.2.length cA9188])⟩, -⟩ := hf9194 [9] rfl
            have hX9194 := es_ hX9175 hE9194
            have b9194_A4618 := re_ hE9194 b9175_A4618
            have b9194_g4621 := MpO.evo (by decide) hE9194 b9175_g4621
            have b9194_g7692 := be_ hE9194 b9175_g7692
            have b9194_A7691 := RdO.evo rfl hE9194 b9175_A7691
            have b9194_Al2 := RdO.evo rfl hE9194 b9175_Al2
            have b9194_g9082 := be_ hE9194 b9175_g9082
            have b9194_g4619 := MpO.evo (by decide) hE9194 b9175_g4619
            have b9194_g4623 := be_ hE9194 b9175_g4623
            have b9194_A9173 := re_ hE9194 b9175_A9173
            exact (K9144 _ _ (rl [(9160, 9142), (9172, 9141), (9174, 9125), (9189, 9130), (9190, 9131), (9191, 9133), (9192, 9137), (9193, 9126)] own9194) _ _ _ _ _ A9187 cA9187 A9188 cA9188 A9173 cA9173 hd9194 hz9194 e9194_5 e9194_7 e9194_8 e9194_9 e9194_18 e9194_19 e9194_20 e9194_25 e9194_26 e9194_27 (Evo.rl_ hX9194 (fun _ => Nat.le_refl 0) rfl) (BlkO.rl_ (mm := [(9160, 9142), (9172, 9141), (9174, 9125), (9189, 9130), (9190, 9131), (9191, 9133), (9192, 9137), (9193, 9126)]) b9194_g4623) (BlkO.rl_ (mm := [(9160, 9142), (9172, 9141), (9174, 9125), (9189, 9130), (9190, 9131), (9191, 9133), (9192, 9137), (9193, 9126)]) b9194_cA4606) (RwO.rl_ (mm := [(9160, 9142), (9172, 9141), (9174, 9125), (9189, 9130), (9190, 9131), (9191, 9133), (9192, 9137), (9193, 9126)]) b9194_A9187) (MpN.rl_ (mm := [(9160, 9142), (9172, 9141), (9174, 9125), (9189, 9130), (9190, 9131), (9191, 9133), (9192, 9137), (9193, 9126)]) b9194_cA4608) (RwO.rl_ (mm := [(9160, 9142), (9172, 9141), (9174, 9125), (9189, 9130), (9190, 9131), (9191, 9133), (9192, 9137), (9193, 9126)]) b9194_A9188) (RwO.rl_ (mm := [(9160, 9142), (9172, 9141), (9174, 9125), (9189, 9130), (9190, 9131), (9191, 9133), (9192, 9137), (9193, 9126)]) b9194_A4618) (RwO.rl_ (mm := [(9160, 9142), (9172, 9141), (9174, 9125), (9189, 9130), (9190, 9131), (9191, 9133), (9192, 9137), (9193, 9126)]) b9194_A9173) (MpO.rl_ (mm := [(9160, 9142), (9172, 9141), (9174, 9125), (9189, 9130), (9190, 9131), (9191, 9133), (9192, 9137), (9193, 9126)]) b9194_g4619) (MpO.rl_ (mm := [(9160, 9142), (9172, 9141), (9174, 9125), (9189, 9130), (9190, 9131), (9191, 9133), (9192, 9137), (9193, 9126)]) b9194_g4621) (BlkO.rl_ (mm := [(9160, 9142), (9172, 9141), (9174, 9125), (9189, 9130), (9190, 9131), (9191, 9133), (9192, 9137), (9193, 9126)]) b9194_g7692) (RdO.rl_ (mm := [(9160, 9142), (9172, 9141), (9174, 9125), (9189, 9130), (9190, 9131), (9191, 9133), (9192, 9137), (9193, 9126)]) b9194_A7691) (BlkO.rl_ (mm := [(9160, 9142), (9172, 9141), (9174, 9125), (9189, 9130), (9190, 9131), (9191, 9133), (9192, 9137), (9193, 9126)]) b9194_g9082) (RdO.rl_ (mm := [(9160, 9142), (9172, 9141), (9174, 9125), (9189, 9130), (9190, 9131), (9191, 9133), (9192, 9137), (9193, 9126)]) b9194_Al2) hs)
          refine fl_skip ?_
          exact (K9144 _ _ (rl [(8184, 9125), (8185, 9126), (8189, 9130), (8190, 9131), (8192, 9133), (8196, 9137), (8200, 9141), (8201, 9142)] own9157) _ _ _ _ _ A8186 c8187 A8193 c8194 A8197 c8198 hd9157 hz9157 e9157_5 e9157_7 e9157_8 e9157_9 e9157_18 e9157_19 e9157_20 e9157_25 e9157_26 e9157_27 (Evo.rl_ hX9157 (fun _ => Nat.le_refl 0) rfl) (BlkO.rl_ (mm := [(8184, 9125), (8185, 9126), (8189, 9130), (8190, 9131), (8192, 9133), (8196, 9137), (8200, 9141), (8201, 9142)]) b9157_g4623) (BlkO.rl_ (mm := [(8184, 9125), (8185, 9126), (8189, 9130), (8190, 9131), (8192, 9133), (8196, 9137), (8200, 9141), (8201, 9142)]) b9157_cA4606) (RwO.rl_ (mm := [(8184, 9125), (8185, 9126), (8189, 9130), (8190, 9131), (8192, 9133), (8196, 9137), (8200, 9141), (8201, 9142)]) b9157_A8186) (MpN.rl_ (mm := [(8184, 9125), (8185, 9126), (8189, 9130), (8190, 9131), (8192, 9133), (8196, 9137), (8200, 9141), (8201, 9142)]) b9157_cA4608) (RwO.rl_ (mm := [(8184, 9125), (8185, 9126), (8189, 9130), (8190, 9131), (8192, 9133), (8196, 9137), (8200, 9141), (8201, 9142)]) b9157_A8193) (RwO.rl_ (mm := [(8184, 9125), (8185, 9126), (8189, 9130), (8190, 9131), (8192, 9133), (8196, 9137), (8200, 9141), (8201, 9142)]) b9157_A4618) (RwO.rl_ (mm := [(8184, 9125), (8185, 9126), (8189, 9130), (8190, 9131), (8192, 9133), (8196, 9137), (8200, 9141), (8201, 9142)]) b9157_A8197) (MpO.rl_ (mm := [(8184, 9125), (8185, 9126), (8189, 9130), (8190, 9131), (8192, 9133), (8196, 9137), (8200, 9141), (8201, 9142)]) b9157_g4619) (MpO.rl_ (mm := [(8184, 9125), (8185, 9126), (8189, 9130), (8190, 9131), (8192, 9133), (8196, 9137), (8200, 9141), (8201, 9142)]) b9157_g4621) (BlkO.rl_ (mm := [(8184, 9125), (8185, 9126), (8189, 9130), (8190, 9131), (8192, 9133), (8196, 9137), (8200, 9141), (8201, 9142)]) b9157_g7692) (RdO.rl_ (mm := [(8184, 9125), (8185, 9126), (8189, 9130), (8190, 9131), (8192, 9133), (8196, 9137), (8200, 9141), (8201, 9142)]) b9157_A7691) (BlkO.rl_ (mm := [(8184, 9125), (8185, 9126), (8189, 9130), (8190, 9131), (8192, 9133), (8196, 9137), (8200, 9141), (8201, 9142)]) b9157_g9082) (RdO.rl_ (mm := [(8184, 9125), (8185, 9126), (8189, 9130), (8190, 9131), (8192, 9133), (8196, 9137), (8200, 9141), (8201, 9142)]) b9157_Al2) hs)
        refine fl_exit ?_
        refine hp8703 _ _ _ rfl ?_
        replace hs := hz8700 _ hs
        refine hp8700 _ _ _ rfl ?_
        refine hx7697 _ _ ?_
        refine hn7689 _ _ ?_
        refine hn7688 _ _ ?_
        refine rg0 91 own8702 (bz 2) [⟨[], [20], [], Fct.val 89 (.int .i64 (ad x6170 1))⟩,     ⟨[0], [], [], Fct.val 20 (.int .i64 (ad x6170 1))⟩] hz8702 hd8702 (by kernel_rfl) ?_ ?_
        · refine sc (fun _ _ _ _ s _ => px (or_add (s.1.trans e8702_20) rfl rfl)) ?_
          refine sc (fun _ _ _ f _ _ => px (or_move f.1)) ?_
          exact steps_nil
        intro own9195 a9195 w9195 hd9195 hz9195 hk9195 hf9195 hE9195
        have e9195_5 := (hk9195 5 rfl).trans e8702_5
        have e9195_18 := (hk9195 18 rfl).trans e8702_18
        have e9195_19 := (hk9195 19 rfl).trans e8702_19
        obtain ⟨(e9195_20 : a9195.eval (.tmp 20) = .int .i64 (ad x6170 1)), -⟩ := hf9195 [1] rfl
        have hX9195 := es_ hX8702 hE9195
        have b9195_g4623 := be_ hE9195 b8702_g4623
        have b9195_cA4606 := be_ hE9195 b8702_cA4606
        have b9195_A8186 := re_ hE9195 b8702_A8186
        have b9195_cA4608 := MpN.evo rfl hE9195 b8702_cA4608
        have b9195_A8193 := re_ hE9195 b8702_A8193
        have b9195_A4618 := re_ hE9195 b8702_A4618
        have b9195_A8197 := re_ hE9195 b8702_A8197
        have b9195_g4619 := MpO.evo (by decide) hE9195 b8702_g4619
        have b9195_g4621 := MpO.evo (by decide) hE9195 b8702_g4621
        have b9195_Al2 := RdO.evo rfl hE9195 b8702_Al2
        exact hn7683 _ _ _ hs ⟨(rl [(8184, 6149), (8185, 6150), (8189, 6154), (8190, 6155), (8192, 6157), (8196, 6161), (8200, 6165), (8201, 6166), (8203, 6168)] own9195), A8186, c8187, A8193, c8194, A8197, c8198, hd9195, hz9195, e9195_5, e9195_18, e9195_19, e9195_20, (Evo.rl_ hX9195 (fun _ => Nat.le_refl 0) rfl), (BlkO.rl_ (mm := [(8184, 6149), (8185, 6150), (8189, 6154), (8190, 6155), (8192, 6157), (8196, 6161), (8200, 6165), (8201, 6166), (8203, 6168)]) b9195_g4623), (BlkO.rl_ (mm := [(8184, 6149), (8185, 6150), (8189, 6154), (8190, 6155), (8192, 6157), (8196, 6161), (8200, 6165), (8201, 6166), (8203, 6168)]) b9195_cA4606), (RwO.rl_ (mm := [(8184, 6149), (8185, 6150), (8189, 6154), (8190, 6155), (8192, 6157), (8196, 6161), (8200, 6165), (8201, 6166), (8203, 6168)]) b9195_A8186), (MpN.rl_ (mm := [(8184, 6149), (8185, 6150), (8189, 6154), (8190, 6155), (8192, 6157), (8196, 6161), (8200, 6165), (8201, 6166), (8203, 6168)]) b9195_cA4608), (RwO.rl_ (mm := [(8184, 6149), (8185, 6150), (8189, 6154), (8190, 6155), (8192, 6157), (8196, 6161), (8200, 6165), (8201, 6166), (8203, 6168)]) b9195_A8193), (RwO.rl_ (mm := [(8184, 6149), (8185, 6150), (8189, 6154), (8190, 6155), (8192, 6157), (8196, 6161), (8200, 6165), (8201, 6166), (8203, 6168)]) b9195_A4618), (RwO.rl_ (mm := [(8184, 6149), (8185, 6150), (8189, 6154), (8190, 6155), (8192, 6157), (8196, 6161), (8200, 6165), (8201, 6166), (8203, 6168)]) b9195_A8197), (MpO.rl_ (mm := [(8184, 6149), (8185, 6150), (8189, 6154), (8190, 6155), (8192, 6157), (8196, 6161), (8200, 6165), (8201, 6166), (8203, 6168)]) b9195_g4619), (MpO.rl_ (mm := [(8184, 6149), (8185, 6150), (8189, 6154), (8190, 6155), (8192, 6157), (8196, 6161), (8200, 6165), (8201, 6166), (8203, 6168)]) b9195_g4621), (RdO.rl_ (mm := [(8184, 6149), (8185, 6150), (8189, 6154), (8190, 6155), (8192, 6157), (8196, 6161), (8200, 6165), (8201, 6166), (8203, 6168)]) b9195_Al2)⟩
    refine fl_exit ?_
    refine hp7686 _ _ _ rfl ?_
    replace hs := hz7683 _ hs
    refine hp7683 _ _ _ rfl ?_
    refine hx4628 _ _ ?_
    refine hn4626 _ _ ?_
    refine rg0_seq 91 own7685 (bz 2) [⟨[], [5], [], Fct.val 90 (.pointer (some ⟨g4623, 0, none⟩))⟩,     ⟨[0], [], [], Fct.val 4 (.pointer (some ⟨g4623, 0, none⟩))⟩] hz7685 hd7685 (by kernel_rfl) ?_ ?_
    · refine sc (fun _ _ _ _ s _ => px (or_move (s.1.trans e7685_5))) ?_
      refine sc (fun _ _ _ f _ _ => px (or_assign f.1)) ?_
      exact steps_nil
    intro own9196 a9196 w9196 hd9196 hz9196 hk9196 hf9196 hE9196
    obtain ⟨(e9196_4 : a9196.eval (.tmp 4) = .pointer (some ⟨g4623, 0, none⟩)), -⟩ := hf9196 [1] rfl
    have hX9196 := es_ hX7685 hE9196
    have b9196_g4623 := be_ hE9196 b7685_g4623
    have b9196_cA4606 := be_ hE9196 b7685_cA4606
    have b9196_A6151 := re_ hE9196 b7685_A6151
    have b9196_cA4608 := MpN.evo rfl hE9196 b7685_cA4608
    have b9196_A6158 := re_ hE9196 b7685_A6158
    have b9196_A4618 := re_ hE9196 b7685_A4618
    have b9196_A6162 := re_ hE9196 b7685_A6162
    have b9196_g4619 := MpO.evo (by decide) hE9196 b7685_g4619
    have b9196_g4621 := MpO.evo (by decide) hE9196 b7685_g4621
    refine fl_ret ?_
    obtain rfl := osome hs
    exact hret _ _ _ _ (.inl rfl) hd9196 (results1_ rfl (RVal.tmp_ e9196_4)) ⟨(rl [(4617, 7), (6149, 1), (6150, 2), (6154, 3), (6155, 4), (6157, 5), (6161, 6), (6165, 8), (6166, 9), (6168, 10)] own9196), ((none, g4623), (none, cA4606), (A6151, c6152), (none, cA4608), (A6158, c6159), (A4618, cA4618), (A6162, c6163), (none, g4619), (none, g4621)), rfl, (Evo.rl_ hX9196 (fun _ => Nat.le_refl 0) rfl), (RwO.rl_ (mm := [(4617, 7), (6149, 1), (6150, 2), (6154, 3), (6155, 4), (6157, 5), (6161, 6), (6165, 8), (6166, 9), (6168, 10)]) b9196_A6151), (MpN.rl_ (mm := [(4617, 7), (6149, 1), (6150, 2), (6154, 3), (6155, 4), (6157, 5), (6161, 6), (6165, 8), (6166, 9), (6168, 10)]) b9196_cA4608), (RwO.rl_ (mm := [(4617, 7), (6149, 1), (6150, 2), (6154, 3), (6155, 4), (6157, 5), (6161, 6), (6165, 8), (6166, 9), (6168, 10)]) b9196_A6158), (BlkO.rl_ (mm := [(4617, 7), (6149, 1), (6150, 2), (6154, 3), (6155, 4), (6157, 5), (6161, 6), (6165, 8), (6166, 9), (6168, 10)]) b9196_cA4606), (RwO.rl_ (mm := [(4617, 7), (6149, 1), (6150, 2), (6154, 3), (6155, 4), (6157, 5), (6161, 6), (6165, 8), (6166, 9), (6168, 10)]) b9196_A4618), (RwO.rl_ (mm := [(4617, 7), (6149, 1), (6150, 2), (6154, 3), (6155, 4), (6157, 5), (6161, 6), (6165, 8), (6166, 9), (6168, 10)]) b9196_A6162), (MpO.rl_ (mm := [(4617, 7), (6149, 1), (6150, 2), (6154, 3), (6155, 4), (6157, 5), (6161, 6), (6165, 8), (6166, 9), (6168, 10)]) b9196_g4619), (MpO.rl_ (mm := [(4617, 7), (6149, 1), (6150, 2), (6154, 3), (6155, 4), (6157, 5), (6161, 6), (6165, 8), (6166, 9), (6168, 10)]) b9196_g4621), (BlkO.rl_ (mm := [(4617, 7), (6149, 1), (6150, 2), (6154, 3), (6155, 4), (6157, 5), (6161, 6), (6165, 8), (6166, 9), (6168, 10)]) b9196_g4623)⟩
end Go.Proofs.Ytoccfdohlefifaa
