import Derived.Test.YtoccfdohlefifaaBase
import Derived.Test.YtoccfdohlefifaaTy
import Derived.Test.YtoccfdohlefifaaSp1
namespace Go.Proofs.Ytoccfdohlefifaa
open Go.RowKit
set_option linter.unusedVariables false
set_option maxRecDepth 10000
theorem exact_within_w (w : World) (n1 : Int) (least2 : Int) (greatest3 : Int) (r : Bool) (hs : exact_within n1 least2 greatest3 = some r) :
    Calls Try.prog 52 #[.int .i64 n1, .int .i64 least2, .int .i64 greatest3] w fun e w' => ∃ own' : Own, e = .returned (.bool r) ∧ Evo [] (fun _ => 0) own' w w' := by
  refine fl_enter (n := 15) rfl rfl rfl (Nat.le_of_ble_eq_true rfl) ?_
  intro a0 Q hd0 hz0 harg hret
  have ha0 := harg 0 _ rfl
  have ha1 := harg 1 _ rfl
  have ha2 := harg 2 _ rfl
  clear harg
  have hE0 : Evo [] (fun _ => 0) (fun _ => 0) w w := Evo.refl _ _ _
  refine rg_plain_seq (n := 15) (rs := []) (own0 := (fun _ => 0)) (K := [])
      (bs := [0])
      (ds := [⟨[], [], [], Fct.val 6 (.bool false)⟩]) (by kernel_rfl) hz0 hd0 (fun _ h => nomatch h) ?_ ?_
  · refine sc (fun _ _ _ _ _ _ => px (or_assign rfl)) ?_
    exact steps_nil
  intro own14 a14 w14 hd14 hz14 hk14 hf14 hE14
  have e14_0 := (hk14 0 rfl).trans ha0
  have e14_1 := (hk14 1 rfl).trans ha1
  have e14_2 := (hk14 2 rfl).trans ha2
  have hX14 := Evo.step hE0 (fun _ => Nat.le_refl 0) hE14 rfl
  obtain ⟨x15, hx15, hs⟩ := obind hs
  refine rg_plain_seq (n := 15) (rs := []) (own0 := own14) (K := [])
      (bs := [0, 0, 3, 7, 15, 15, 63, 127, 255])
      (ds := [⟨[], [1], [], Fct.val 7 (.int .i64 least2)⟩,
      ⟨[], [0], [], Fct.val 8 (.int .i64 n1)⟩,
      ⟨[0, 1], [], [], Fct.val 9 (.bool (decide (least2 ≤ n1)))⟩,
      ⟨[2], [], [], Fct.val 10 (.bool (decide (least2 ≤ n1)))⟩,
      ⟨[3], [0], [], Fct.cond (decide (least2 ≤ n1)) (some 11) (Fct.val 11 (.int .i64 n1))⟩,
      ⟨[3], [2], [], Fct.cond (decide (least2 ≤ n1)) (some 12) (Fct.val 12 (.int .i64 greatest3))⟩,
      ⟨[3, 4, 5], [], [], Fct.cond (decide (least2 ≤ n1)) (some 13) (Fct.val 13 (.bool (decide (n1 ≤ greatest3))))⟩,
      ⟨[3, 6], [], [], Fct.val 14 (.bool x15)⟩,
      ⟨[7], [], [], Fct.val 6 (.bool x15)⟩]) (by kernel_rfl) hz14 hd14 (fun _ h => nomatch h) ?_ ?_
  · refine sc (fun _ _ _ _ s _ => px (or_move (s.1.trans e14_1))) ?_
    refine sc (fun _ _ _ _ s _ => px (or_move (s.1.trans e14_0))) ?_
    refine sc (fun _ _ _ f _ _ => px (or_leq f.1 f.2.1 rfl)) ?_
    refine sc (fun _ _ _ f _ _ => px (or_move f.1)) ?_
    refine sc (fun own a wx hf hsl hE => ?_) ?_
    · obtain ⟨(f_10 : a.eval (.tmp 10) = .bool (decide (least2 ≤ n1))), -⟩ := hf
      obtain ⟨s_0, -⟩ := hsl
      refine sg_t rfl rfl rfl f_10 (fun hg => ?_)
      exact or_move (s_0.trans e14_0)
    refine sc (fun own a wx hf hsl hE => ?_) ?_
    · obtain ⟨(f_10 : a.eval (.tmp 10) = .bool (decide (least2 ≤ n1))), -⟩ := hf
      obtain ⟨s_2, -⟩ := hsl
      refine sg_t rfl rfl rfl f_10 (fun hg => ?_)
      exact or_move (s_2.trans e14_2)
    refine sc (fun own a wx hf hsl hE => ?_) ?_
    · obtain ⟨(f_10 : a.eval (.tmp 10) = .bool (decide (least2 ≤ n1))), c_11, c_12, -⟩ := hf
      refine sg_t rfl rfl rfl f_10 (fun hg => ?_)
      have f_11 : a.eval (.tmp 11) = .int .i64 n1 := c_11.1 hg
      have f_12 : a.eval (.tmp 12) = .int .i64 greatest3 := c_12.1 hg
      exact or_leq f_11 f_12 rfl
    refine sc (fun own a wx hf hsl hE => ?_) ?_
    · obtain ⟨(f_10 : a.eval (.tmp 10) = .bool (decide (least2 ≤ n1))), c_13, -⟩ := hf
      exact px (or_and f_10 (fun hx => c_13.1 hx) rfl (osome hx15).symm)
    refine sc (fun _ _ _ f _ _ => px (or_assign f.1)) ?_
    exact steps_nil
  intro own16 a16 w16 hd16 hz16 hk16 hf16 hE16
  obtain ⟨(f_6 : a16.eval (.tmp 6) = .bool x15), -⟩ := hf16 [8] rfl
  have e16_6 := f_6
  have hX16 := Evo.step hX14 (fun _ => Nat.le_refl 0) hE16 rfl
  refine fl_ret ?_
  obtain rfl := (osome hs).symm
  exact hret _ _ _ _ (.inl rfl) hd16 (results1_ rfl (RVal.tmp_ e16_6)) ⟨own16, rfl, hX16⟩
theorem exact_Right_w (w : World) (l1 : List (Int × Int)) (Al1 : Option Addr) (cl1 : Nat) (hl1 : RdO (fun _ => 0) [0] w R25 Al1 cl1 l1) (r : Bool) (hs : exact_Right l1 = some r) :
    Calls Try.prog 32 #[.slice Al1 l1.length cl1] w fun e w' => ∃ own' : Own, e = .returned (.bool r) ∧ Evo [] (fun _ => 0) own' w w' := by
  refine fl_enter (n := 22) rfl rfl rfl (Nat.le_of_ble_eq_true rfl) ?_
  intro a0 Q hd0 hz0 harg hret
  have ha0 := harg 0 _ rfl
  clear harg
  have hE0 : Evo [] (fun _ => 0) (fun _ => 0) w w := Evo.refl _ _ _
  refine rg_plain_seq (n := 22) (rs := []) (own0 := (fun _ => 0)) (K := [])
      (bs := [0])
      (ds := [⟨[], [], [], Fct.val 2 (.bool false)⟩]) (by kernel_rfl) hz0 hd0 (fun _ h => nomatch h) ?_ ?_
  · refine sc (fun _ _ _ _ _ _ => px (or_assign rfl)) ?_
    exact steps_nil
  intro own69 a69 w69 hd69 hz69 hk69 hf69 hE69
  have e69_0 := (hk69 0 rfl).trans ha0
  have hX69 := Evo.step hE0 (fun _ => Nat.le_refl 0) hE69 rfl
  have b69_Al1 := RdO.evo rfl hE69 hl1
  refine fl_seq (fun Q70 hn70 hp70 => ?_)
  refine rg_plain_seq (n := 22) (rs := []) (own0 := own69) (K := [])
      (bs := [0, 1, 0])
      (ds := [⟨[], [0], [], Fct.val 5 (.slice Al1 l1.length cl1)⟩,
      ⟨[0], [], [], Fct.val 6 (.int .i64 (l1.length : Int))⟩,
      ⟨[], [], [], Fct.val 7 (.int .i64 0)⟩]) (by kernel_rfl) hz69 hd69 (fun _ h => nomatch h) ?_ ?_
  · refine sc (fun _ _ _ _ s _ => px (or_move (s.1.trans e69_0))) ?_
    refine sc (fun _ _ _ f _ _ => px (or_len tu55 f.1 rfl)) ?_
    refine sc (fun _ _ _ _ _ _ => px (or_move rfl)) ?_
    exact steps_nil
  intro own71 a71 w71 hd71 hz71 hk71 hf71 hE71
  obtain ⟨(f_5 : a71.eval (.tmp 5) = .slice Al1 l1.length cl1), (f_6 : a71.eval (.tmp 6) = .int .i64 (l1.length : Int)), (f_7 : a71.eval (.tmp 7) = .int .i64 0), -⟩ := hf71 [0, 1, 2] rfl
  have e71_5 := f_5
  have e71_6 := f_6
  have e71_7 := f_7
  have hX71 := Evo.step hX69 (fun _ => Nat.le_refl 0) hE71 rfl
  have b71_Al1 := RdO.evo rfl hE71 b69_Al1
  refine fl_block (fun Q72 hn72 hx72 hp72 => ?_)
  refine fl_loop (body := (fun s => exact_Right_b1 l1 s)) (z := r) (show loopO _ _ = _ from hs) (fun (x90 : Int) a wx => ∃ (ox : Own), a.defers = [] ∧ a.tmps.size = 22 ∧ a.eval (.tmp 5) = .slice Al1 l1.length cl1 ∧ a.eval (.tmp 6) = .int .i64 (l1.length : Int) ∧ a.eval (.tmp 7) = .int .i64 x90 ∧ Evo [] (fun _ => 0) ox w wx ∧ RdO ox [0] wx R25 Al1 cl1 l1) ?_ ?_
  · exact ⟨own71, hd71, hz71, e71_5, e71_6, e71_7, hX71, b71_Al1⟩
  · rintro x90 zz108 a108 w108 ⟨own108, hd109, hz109, e109_5, e109_6, e109_7, hE109, b109_Al1⟩ hs Q108 hn108 hp108 hz108
    have hs : exact_Right_b1 l1 x90 = some zz108 := hs
    refine rg_plain_seq (n := 22) (rs := []) (own0 := own108) (K := [])
        (bs := [0])
        (ds := [⟨[], [7, 6], [], Fct.val 8 (.bool (decide (x90 < (l1.length : Int))))⟩]) (by kernel_rfl) hz109 hd109 (fun _ h => nomatch h) ?_ ?_
    · refine sc (fun _ _ _ _ s _ => px (or_lss (s.1.trans e109_7) (s.2.1.trans e109_6) rfl)) ?_
      exact steps_nil
    intro own110 a110 w110 hd110 hz110 hk110 hf110 hE110
    have e110_5 := (hk110 5 rfl).trans e109_5
    have e110_6 := (hk110 6 rfl).trans e109_6
    have e110_7 := (hk110 7 rfl).trans e109_7
    obtain ⟨(f_8 : a110.eval (.tmp 8) = .bool (decide (x90 < (l1.length : Int)))), -⟩ := hf110 [0] rfl
    have e110_8 := f_8
    have hX110 := Evo.step hE109 (fun _ => Nat.le_refl 0) hE110 rfl
    have b110_Al1 := RdO.evo rfl hE110 b109_Al1
    refine fl_seq (fun Q111 hn111 hp111 => ?_)
    refine fl_cond e110_8 hs (fun c112 hs => ?_) (fun c112 hs => ?_)
    · refine fl_skip ?_
      refine hn111 _ _ ?_
      refine fl_seq (fun Q113 hn113 hp113 => ?_)
      refine fl_block (fun Q114 hn114 hx114 hp114 => ?_)
      obtain ⟨x115, hx115, hs⟩ := obind hs
      refine rg_plain_seq (n := 22) (rs := []) (own0 := own110) (K := [117])
          (bs := [0, 1, 0, 7])
          (ds := [⟨[], [5, 7], [], Fct.val 9 (.pointer (some ((adr Al1).add ((x90 : Int).toNat * R25.s))))⟩,
          ⟨[0], [], [], Fct.val 10 (.agg #[.int .i64 x115.1, .int .i64 x115.2])⟩,
          ⟨[], [], [], Fct.blk 117 4 (fun g => .pointer (some ⟨g, 0, none⟩)) 25 #[.int .i64 0, .int .i64 0]⟩,
          ⟨[2, 1], [], [117], Fct.blk 118 4 (fun g => .pointer (some ⟨g, 0, none⟩)) 25 #[.int .i64 x115.1, .int .i64 x115.2]⟩]) (by kernel_rfl) hz110 hd110 (fun _ h => nomatch h) ?_ ?_
      · refine sc (fun _ _ _ _ s _ => px (or_index (R := R25) (l := l1) tl55 (s.1.trans e110_5) (s.2.1.trans e110_7) (RdO.some_ b110_Al1 hx115) hx115)) ?_
        refine sc (fun _ _ _ f _ hE => px (or_load (l := E25.f x115) ta25 f.1 (RdO.cells (F := E25) (RdO.evo rfl hE b110_Al1) hx115) rfl)) ?_
        refine sc (fun _ _ _ _ _ _ => px (or_new [] rfl rfl trivial (by kernel_rfl))) ?_
        refine sc (fun own a wx hf hsl hE => ?_) ?_
        · obtain ⟨⟨g116, (f_4 : a.eval (.tmp 4) = .pointer (some ⟨g116, 0, none⟩)), (b_g116 : BlkO own 117 wx g116 25 #[.int .i64 0, .int .i64 0])⟩, (f_10 : a.eval (.tmp 10) = .agg #[.int .i64 x115.1, .int .i64 x115.2]), -⟩ := hf
          exact px (or_store (l := #[.int .i64 x115.1, .int .i64 x115.2]) (lab := 117) (lab2 := 118) ts25 f_4 f_10 b_g116 (by simp) (by kernel_rfl) (mem_of rfl) (by decide) (by kernel_rfl) (fun own' a' w' ha hb => ⟨_, (ha 4).trans f_4, hb⟩))
        exact steps_nil
      intro own119 a119 w119 hd119 hz119 hk119 hf119 hE119
      have e119_5 := (hk119 5 rfl).trans e110_5
      have e119_6 := (hk119 6 rfl).trans e110_6
      have e119_7 := (hk119 7 rfl).trans e110_7
      obtain ⟨⟨g116, (f_4 : a119.eval (.tmp 4) = .pointer (some ⟨g116, 0, none⟩)), (b_g116 : BlkO own119 118 w119 g116 25 #[.int .i64 x115.1, .int .i64 x115.2])⟩, -⟩ := hf119 [3] rfl
      have e119_4 := f_4
      have hX119 := Evo.step hX110 (fun _ => Nat.le_refl 0) hE119 rfl
      have b119_Al1 := RdO.evo rfl hE119 b110_Al1
      have b119_g116 := b_g116
      obtain ⟨r120, hr120, hs⟩ := obind hs
      obtain ⟨r121, hr121, hs⟩ := obind hs
      refine rg_plain_seq (n := 22) (rs := []) (own0 := own119) (K := [])
          (bs := [0, 1, 3, 7, 15, 31, 63, 127, 255, 511])
          (ds := [⟨[], [4], [], Fct.val 11 (.pointer (some ⟨g116, 0, none⟩))⟩,
          ⟨[0], [], [], Fct.val 12 (.int .i64 x115.1)⟩,
          ⟨[1], [], [], Fct.val 13 (.bool r120)⟩,
          ⟨[2], [], [], Fct.val 14 (.bool (!r120))⟩,
          ⟨[3], [], [], Fct.val 15 (.bool (!r120))⟩,
          ⟨[4], [4], [], Fct.cond (!(!r120)) (some 16) (Fct.val 16 (.pointer (some ⟨g116, 1, none⟩)))⟩,
          ⟨[4, 5], [], [], Fct.cond (!(!r120)) (some 17) (Fct.val 17 (.int .i64 x115.2))⟩,
          ⟨[4, 6], [], [], Fct.cond (!(!r120)) (some 18) (Fct.val 18 (.bool r121))⟩,
          ⟨[4, 7], [], [], Fct.cond (!(!r120)) (some 19) (Fct.val 19 (.bool (!r121)))⟩,
          ⟨[4, 8], [], [], Fct.val 20 (.bool ((!r120) || (!r121)))⟩]) (by kernel_rfl) hz119 hd119 (fun _ h => nomatch h) ?_ ?_
      · refine sc (fun _ _ _ _ s _ => px (or_field fo25_0 (s.1.trans e119_4) (by rfl))) ?_
        refine sc (fun _ _ _ f _ hE => px (or_load1 to3 f.1 (Blk.at_ (BlkO.evo (by decide) hE b119_g116).2 0 rfl))) ?_
        refine sc (fun _ _ _ f _ _ => px (or_call cf52 (args3 f.1 rfl rfl) (exact_within_w _ x115.1 (-16777216) 16777216  r120 hr120) post_val)) ?_
        refine sc (fun _ _ _ f _ _ => px (or_not f.1 rfl)) ?_
        refine sc (fun _ _ _ f _ _ => px (or_move f.1)) ?_
        refine sc (fun own a wx hf hsl hE => ?_) ?_
        · obtain ⟨(f_15 : a.eval (.tmp 15) = .bool (!r120)), -⟩ := hf
          obtain ⟨s_4, -⟩ := hsl
          refine sg_f rfl rfl rfl f_15 (fun hg => ?_)
          exact or_field fo25_1 (s_4.trans e119_4) (by rfl)
        refine sc (fun own a wx hf hsl hE => ?_) ?_
        · obtain ⟨(f_15 : a.eval (.tmp 15) = .bool (!r120)), c_16, -⟩ := hf
          refine sg_f rfl rfl rfl f_15 (fun hg => ?_)
          have f_16 : a.eval (.tmp 16) = .pointer (some ⟨g116, 1, none⟩) := c_16.1 hg
          exact or_load1 to3 f_16 (Blk.at_ (BlkO.evo (by decide) hE b119_g116).2 1 rfl)
        refine sc (fun own a wx hf hsl hE => ?_) ?_
        · obtain ⟨(f_15 : a.eval (.tmp 15) = .bool (!r120)), c_17, -⟩ := hf
          refine sg_f rfl rfl rfl f_15 (fun hg => ?_)
          have f_17 : a.eval (.tmp 17) = .int .i64 x115.2 := c_17.1 hg
          exact or_call cf52 (args3 f_17 rfl rfl) (exact_within_w _ x115.2 (-16777216) 16777216  r121 (gd_t hr121 hg)) post_val
        refine sc (fun own a wx hf hsl hE => ?_) ?_
        · obtain ⟨(f_15 : a.eval (.tmp 15) = .bool (!r120)), c_18, -⟩ := hf
          refine sg_f rfl rfl rfl f_15 (fun hg => ?_)
          have f_18 : a.eval (.tmp 18) = .bool r121 := c_18.1 hg
          exact or_not f_18 rfl
        refine sc (fun own a wx hf hsl hE => ?_) ?_
        · obtain ⟨(f_15 : a.eval (.tmp 15) = .bool (!r120)), c_19, -⟩ := hf
          exact px (or_or f_15 rfl (fun hx => c_19.1 hx) rfl)
        exact steps_nil
      intro own122 a122 w122 hd122 hz122 hk122 hf122 hE122
      have e122_5 := (hk122 5 rfl).trans e119_5
      have e122_6 := (hk122 6 rfl).trans e119_6
      have e122_7 := (hk122 7 rfl).trans e119_7
      obtain ⟨(f_20 : a122.eval (.tmp 20) = .bool ((!r120) || (!r121))), -⟩ := hf122 [9] rfl
      have e122_20 := f_20
      have hX122 := Evo.step hX119 (fun _ => Nat.le_refl 0) hE122 rfl
      have b122_Al1 := RdO.evo rfl hE122 b119_Al1
      refine fl_cond e122_20 hs (fun c123 hs => ?_) (fun c123 hs => ?_)
      · refine rg_plain_seq (n := 22) (rs := []) (own0 := own122) (K := [])
            (bs := [0])
            (ds := [⟨[], [], [], Fct.val 2 (.bool false)⟩]) (by kernel_rfl) hz122 hd122 (fun _ h => nomatch h) ?_ ?_
        · refine sc (fun _ _ _ _ _ _ => px (or_assign rfl)) ?_
          exact steps_nil
        intro own124 a124 w124 hd124 hz124 hk124 hf124 hE124
        obtain ⟨(f_2 : a124.eval (.tmp 2) = .bool false), -⟩ := hf124 [0] rfl
        have e124_2 := f_2
        have hX124 := Evo.step hX122 (fun _ => Nat.le_refl 0) hE124 rfl
        refine fl_ret ?_
        refine hp114 _ _ _ rfl ?_
        refine hp113 _ _ _ rfl ?_
        replace hs := hz108 _ hs
        refine hp108 _ _ _ rfl ?_
        refine hp72 _ _ _ rfl ?_
        refine hp70 _ _ _ rfl ?_
        obtain rfl := osome hs
        exact hret _ _ _ _ (.inl rfl) hd124 (results1_ rfl (RVal.tmp_ e124_2)) ⟨own124, rfl, hX124⟩
      refine fl_skip ?_
      refine hn114 _ _ ?_
      refine hn113 _ _ ?_
      refine rg_plain (n := 22) (rs := []) (own0 := own122) (K := [])
          (bs := [0, 1])
          (ds := [⟨[], [7], [], Fct.val 21 (.int .i64 (ad x90 1))⟩,
          ⟨[0], [], [], Fct.val 7 (.int .i64 (ad x90 1))⟩]) (by kernel_rfl) hz122 hd122 (fun _ h => nomatch h) ?_ ?_
      · refine sc (fun _ _ _ _ s _ => px (or_add (s.1.trans e122_7) rfl rfl)) ?_
        refine sc (fun _ _ _ f _ _ => px (or_move f.1)) ?_
        exact steps_nil
      intro own125 a125 w125 hd125 hz125 hk125 hf125 hE125
      have e125_5 := (hk125 5 rfl).trans e122_5
      have e125_6 := (hk125 6 rfl).trans e122_6
      obtain ⟨(f_7 : a125.eval (.tmp 7) = .int .i64 (ad x90 1)), -⟩ := hf125 [1] rfl
      have e125_7 := f_7
      have hX125 := Evo.step hX122 (fun _ => Nat.le_refl 0) hE125 rfl
      have b125_Al1 := RdO.evo rfl hE125 b122_Al1
      exact hn108 _ _ _ hs ⟨own125, hd125, hz125, e125_5, e125_6, e125_7, hX125, b125_Al1⟩
    refine fl_exit ?_
    refine hp111 _ _ _ rfl ?_
    replace hs := hz108 _ hs
    refine hp108 _ _ _ rfl ?_
    refine hx72 _ _ ?_
    refine hn70 _ _ ?_
    refine rg_plain_seq (n := 22) (rs := []) (own0 := own110) (K := [])
        (bs := [0])
        (ds := [⟨[], [], [], Fct.val 2 (.bool true)⟩]) (by kernel_rfl) hz110 hd110 (fun _ h => nomatch h) ?_ ?_
    · refine sc (fun _ _ _ _ _ _ => px (or_assign rfl)) ?_
      exact steps_nil
    intro own126 a126 w126 hd126 hz126 hk126 hf126 hE126
    obtain ⟨(f_2 : a126.eval (.tmp 2) = .bool true), -⟩ := hf126 [0] rfl
    have e126_2 := f_2
    have hX126 := Evo.step hX110 (fun _ => Nat.le_refl 0) hE126 rfl
    refine fl_ret ?_
    obtain rfl := osome hs
    exact hret _ _ _ _ (.inl rfl) hd126 (results1_ rfl (RVal.tmp_ e126_2)) ⟨own126, rfl, hX126⟩
theorem rows_Right_w (w : World) (b1 : (Int × Int) × (Int × Int)) (r : Bool) (hs : rows_Right b1 = some r) :
    Calls Try.prog 48 #[.agg #[.int .i64 b1.1.1, .int .i64 b1.1.2, .int .i64 b1.2.1, .int .i64 b1.2.2]] w fun e w' => ∃ own' : Own, e = .returned (.bool r) ∧ Evo [] (fun _ => 0) own' w w' := by
  refine fl_enter (n := 27) rfl rfl rfl (Nat.le_of_ble_eq_true rfl) ?_
  intro a0 Q hd0 hz0 harg hret
  have ha0 := harg 0 _ rfl
  clear harg
  have hE0 : Evo [] (fun _ => 0) (fun _ => 0) w w := Evo.refl _ _ _
  refine rg_plain_seq (n := 27) (rs := []) (own0 := (fun _ => 0)) (K := [])
      (bs := [0, 0])
      (ds := [⟨[], [0], [], Fct.blk 20 1 (fun g => .pointer (some ⟨g, 0, none⟩)) 80 #[.int .i64 b1.1.1, .int .i64 b1.1.2, .int .i64 b1.2.1, .int .i64 b1.2.2]⟩,
      ⟨[], [], [], Fct.val 2 (.bool false)⟩]) (by kernel_rfl) hz0 hd0 (fun _ h => nomatch h) ?_ ?_
  · refine sc (fun _ _ _ _ s _ => px (or_new [(0, .agg #[.int .i64 b1.1.1, .int .i64 b1.1.2, .int .i64 b1.2.1, .int .i64 b1.2.2])] rfl rfl ⟨(s.1.trans ha0), trivial⟩ (by kernel_rfl))) ?_
    refine sc (fun _ _ _ _ _ _ => px (or_assign rfl)) ?_
    exact steps_nil
  intro own21 a21 w21 hd21 hz21 hk21 hf21 hE21
  obtain ⟨⟨g19, (f_1 : a21.eval (.tmp 1) = .pointer (some ⟨g19, 0, none⟩)), (b_g19 : BlkO own21 20 w21 g19 80 #[.int .i64 b1.1.1, .int .i64 b1.1.2, .int .i64 b1.2.1, .int .i64 b1.2.2])⟩, -⟩ := hf21 [0] rfl
  have e21_1 := f_1
  have hX21 := Evo.step hE0 (fun _ => Nat.le_refl 0) hE21 rfl
  have b21_g19 := b_g19
  obtain ⟨r24, hr24, hs⟩ := obind hs
  obtain ⟨x25, hx25, hs⟩ := obind hs
  refine rg_plain_seq (n := 27) (rs := []) (own0 := own21) (K := [])
      (bs := [0, 1, 0, 4, 15, 31, 63, 127, 255, 511, 127, 1151, 3199, 8191, 16383, 32767, 65535, 131071, 262143, 65535, 589823, 1638399, 4194303, 8388607, 16777215])
      (ds := [⟨[], [1], [], Fct.val 3 (.pointer (some ⟨g19, 0, none⟩))⟩,
      ⟨[0], [], [], Fct.val 4 (.agg #[.int .i64 b1.1.1, .int .i64 b1.1.2])⟩,
      ⟨[], [1], [], Fct.val 5 (.pointer (some ⟨g19, 2, none⟩))⟩,
      ⟨[2], [], [], Fct.val 6 (.agg #[.int .i64 b1.2.1, .int .i64 b1.2.2])⟩,
      ⟨[1, 3], [], [], Fct.row 23 [] 7 25 R25 [b1.1, b1.2]⟩,
      ⟨[4], [], [], Fct.val 8 (.bool r24)⟩,
      ⟨[5], [], [], Fct.val 9 (.bool r24)⟩,
      ⟨[6], [1], [], Fct.cond r24 (some 10) (Fct.val 10 (.pointer (some ⟨g19, 0, none⟩)))⟩,
      ⟨[6, 7], [], [], Fct.cond r24 (some 11) (Fct.val 11 (.pointer (some ⟨g19, 0, none⟩)))⟩,
      ⟨[6, 8], [], [], Fct.cond r24 (some 12) (Fct.val 12 (.int .i64 b1.1.1))⟩,
      ⟨[6], [1], [], Fct.cond r24 (some 13) (Fct.val 13 (.pointer (some ⟨g19, 2, none⟩)))⟩,
      ⟨[6, 10], [], [], Fct.cond r24 (some 14) (Fct.val 14 (.pointer (some ⟨g19, 2, none⟩)))⟩,
      ⟨[6, 11], [], [], Fct.cond r24 (some 15) (Fct.val 15 (.int .i64 b1.2.1))⟩,
      ⟨[6, 9, 12], [], [], Fct.cond r24 (some 16) (Fct.val 16 (.bool (decide (b1.1.1 ≤ b1.2.1))))⟩,
      ⟨[6, 13], [], [], Fct.val 17 (.bool (r24 && (decide (b1.1.1 ≤ b1.2.1))))⟩,
      ⟨[14], [], [], Fct.val 18 (.bool (r24 && (decide (b1.1.1 ≤ b1.2.1))))⟩,
      ⟨[15], [1], [], Fct.cond (r24 && (decide (b1.1.1 ≤ b1.2.1))) (some 19) (Fct.val 19 (.pointer (some ⟨g19, 0, none⟩)))⟩,
      ⟨[15, 16], [], [], Fct.cond (r24 && (decide (b1.1.1 ≤ b1.2.1))) (some 20) (Fct.val 20 (.pointer (some ⟨g19, 1, none⟩)))⟩,
      ⟨[15, 17], [], [], Fct.cond (r24 && (decide (b1.1.1 ≤ b1.2.1))) (some 21) (Fct.val 21 (.int .i64 b1.1.2))⟩,
      ⟨[15], [1], [], Fct.cond (r24 && (decide (b1.1.1 ≤ b1.2.1))) (some 22) (Fct.val 22 (.pointer (some ⟨g19, 2, none⟩)))⟩,
      ⟨[15, 19], [], [], Fct.cond (r24 && (decide (b1.1.1 ≤ b1.2.1))) (some 23) (Fct.val 23 (.pointer (some ⟨g19, 3, none⟩)))⟩,
      ⟨[15, 20], [], [], Fct.cond (r24 && (decide (b1.1.1 ≤ b1.2.1))) (some 24) (Fct.val 24 (.int .i64 b1.2.2))⟩,
      ⟨[15, 18, 21], [], [], Fct.cond (r24 && (decide (b1.1.1 ≤ b1.2.1))) (some 25) (Fct.val 25 (.bool (decide (b1.1.2 ≤ b1.2.2))))⟩,
      ⟨[15, 22], [], [], Fct.val 26 (.bool x25)⟩,
      ⟨[23], [], [], Fct.val 2 (.bool x25)⟩]) (by kernel_rfl) hz21 hd21 (fun _ h => nomatch h) ?_ ?_
  · refine sc (fun _ _ _ _ s _ => px (or_field fo80_0 (s.1.trans e21_1) (by rfl))) ?_
    refine sc (fun _ _ _ f _ hE => px (or_load (l := [.int .i64 b1.1.1, .int .i64 b1.1.2]) ta25 f.1 (Blk.cellsFrom (BlkO.evo (by decide) hE b21_g19).2 0 rfl) rfl)) ?_
    refine sc (fun _ _ _ _ s _ => px (or_field fo80_1 (s.1.trans e21_1) (by rfl))) ?_
    refine sc (fun _ _ _ f _ hE => px (or_load (l := [.int .i64 b1.2.1, .int .i64 b1.2.2]) ta25 f.1 (Blk.cellsFrom (BlkO.evo (by decide) hE b21_g19).2 2 rfl) rfl)) ?_
    refine sc (fun _ _ _ f _ _ => px (or_lit (lab := 23) (e := 25) (cs := #[.int .i64 b1.1.1, .int .i64 b1.1.2, .int .i64 b1.2.1, .int .i64 b1.2.2]) (F := E25) (or_new [(4, .agg #[.int .i64 b1.1.1, .int .i64 b1.1.2]), (6, .agg #[.int .i64 b1.2.1, .int .i64 b1.2.2])] rfl rfl ⟨f.1, f.2.1, trivial⟩ (by kernel_rfl)) rfl rfl (show 2 ≤ maxLen by decide))) ?_
    refine sc (fun own a wx hf hsl hE => ?_) ?_
    · obtain ⟨⟨⟨A22, cA22⟩, (f_7 : a.eval (.tmp 7) = .slice A22 [b1.1, b1.2].length cA22), (b_A22 : RwO own 23 [] wx 25 R25 A22 cA22 [b1.1, b1.2])⟩, -⟩ := hf
      exact px (or_call cf32 (args1 f_7) (exact_Right_w _ [b1.1, b1.2] A22 cA22 (RdO.zero (RwO.rd b_A22)) r24 hr24) post_val)
    refine sc (fun _ _ _ f _ _ => px (or_move f.1)) ?_
    refine sc (fun own a wx hf hsl hE => ?_) ?_
    · obtain ⟨(f_9 : a.eval (.tmp 9) = .bool r24), -⟩ := hf
      obtain ⟨s_1, -⟩ := hsl
      refine sg_t rfl rfl rfl f_9 (fun hg => ?_)
      exact or_field fo80_0 (s_1.trans e21_1) (by rfl)
    refine sc (fun own a wx hf hsl hE => ?_) ?_
    · obtain ⟨(f_9 : a.eval (.tmp 9) = .bool r24), c_10, -⟩ := hf
      refine sg_t rfl rfl rfl f_9 (fun hg => ?_)
      have f_10 : a.eval (.tmp 10) = .pointer (some ⟨g19, 0, none⟩) := c_10.1 hg
      exact or_field fo25_0 f_10 (by rfl)
    refine sc (fun own a wx hf hsl hE => ?_) ?_
    · obtain ⟨(f_9 : a.eval (.tmp 9) = .bool r24), c_11, -⟩ := hf
      refine sg_t rfl rfl rfl f_9 (fun hg => ?_)
      have f_11 : a.eval (.tmp 11) = .pointer (some ⟨g19, 0, none⟩) := c_11.1 hg
      exact or_load1 to3 f_11 (Blk.at_ (BlkO.evo (by decide) hE b21_g19).2 0 rfl)
    refine sc (fun own a wx hf hsl hE => ?_) ?_
    · obtain ⟨(f_9 : a.eval (.tmp 9) = .bool r24), -⟩ := hf
      obtain ⟨s_1, -⟩ := hsl
      refine sg_t rfl rfl rfl f_9 (fun hg => ?_)
      exact or_field fo80_1 (s_1.trans e21_1) (by rfl)
    refine sc (fun own a wx hf hsl hE => ?_) ?_
    · obtain ⟨(f_9 : a.eval (.tmp 9) = .bool r24), c_13, -⟩ := hf
      refine sg_t rfl rfl rfl f_9 (fun hg => ?_)
      have f_13 : a.eval (.tmp 13) = .pointer (some ⟨g19, 2, none⟩) := c_13.1 hg
      exact or_field fo25_0 f_13 (by rfl)
    refine sc (fun own a wx hf hsl hE => ?_) ?_
    · obtain ⟨(f_9 : a.eval (.tmp 9) = .bool r24), c_14, -⟩ := hf
      refine sg_t rfl rfl rfl f_9 (fun hg => ?_)
      have f_14 : a.eval (.tmp 14) = .pointer (some ⟨g19, 2, none⟩) := c_14.1 hg
      exact or_load1 to3 f_14 (Blk.at_ (BlkO.evo (by decide) hE b21_g19).2 2 rfl)
    refine sc (fun own a wx hf hsl hE => ?_) ?_
    · obtain ⟨(f_9 : a.eval (.tmp 9) = .bool r24), c_12, c_15, -⟩ := hf
      refine sg_t rfl rfl rfl f_9 (fun hg => ?_)
      have f_12 : a.eval (.tmp 12) = .int .i64 b1.1.1 := c_12.1 hg
      have f_15 : a.eval (.tmp 15) = .int .i64 b1.2.1 := c_15.1 hg
      exact or_leq f_12 f_15 rfl
    refine sc (fun own a wx hf hsl hE => ?_) ?_
    · obtain ⟨(f_9 : a.eval (.tmp 9) = .bool r24), c_16, -⟩ := hf
      exact px (or_and f_9 (fun hx => c_16.1 hx) rfl rfl)
    refine sc (fun _ _ _ f _ _ => px (or_move f.1)) ?_
    refine sc (fun own a wx hf hsl hE => ?_) ?_
    · obtain ⟨(f_18 : a.eval (.tmp 18) = .bool (r24 && (decide (b1.1.1 ≤ b1.2.1)))), -⟩ := hf
      obtain ⟨s_1, -⟩ := hsl
      refine sg_t rfl rfl rfl f_18 (fun hg => ?_)
      exact or_field fo80_0 (s_1.trans e21_1) (by rfl)
    refine sc (fun own a wx hf hsl hE => ?_) ?_
    · obtain ⟨(f_18 : a.eval (.tmp 18) = .bool (r24 && (decide (b1.1.1 ≤ b1.2.1)))), c_19, -⟩ := hf
      refine sg_t rfl rfl rfl f_18 (fun hg => ?_)
      have f_19 : a.eval (.tmp 19) = .pointer (some ⟨g19, 0, none⟩) := c_19.1 hg
      exact or_field fo25_1 f_19 (by rfl)
    refine sc (fun own a wx hf hsl hE => ?_) ?_
    · obtain ⟨(f_18 : a.eval (.tmp 18) = .bool (r24 && (decide (b1.1.1 ≤ b1.2.1)))), c_20, -⟩ := hf
      refine sg_t rfl rfl rfl f_18 (fun hg => ?_)
      have f_20 : a.eval (.tmp 20) = .pointer (some ⟨g19, 1, none⟩) := c_20.1 hg
      exact or_load1 to3 f_20 (Blk.at_ (BlkO.evo (by decide) hE b21_g19).2 1 rfl)
    refine sc (fun own a wx hf hsl hE => ?_) ?_
    · obtain ⟨(f_18 : a.eval (.tmp 18) = .bool (r24 && (decide (b1.1.1 ≤ b1.2.1)))), -⟩ := hf
      obtain ⟨s_1, -⟩ := hsl
      refine sg_t rfl rfl rfl f_18 (fun hg => ?_)
      exact or_field fo80_1 (s_1.trans e21_1) (by rfl)
    refine sc (fun own a wx hf hsl hE => ?_) ?_
    · obtain ⟨(f_18 : a.eval (.tmp 18) = .bool (r24 && (decide (b1.1.1 ≤ b1.2.1)))), c_22, -⟩ := hf
      refine sg_t rfl rfl rfl f_18 (fun hg => ?_)
      have f_22 : a.eval (.tmp 22) = .pointer (some ⟨g19, 2, none⟩) := c_22.1 hg
      exact or_field fo25_1 f_22 (by rfl)
    refine sc (fun own a wx hf hsl hE => ?_) ?_
    · obtain ⟨(f_18 : a.eval (.tmp 18) = .bool (r24 && (decide (b1.1.1 ≤ b1.2.1)))), c_23, -⟩ := hf
      refine sg_t rfl rfl rfl f_18 (fun hg => ?_)
      have f_23 : a.eval (.tmp 23) = .pointer (some ⟨g19, 3, none⟩) := c_23.1 hg
      exact or_load1 to3 f_23 (Blk.at_ (BlkO.evo (by decide) hE b21_g19).2 3 rfl)
    refine sc (fun own a wx hf hsl hE => ?_) ?_
    · obtain ⟨(f_18 : a.eval (.tmp 18) = .bool (r24 && (decide (b1.1.1 ≤ b1.2.1)))), c_21, c_24, -⟩ := hf
      refine sg_t rfl rfl rfl f_18 (fun hg => ?_)
      have f_21 : a.eval (.tmp 21) = .int .i64 b1.1.2 := c_21.1 hg
      have f_24 : a.eval (.tmp 24) = .int .i64 b1.2.2 := c_24.1 hg
      exact or_leq f_21 f_24 rfl
    refine sc (fun own a wx hf hsl hE => ?_) ?_
    · obtain ⟨(f_18 : a.eval (.tmp 18) = .bool (r24 && (decide (b1.1.1 ≤ b1.2.1)))), c_25, -⟩ := hf
      exact px (or_and f_18 (fun hx => c_25.1 hx) rfl (osome hx25).symm)
    refine sc (fun _ _ _ f _ _ => px (or_assign f.1)) ?_
    exact steps_nil
  intro own26 a26 w26 hd26 hz26 hk26 hf26 hE26
  obtain ⟨(f_2 : a26.eval (.tmp 2) = .bool x25), -⟩ := hf26 [24] rfl
  have e26_2 := f_2
  have hX26 := Evo.step hX21 (fun _ => Nat.le_refl 0) hE26 rfl
  refine fl_ret ?_
  obtain rfl := (osome hs).symm
  exact hret _ _ _ _ (.inl rfl) hd26 (results1_ rfl (RVal.tmp_ e26_2)) ⟨own26, rfl, hX26⟩
theorem rows_great_w (w : World) (b1 : (Int × Int) × (Int × Int)) (r : Bool) (hs : rows_great b1 = some r) :
    Calls Try.prog 49 #[.agg #[.int .i64 b1.1.1, .int .i64 b1.1.2, .int .i64 b1.2.1, .int .i64 b1.2.2]] w fun e w' => ∃ own' : Own, e = .returned (.bool r) ∧ Evo [] (fun _ => 0) own' w w' := by
  refine fl_enter (n := 25) rfl rfl rfl (Nat.le_of_ble_eq_true rfl) ?_
  intro a0 Q hd0 hz0 harg hret
  have ha0 := harg 0 _ rfl
  clear harg
  have hE0 : Evo [] (fun _ => 0) (fun _ => 0) w w := Evo.refl _ _ _
  refine rg_plain_seq (n := 25) (rs := []) (own0 := (fun _ => 0)) (K := [])
      (bs := [0, 0])
      (ds := [⟨[], [0], [], Fct.blk 21 1 (fun g => .pointer (some ⟨g, 0, none⟩)) 80 #[.int .i64 b1.1.1, .int .i64 b1.1.2, .int .i64 b1.2.1, .int .i64 b1.2.2]⟩,
      ⟨[], [], [], Fct.val 2 (.bool false)⟩]) (by kernel_rfl) hz0 hd0 (fun _ h => nomatch h) ?_ ?_
  · refine sc (fun _ _ _ _ s _ => px (or_new [(0, .agg #[.int .i64 b1.1.1, .int .i64 b1.1.2, .int .i64 b1.2.1, .int .i64 b1.2.2])] rfl rfl ⟨(s.1.trans ha0), trivial⟩ (by kernel_rfl))) ?_
    refine sc (fun _ _ _ _ _ _ => px (or_assign rfl)) ?_
    exact steps_nil
  intro own22 a22 w22 hd22 hz22 hk22 hf22 hE22
  obtain ⟨⟨g20, (f_1 : a22.eval (.tmp 1) = .pointer (some ⟨g20, 0, none⟩)), (b_g20 : BlkO own22 21 w22 g20 80 #[.int .i64 b1.1.1, .int .i64 b1.1.2, .int .i64 b1.2.1, .int .i64 b1.2.2])⟩, -⟩ := hf22 [0] rfl
  have e22_1 := f_1
  have hX22 := Evo.step hE0 (fun _ => Nat.le_refl 0) hE22 rfl
  have b22_g20 := b_g20
  obtain ⟨x23, hx23, hs⟩ := obind hs
  obtain ⟨x24, hx24, hs⟩ := obind hs
  obtain ⟨x25, hx25, hs⟩ := obind hs
  obtain ⟨x26, hx26, hs⟩ := obind hs
  obtain ⟨x27, hx27, hs⟩ := obind hs
  refine rg_plain_seq (n := 25) (rs := []) (own0 := own22) (K := [])
      (bs := [0, 1, 3, 7, 0, 16, 48, 112, 255, 511, 0, 1024, 3072, 7168, 0, 16384, 49152, 114688, 261120, 523264, 1048575, 2097151, 4194303])
      (ds := [⟨[], [1], [], Fct.val 3 (.pointer (some ⟨g20, 2, none⟩))⟩,
      ⟨[0], [], [], Fct.val 4 (.pointer (some ⟨g20, 2, none⟩))⟩,
      ⟨[1], [], [], Fct.val 5 (.int .i64 b1.2.1)⟩,
      ⟨[2], [], [], Fct.val 6 (.int .i64 x23)⟩,
      ⟨[], [1], [], Fct.val 7 (.pointer (some ⟨g20, 0, none⟩))⟩,
      ⟨[4], [], [], Fct.val 8 (.pointer (some ⟨g20, 0, none⟩))⟩,
      ⟨[5], [], [], Fct.val 9 (.int .i64 b1.1.1)⟩,
      ⟨[6], [], [], Fct.val 10 (.int .i64 x24)⟩,
      ⟨[3, 7], [], [], Fct.val 11 (.int .i64 (sb x23 x24))⟩,
      ⟨[8], [], [], Fct.val 12 (.int .i64 (ad (sb x23 x24) 1))⟩,
      ⟨[], [1], [], Fct.val 13 (.pointer (some ⟨g20, 2, none⟩))⟩,
      ⟨[10], [], [], Fct.val 14 (.pointer (some ⟨g20, 3, none⟩))⟩,
      ⟨[11], [], [], Fct.val 15 (.int .i64 b1.2.2)⟩,
      ⟨[12], [], [], Fct.val 16 (.int .i64 x25)⟩,
      ⟨[], [1], [], Fct.val 17 (.pointer (some ⟨g20, 0, none⟩))⟩,
      ⟨[14], [], [], Fct.val 18 (.pointer (some ⟨g20, 1, none⟩))⟩,
      ⟨[15], [], [], Fct.val 19 (.int .i64 b1.1.2)⟩,
      ⟨[16], [], [], Fct.val 20 (.int .i64 x26)⟩,
      ⟨[13, 17], [], [], Fct.val 21 (.int .i64 (sb x25 x26))⟩,
      ⟨[18], [], [], Fct.val 22 (.int .i64 (ad (sb x25 x26) 1))⟩,
      ⟨[9, 19], [], [], Fct.val 23 (.int .i64 x27)⟩,
      ⟨[20], [], [], Fct.val 24 (.bool (decide (64 < x27)))⟩,
      ⟨[21], [], [], Fct.val 2 (.bool (decide (64 < x27)))⟩]) (by kernel_rfl) hz22 hd22 (fun _ h => nomatch h) ?_ ?_
  · refine sc (fun _ _ _ _ s _ => px (or_field fo80_1 (s.1.trans e22_1) (by rfl))) ?_
    refine sc (fun _ _ _ f _ _ => px (or_field fo25_0 f.1 (by rfl))) ?_
    refine sc (fun _ _ _ f _ hE => px (or_load1 to3 f.1 (Blk.at_ (BlkO.evo (by decide) hE b22_g20).2 2 rfl))) ?_
    refine sc (fun _ _ _ f _ _ => px (or_shr f.1 rfl hx23)) ?_
    refine sc (fun _ _ _ _ s _ => px (or_field fo80_0 (s.1.trans e22_1) (by rfl))) ?_
    refine sc (fun _ _ _ f _ _ => px (or_field fo25_0 f.1 (by rfl))) ?_
    refine sc (fun _ _ _ f _ hE => px (or_load1 to3 f.1 (Blk.at_ (BlkO.evo (by decide) hE b22_g20).2 0 rfl))) ?_
    refine sc (fun _ _ _ f _ _ => px (or_shr f.1 rfl hx24)) ?_
    refine sc (fun _ _ _ f _ _ => px (or_sub f.1 f.2.1 rfl)) ?_
    refine sc (fun _ _ _ f _ _ => px (or_add f.1 rfl rfl)) ?_
    refine sc (fun _ _ _ _ s _ => px (or_field fo80_1 (s.1.trans e22_1) (by rfl))) ?_
    refine sc (fun _ _ _ f _ _ => px (or_field fo25_1 f.1 (by rfl))) ?_
    refine sc (fun _ _ _ f _ hE => px (or_load1 to3 f.1 (Blk.at_ (BlkO.evo (by decide) hE b22_g20).2 3 rfl))) ?_
    refine sc (fun _ _ _ f _ _ => px (or_shr f.1 rfl hx25)) ?_
    refine sc (fun _ _ _ _ s _ => px (or_field fo80_0 (s.1.trans e22_1) (by rfl))) ?_
    refine sc (fun _ _ _ f _ _ => px (or_field fo25_1 f.1 (by rfl))) ?_
    refine sc (fun _ _ _ f _ hE => px (or_load1 to3 f.1 (Blk.at_ (BlkO.evo (by decide) hE b22_g20).2 1 rfl))) ?_
    refine sc (fun _ _ _ f _ _ => px (or_shr f.1 rfl hx26)) ?_
    refine sc (fun _ _ _ f _ _ => px (or_sub f.1 f.2.1 rfl)) ?_
    refine sc (fun _ _ _ f _ _ => px (or_add f.1 rfl rfl)) ?_
    refine sc (fun _ _ _ f _ _ => px (or_mul f.1 f.2.1 (osome hx27).symm)) ?_
    refine sc (fun _ _ _ f _ _ => px (or_gtr f.1 rfl rfl)) ?_
    refine sc (fun _ _ _ f _ _ => px (or_assign f.1)) ?_
    exact steps_nil
  intro own28 a28 w28 hd28 hz28 hk28 hf28 hE28
  obtain ⟨(f_2 : a28.eval (.tmp 2) = .bool (decide (64 < x27))), -⟩ := hf28 [22] rfl
  have e28_2 := f_2
  have hX28 := Evo.step hX22 (fun _ => Nat.le_refl 0) hE28 rfl
  refine fl_ret ?_
  obtain rfl := osome hs
  exact hret _ _ _ _ (.inl rfl) hd28 (results1_ rfl (RVal.tmp_ e28_2)) ⟨own28, rfl, hX28⟩
theorem rows_fields_w (w : World) (b1 : (Int × Int) × (Int × Int)) (r : Unit) (hs : rows_fields b1 = some r) :
    Calls Try.prog 50 #[.agg #[.int .i64 b1.1.1, .int .i64 b1.1.2, .int .i64 b1.2.1, .int .i64 b1.2.2]] w fun e w' => ∃ (own' : Own) (x : Option Addr × Nat), e = .returned (.func (.func 64) #[] #[.pointer (some ⟨x.2, 0, none⟩)]) ∧ Evo [] (fun _ => 0) own' w w' ∧ BlkO own' 1 w' x.2 80 #[.int .i64 b1.1.1, .int .i64 b1.1.2, .int .i64 b1.2.1, .int .i64 b1.2.2] := by
  refine fl_enter (n := 4) rfl rfl rfl (Nat.le_of_ble_eq_true rfl) ?_
  intro a0 Q hd0 hz0 harg hret
  have ha0 := harg 0 _ rfl
  clear harg
  have hE0 : Evo [] (fun _ => 0) (fun _ => 0) w w := Evo.refl _ _ _
  refine rg_plain_seq (n := 4) (rs := []) (own0 := (fun _ => 0)) (K := [])
      (bs := [0, 0])
      (ds := [⟨[], [0], [], Fct.blk 16 1 (fun g => .pointer (some ⟨g, 0, none⟩)) 80 #[.int .i64 b1.1.1, .int .i64 b1.1.2, .int .i64 b1.2.1, .int .i64 b1.2.2]⟩,
      ⟨[], [], [], Fct.val 2 (.nilFunc)⟩]) (by kernel_rfl) hz0 hd0 (fun _ h => nomatch h) ?_ ?_
  · refine sc (fun _ _ _ _ s _ => px (or_new [(0, .agg #[.int .i64 b1.1.1, .int .i64 b1.1.2, .int .i64 b1.2.1, .int .i64 b1.2.2])] rfl rfl ⟨(s.1.trans ha0), trivial⟩ (by kernel_rfl))) ?_
    refine sc (fun _ _ _ _ _ _ => px (or_assign rfl)) ?_
    exact steps_nil
  intro own17 a17 w17 hd17 hz17 hk17 hf17 hE17
  obtain ⟨⟨g15, (f_1 : a17.eval (.tmp 1) = .pointer (some ⟨g15, 0, none⟩)), (b_g15 : BlkO own17 16 w17 g15 80 #[.int .i64 b1.1.1, .int .i64 b1.1.2, .int .i64 b1.2.1, .int .i64 b1.2.2])⟩, -⟩ := hf17 [0] rfl
  have e17_1 := f_1
  have hX17 := Evo.step hE0 (fun _ => Nat.le_refl 0) hE17 rfl
  have b17_g15 := b_g15
  refine rg_plain_seq (n := 4) (rs := []) (own0 := own17) (K := [])
      (bs := [0, 1])
      (ds := [⟨[], [1], [], Fct.val 3 (.func (.func 64) #[] #[.pointer (some ⟨g15, 0, none⟩)])⟩,
      ⟨[0], [], [], Fct.val 2 (.func (.func 64) #[] #[.pointer (some ⟨g15, 0, none⟩)])⟩]) (by kernel_rfl) hz17 hd17 (fun _ h => nomatch h) ?_ ?_
  · refine sc (fun _ _ _ _ s _ => px (or_k [(1, .pointer (some ⟨g15, 0, none⟩))] rfl rfl ⟨(s.1.trans e17_1), trivial⟩ (by kernel_rfl))) ?_
    refine sc (fun _ _ _ f _ _ => px (or_assign f.1)) ?_
    exact steps_nil
  intro own18 a18 w18 hd18 hz18 hk18 hf18 hE18
  obtain ⟨(f_2 : a18.eval (.tmp 2) = .func (.func 64) #[] #[.pointer (some ⟨g15, 0, none⟩)]), -⟩ := hf18 [1] rfl
  have e18_2 := f_2
  have hX18 := Evo.step hX17 (fun _ => Nat.le_refl 0) hE18 rfl
  have b18_g15 := BlkO.evo (by decide) hE18 b17_g15
  refine fl_ret ?_
  obtain rfl := osome hs
  exact hret _ _ _ _ (.inl rfl) hd18 (results1_ rfl (RVal.tmp_ e18_2)) ⟨(rl [(16, 1)] own18), (none, g15), rfl, (Evo.rl_ hX18 (fun _ => Nat.le_refl 0) rfl), (BlkO.rl_ (mm := [(16, 1)]) b18_g15)⟩
theorem rows_fields_1_w (w : World) (own : Own) (Sx : Type) (yy : Sx → ((Int × Int)) → Option (Bool × Sx)) (Jx : Sq Sx) (lx : Nat) (sx0 : Sx) (f1 : (Int × Int) × (Int × Int)) (gf1 : Nat) (tf1 : TypeId) (hown : ∀ b, own b ≤ 1) (hYx : Rounds Try.prog lx (fun (x : (Int × Int)) => #[.agg #[.int .i64 x.1, .int .i64 x.2]]) yy Jx) (hJx : SqO Jx own 1 w sx0) (hgf1 : BlkO own 0 w gf1 tf1 #[.int .i64 f1.1.1, .int .i64 f1.1.2, .int .i64 f1.2.1, .int .i64 f1.2.2]) (r : Sx) (hs : rows_fields_1 Sx yy sx0 f1 = some r) :
    Calls Try.prog 64 #[.func (.yield lx) #[] #[], .pointer (some ⟨gf1, 0, none⟩)] w fun e w' => ∃ (own' : Own), e = .returned (.tuple #[]) ∧ Evo [1] own own' w w' ∧ SqO Jx own' 1 w' r := by
  refine fl_enter (n := 35) rfl rfl rfl (Nat.le_of_ble_eq_true rfl) ?_
  intro a0 Q hd0 hz0 harg hret
  have ha0 := harg 0 _ rfl
  have ha1 := harg 1 _ rfl
  clear harg
  have hE0 : Evo [1] own own w w := Evo.refl _ _ _
  obtain ⟨x172, hx172, hs⟩ := obind hs
  refine rg_plain_seq (n := 35) (rs := []) (own0 := own) (K := [])
      (bs := [0, 1, 3, 7, 15])
      (ds := [⟨[], [1], [], Fct.val 5 (.pointer (some ⟨gf1, 0, none⟩))⟩,
      ⟨[0], [], [], Fct.val 6 (.pointer (some ⟨gf1, 0, none⟩))⟩,
      ⟨[1], [], [], Fct.val 7 (.int .i64 f1.1.1)⟩,
      ⟨[2], [], [], Fct.val 8 (.int .i64 x172)⟩,
      ⟨[3], [], [], Fct.val 3 (.int .i64 x172)⟩]) (by kernel_rfl) hz0 hd0 (fun _ h => nomatch h) ?_ ?_
  · refine sc (fun _ _ _ _ s _ => px (or_field fo80_0 (s.1.trans ha1) (by rfl))) ?_
    refine sc (fun _ _ _ f _ _ => px (or_field fo25_0 f.1 (by rfl))) ?_
    refine sc (fun _ _ _ f _ hE => px (or_load1 to3 f.1 (Blk.at_ (BlkO.evo (by decide) hE hgf1).2 0 rfl))) ?_
    refine sc (fun _ _ _ f _ _ => px (or_shr f.1 rfl hx172)) ?_
    refine sc (fun _ _ _ f _ _ => px (or_assign f.1)) ?_
    exact steps_nil
  intro own173 a173 w173 hd173 hz173 hk173 hf173 hE173
  have e173_0 := (hk173 0 rfl).trans ha0
  have e173_1 := (hk173 1 rfl).trans ha1
  obtain ⟨(f_3 : a173.eval (.tmp 3) = .int .i64 x172), -⟩ := hf173 [4] rfl
  have e173_3 := f_3
  have hX173 := Evo.step hE0 hown hE173 rfl
  have b173_Jx := SqO.evo (by decide) hE173 hJx
  have b173_gf1 := BlkO.evo (by decide) hE173 hgf1
  refine fl_block (fun Q174 hn174 hx174 hp174 => ?_)
  refine fl_loop (body := (fun s => rows_fields_1_b1 Sx yy f1 s.1 s.2)) (z := r) (show loopO _ _ = _ from hs) (fun (s : Int × Sx) a wx => match s with | (i226, sx227) => ∃ (ox : Own), a.defers = [] ∧ a.tmps.size = 35 ∧ a.eval (.tmp 0) = .func (.yield lx) #[] #[] ∧ a.eval (.tmp 1) = .pointer (some ⟨gf1, 0, none⟩) ∧ a.eval (.tmp 3) = .int .i64 i226 ∧ Evo [1] own ox w wx ∧ BlkO ox 0 wx gf1 tf1 #[.int .i64 f1.1.1, .int .i64 f1.1.2, .int .i64 f1.2.1, .int .i64 f1.2.2] ∧ SqO Jx ox 228 wx sx227) ?_ ?_
  · exact ⟨(rl [(1, 228)] own173), hd173, hz173, e173_0, e173_1, e173_3, (Evo.rl_ hX173 hown rfl), (BlkO.rl_ (mm := [(1, 228)]) b173_gf1), (SqO.rl_ (mm := [(1, 228)]) b173_Jx rfl (by decide))⟩
  · rintro ⟨i226, sx227⟩ zz280 a280 w280 ⟨own280, hd281, hz281, e281_0, e281_1, e281_3, hE281, b281_gf1, b281_Jx⟩ hs Q280 hn280 hp280 hz280
    have hs : rows_fields_1_b1 Sx yy f1 i226 sx227 = some zz280 := hs
    refine fl_seq (fun Q282 hn282 hp282 => ?_)
    obtain ⟨x283, hx283, hs⟩ := obind hs
    refine rg_plain_seq (n := 35) (rs := []) (own0 := own280) (K := [])
        (bs := [0, 0, 2, 6, 14, 31])
        (ds := [⟨[], [3], [], Fct.val 9 (.int .i64 i226)⟩,
        ⟨[], [1], [], Fct.val 10 (.pointer (some ⟨gf1, 2, none⟩))⟩,
        ⟨[1], [], [], Fct.val 11 (.pointer (some ⟨gf1, 2, none⟩))⟩,
        ⟨[2], [], [], Fct.val 12 (.int .i64 f1.2.1)⟩,
        ⟨[3], [], [], Fct.val 13 (.int .i64 x283)⟩,
        ⟨[0, 4], [], [], Fct.val 14 (.bool (decide (i226 ≤ x283)))⟩]) (by kernel_rfl) hz281 hd281 (fun _ h => nomatch h) ?_ ?_
    · refine sc (fun _ _ _ _ s _ => px (or_move (s.1.trans e281_3))) ?_
      refine sc (fun _ _ _ _ s _ => px (or_field fo80_1 (s.1.trans e281_1) (by rfl))) ?_
      refine sc (fun _ _ _ f _ _ => px (or_field fo25_0 f.1 (by rfl))) ?_
      refine sc (fun _ _ _ f _ hE => px (or_load1 to3 f.1 (Blk.at_ (BlkO.evo (by decide) hE b281_gf1).2 2 rfl))) ?_
      refine sc (fun _ _ _ f _ _ => px (or_shr f.1 rfl hx283)) ?_
      refine sc (fun _ _ _ f _ _ => px (or_leq f.1 f.2.1 rfl)) ?_
      exact steps_nil
    intro own284 a284 w284 hd284 hz284 hk284 hf284 hE284
    have e284_0 := (hk284 0 rfl).trans e281_0
    have e284_1 := (hk284 1 rfl).trans e281_1
    have e284_3 := (hk284 3 rfl).trans e281_3
    obtain ⟨(f_14 : a284.eval (.tmp 14) = .bool (decide (i226 ≤ x283))), -⟩ := hf284 [5] rfl
    have e284_14 := f_14
    have hX284 := Evo.step hE281 hown hE284 rfl
    have b284_gf1 := BlkO.evo (by decide) hE284 b281_gf1
    have b284_Jx := SqO.evo (by decide) hE284 b281_Jx
    refine fl_cond e284_14 hs (fun c285 hs => ?_) (fun c285 hs => ?_)
    · refine fl_skip ?_
      refine hn282 _ _ ?_
      refine fl_seq (fun Q286 hn286 hp286 => ?_)
      refine fl_block (fun Q287 hn287 hx287 hp287 => ?_)
      obtain ⟨x288, hx288, hs⟩ := obind hs
      refine rg_plain_seq (n := 35) (rs := []) (own0 := own284) (K := [])
          (bs := [0, 1, 3, 7, 15])
          (ds := [⟨[], [1], [], Fct.val 17 (.pointer (some ⟨gf1, 0, none⟩))⟩,
          ⟨[0], [], [], Fct.val 18 (.pointer (some ⟨gf1, 1, none⟩))⟩,
          ⟨[1], [], [], Fct.val 19 (.int .i64 f1.1.2)⟩,
          ⟨[2], [], [], Fct.val 20 (.int .i64 x288)⟩,
          ⟨[3], [], [], Fct.val 4 (.int .i64 x288)⟩]) (by kernel_rfl) hz284 hd284 (fun _ h => nomatch h) ?_ ?_
      · refine sc (fun _ _ _ _ s _ => px (or_field fo80_0 (s.1.trans e284_1) (by rfl))) ?_
        refine sc (fun _ _ _ f _ _ => px (or_field fo25_1 f.1 (by rfl))) ?_
        refine sc (fun _ _ _ f _ hE => px (or_load1 to3 f.1 (Blk.at_ (BlkO.evo (by decide) hE b284_gf1).2 1 rfl))) ?_
        refine sc (fun _ _ _ f _ _ => px (or_shr f.1 rfl hx288)) ?_
        refine sc (fun _ _ _ f _ _ => px (or_assign f.1)) ?_
        exact steps_nil
      intro own289 a289 w289 hd289 hz289 hk289 hf289 hE289
      have e289_0 := (hk289 0 rfl).trans e284_0
      have e289_1 := (hk289 1 rfl).trans e284_1
      have e289_3 := (hk289 3 rfl).trans e284_3
      obtain ⟨(f_4 : a289.eval (.tmp 4) = .int .i64 x288), -⟩ := hf289 [4] rfl
      have e289_4 := f_4
      have hX289 := Evo.step hX284 hown hE289 rfl
      have b289_gf1 := BlkO.evo (by decide) hE289 b284_gf1
      have b289_Jx := SqO.evo (by decide) hE289 b284_Jx
      refine fl_block (fun Q290 hn290 hx290 hp290 => ?_)
      refine fl_loop (body := (fun s => rows_fields_1_b2 Sx yy f1 i226 s.1 s.2)) (z := zz280) (show loopO _ _ = _ from hs) (fun (s : Int × Sx) a wx => match s with | (k303, sx304) => ∃ (ox : Own), a.defers = [] ∧ a.tmps.size = 35 ∧ a.eval (.tmp 0) = .func (.yield lx) #[] #[] ∧ a.eval (.tmp 1) = .pointer (some ⟨gf1, 0, none⟩) ∧ a.eval (.tmp 3) = .int .i64 i226 ∧ a.eval (.tmp 4) = .int .i64 k303 ∧ Evo [1] own ox w wx ∧ BlkO ox 0 wx gf1 tf1 #[.int .i64 f1.1.1, .int .i64 f1.1.2, .int .i64 f1.2.1, .int .i64 f1.2.2] ∧ SqO Jx ox 305 wx sx304) ?_ ?_
      · exact ⟨(rl [(228, 305)] own289), hd289, hz289, e289_0, e289_1, e289_3, e289_4, (Evo.rl_ hX289 hown rfl), (BlkO.rl_ (mm := [(228, 305)]) b289_gf1), (SqO.rl_ (mm := [(228, 305)]) b289_Jx rfl (by decide))⟩
      · rintro ⟨k303, sx304⟩ zz318 a318 w318 ⟨own318, hd319, hz319, e319_0, e319_1, e319_3, e319_4, hE319, b319_gf1, b319_Jx⟩ hs Q318 hn318 hp318 hz318
        have hs : rows_fields_1_b2 Sx yy f1 i226 k303 sx304 = some zz318 := hs
        refine fl_seq (fun Q320 hn320 hp320 => ?_)
        obtain ⟨x321, hx321, hs⟩ := obind hs
        refine rg_plain_seq (n := 35) (rs := []) (own0 := own318) (K := [])
            (bs := [0, 0, 2, 6, 14, 31])
            (ds := [⟨[], [4], [], Fct.val 21 (.int .i64 k303)⟩,
            ⟨[], [1], [], Fct.val 22 (.pointer (some ⟨gf1, 2, none⟩))⟩,
            ⟨[1], [], [], Fct.val 23 (.pointer (some ⟨gf1, 3, none⟩))⟩,
            ⟨[2], [], [], Fct.val 24 (.int .i64 f1.2.2)⟩,
            ⟨[3], [], [], Fct.val 25 (.int .i64 x321)⟩,
            ⟨[0, 4], [], [], Fct.val 26 (.bool (decide (k303 ≤ x321)))⟩]) (by kernel_rfl) hz319 hd319 (fun _ h => nomatch h) ?_ ?_
        · refine sc (fun _ _ _ _ s _ => px (or_move (s.1.trans e319_4))) ?_
          refine sc (fun _ _ _ _ s _ => px (or_field fo80_1 (s.1.trans e319_1) (by rfl))) ?_
          refine sc (fun _ _ _ f _ _ => px (or_field fo25_1 f.1 (by rfl))) ?_
          refine sc (fun _ _ _ f _ hE => px (or_load1 to3 f.1 (Blk.at_ (BlkO.evo (by decide) hE b319_gf1).2 3 rfl))) ?_
          refine sc (fun _ _ _ f _ _ => px (or_shr f.1 rfl hx321)) ?_
          refine sc (fun _ _ _ f _ _ => px (or_leq f.1 f.2.1 rfl)) ?_
          exact steps_nil
        intro own322 a322 w322 hd322 hz322 hk322 hf322 hE322
        have e322_0 := (hk322 0 rfl).trans e319_0
        have e322_1 := (hk322 1 rfl).trans e319_1
        have e322_3 := (hk322 3 rfl).trans e319_3
        have e322_4 := (hk322 4 rfl).trans e319_4
        obtain ⟨(f_26 : a322.eval (.tmp 26) = .bool (decide (k303 ≤ x321))), -⟩ := hf322 [5] rfl
        have e322_26 := f_26
        have hX322 := Evo.step hE319 hown hE322 rfl
        have b322_gf1 := BlkO.evo (by decide) hE322 b319_gf1
        have b322_Jx := SqO.evo (by decide) hE322 b319_Jx
        refine fl_cond e322_26 hs (fun c323 hs => ?_) (fun c323 hs => ?_)
        · refine fl_skip ?_
          refine hn320 _ _ ?_
          refine fl_seq (fun Q324 hn324 hp324 => ?_)
          refine fl_block (fun Q325 hn325 hx325 hp325 => ?_)
          obtain ⟨z326, hz326, hs⟩ := obind hs
          refine rg_plain_seq (n := 35) (rs := [Fct.seqAt Jx 305 sx304]) (own0 := own322) (K := [305])
              (bs := [0, 0, 0, 6, 15, 31])
              (ds := [⟨[], [0], [], Fct.val 29 (.func (.yield lx) #[] #[])⟩,
              ⟨[], [3], [], Fct.val 30 (.int .i64 i226)⟩,
              ⟨[], [4], [], Fct.val 31 (.int .i64 k303)⟩,
              ⟨[1, 2], [], [], Fct.val 32 (.agg #[.int .i64 i226, .int .i64 k303])⟩,
              ⟨[0, 3, 6], [], [305], Fct.seq Jx 327 33 z326.1 z326.2⟩,
              ⟨[4], [], [], Fct.val 34 (.bool (!z326.1))⟩]) (by kernel_rfl) hz322 hd322 (by simp only [List.forall_mem_cons]; exact ⟨b322_Jx, fun _ h => nomatch h⟩) ?_ ?_
          · refine sc (fun _ _ _ _ s _ => px (or_move (s.1.trans e322_0))) ?_
            refine sc (fun _ _ _ _ s _ => px (or_move (s.1.trans e322_3))) ?_
            refine sc (fun _ _ _ _ s _ => px (or_move (s.1.trans e322_4))) ?_
            refine sc (fun _ _ _ f _ _ => px (or_k [(30, .int .i64 i226), (31, .int .i64 k303)] rfl rfl ⟨f.1, f.2.1, trivial⟩ (by kernel_rfl))) ?_
            refine sc (fun own a wx hf hsl hE => ?_) ?_
            · obtain ⟨(f_29 : a.eval (.tmp 29) = .func (.yield lx) #[] #[]), (f_32 : a.eval (.tmp 32) = .agg #[.int .i64 i226, .int .i64 k303]), (b_Jx : SqO Jx own 305 wx sx304), -⟩ := hf
              exact sg_plainF rfl (or_yield (x := (i226, k303)) (lab := 305) (lab2 := 327) f_29 (args1 f_32) hYx b_Jx hz326 (mem_of rfl) (by decide))
            refine sc (fun own a wx hf hsl hE => ?_) ?_
            · obtain ⟨⟨(f_33 : a.eval (.tmp 33) = .bool z326.1), (b_Jx : SqO Jx own 327 wx z326.2)⟩, -⟩ := hf
              exact px (or_not f_33 rfl)
            exact steps_nil
          intro own328 a328 w328 hd328 hz328 hk328 hf328 hE328
          have e328_0 := (hk328 0 rfl).trans e322_0
          have e328_1 := (hk328 1 rfl).trans e322_1
          have e328_3 := (hk328 3 rfl).trans e322_3
          have e328_4 := (hk328 4 rfl).trans e322_4
          obtain ⟨(f_34 : a328.eval (.tmp 34) = .bool (!z326.1)), ⟨(f_33 : a328.eval (.tmp 33) = .bool z326.1), (b_Jx : SqO Jx own328 327 w328 z326.2)⟩, -⟩ := hf328 [5, 4] rfl
          have e328_34 := f_34
          have hX328 := Evo.step hX322 hown hE328 rfl
          have b328_gf1 := BlkO.evo (by decide) hE328 b322_gf1
          have b328_Jx := b_Jx
          refine fl_cond e328_34 hs (fun c329 hs => ?_) (fun c329 hs => ?_)
          · refine fl_ret ?_
            refine hp325 _ _ _ rfl ?_
            refine hp324 _ _ _ rfl ?_
            replace hs := hz318 _ hs
            refine hp318 _ _ _ rfl ?_
            refine hp290 _ _ _ rfl ?_
            refine hp287 _ _ _ rfl ?_
            refine hp286 _ _ _ rfl ?_
            replace hs := hz280 _ hs
            refine hp280 _ _ _ rfl ?_
            refine hp174 _ _ _ rfl ?_
            obtain rfl := osome hs
            exact hret _ _ _ _ (.inl rfl) hd328 (results0_ rfl ) ⟨(rl [(327, 1)] own328), rfl, (Evo.rl_ hX328 hown rfl), (SqO.rl_ (mm := [(327, 1)]) b328_Jx rfl (by decide))⟩
          refine fl_skip ?_
          refine hn325 _ _ ?_
          refine hn324 _ _ ?_
          refine rg_plain (n := 35) (rs := []) (own0 := own328) (K := [])
              (bs := [0, 1, 3])
              (ds := [⟨[], [4], [], Fct.val 27 (.int .i64 k303)⟩,
              ⟨[0], [], [], Fct.val 28 (.int .i64 (ad k303 1))⟩,
              ⟨[1], [], [], Fct.val 4 (.int .i64 (ad k303 1))⟩]) (by kernel_rfl) hz328 hd328 (fun _ h => nomatch h) ?_ ?_
          · refine sc (fun _ _ _ _ s _ => px (or_move (s.1.trans e328_4))) ?_
            refine sc (fun _ _ _ f _ _ => px (or_add f.1 rfl rfl)) ?_
            refine sc (fun _ _ _ f _ _ => px (or_assign f.1)) ?_
            exact steps_nil
          intro own330 a330 w330 hd330 hz330 hk330 hf330 hE330
          have e330_0 := (hk330 0 rfl).trans e328_0
          have e330_1 := (hk330 1 rfl).trans e328_1
          have e330_3 := (hk330 3 rfl).trans e328_3
          obtain ⟨(f_4 : a330.eval (.tmp 4) = .int .i64 (ad k303 1)), -⟩ := hf330 [2] rfl
          have e330_4 := f_4
          have hX330 := Evo.step hX328 hown hE330 rfl
          have b330_gf1 := BlkO.evo (by decide) hE330 b328_gf1
          have b330_Jx := SqO.evo (by decide) hE330 b328_Jx
          exact hn318 _ _ _ hs ⟨(rl [(327, 305)] own330), hd330, hz330, e330_0, e330_1, e330_3, e330_4, (Evo.rl_ hX330 hown rfl), (BlkO.rl_ (mm := [(327, 305)]) b330_gf1), (SqO.rl_ (mm := [(327, 305)]) b330_Jx rfl (by decide))⟩
        refine fl_exit ?_
        refine hp320 _ _ _ rfl ?_
        replace hs := hz318 _ hs
        refine hp318 _ _ _ rfl ?_
        refine hx290 _ _ ?_
        refine hn287 _ _ ?_
        refine hn286 _ _ ?_
        refine rg_plain (n := 35) (rs := []) (own0 := own322) (K := [])
            (bs := [0, 1, 3])
            (ds := [⟨[], [3], [], Fct.val 15 (.int .i64 i226)⟩,
            ⟨[0], [], [], Fct.val 16 (.int .i64 (ad i226 1))⟩,
            ⟨[1], [], [], Fct.val 3 (.int .i64 (ad i226 1))⟩]) (by kernel_rfl) hz322 hd322 (fun _ h => nomatch h) ?_ ?_
        · refine sc (fun _ _ _ _ s _ => px (or_move (s.1.trans e322_3))) ?_
          refine sc (fun _ _ _ f _ _ => px (or_add f.1 rfl rfl)) ?_
          refine sc (fun _ _ _ f _ _ => px (or_assign f.1)) ?_
          exact steps_nil
        intro own331 a331 w331 hd331 hz331 hk331 hf331 hE331
        have e331_0 := (hk331 0 rfl).trans e322_0
        have e331_1 := (hk331 1 rfl).trans e322_1
        obtain ⟨(f_3 : a331.eval (.tmp 3) = .int .i64 (ad i226 1)), -⟩ := hf331 [2] rfl
        have e331_3 := f_3
        have hX331 := Evo.step hX322 hown hE331 rfl
        have b331_gf1 := BlkO.evo (by decide) hE331 b322_gf1
        have b331_Jx := SqO.evo (by decide) hE331 b322_Jx
        exact hn280 _ _ _ hs ⟨(rl [(305, 228)] own331), hd331, hz331, e331_0, e331_1, e331_3, (Evo.rl_ hX331 hown rfl), (BlkO.rl_ (mm := [(305, 228)]) b331_gf1), (SqO.rl_ (mm := [(305, 228)]) b331_Jx rfl (by decide))⟩
    refine fl_exit ?_
    refine hp282 _ _ _ rfl ?_
    replace hs := hz280 _ hs
    refine hp280 _ _ _ rfl ?_
    refine hx174 _ _ ?_
    obtain rfl := (osome hs).symm
    exact hret _ _ _ _ (.inr rfl) hd284 (results0_ rfl ) ⟨(rl [(228, 1)] own284), rfl, (Evo.rl_ hX284 hown rfl), (SqO.rl_ (mm := [(228, 1)]) b284_Jx rfl (by decide))⟩
set_option maxHeartbeats 2000000 in
theorem rows_Index_Add_w (w : World) (own : Own) (x1 : (List ((Int × Int) × (Int × Int))) × (List ((Int × Int) × (List Int))) × (List Int)) (gx1 : Nat) (tx1 : TypeId) (Ax1_0 : Option Addr) (cx1_0 : Nat) (mx1_1 : Nat) (Ax1_2 : Option Addr) (cx1_2 : Nat) (l2 : List ((Int × Int) × (Int × Int))) (Al2 : Option Addr) (cl2 : Nat) (hown : ∀ b, own b ≤ 5) (hgx1 : BlkO own 1 w gx1 tx1 #[.slice Ax1_0 x1.1.length cx1_0, .map (some mx1_1), .slice Ax1_2 x1.2.2.length cx1_2]) (hAx1_0 : RwO own 2 [] w 80 R80 Ax1_0 cx1_0 x1.1) (hmx1_1 : MpN own 3 4 [] w mx1_1 vv111 3 R3 x1.2.1) (hAx1_2 : RwO own 5 [] w 3 R3 Ax1_2 cx1_2 x1.2.2) (hl2 : RdO own [0] w R80 Al2 cl2 l2) (r : Int × ((List ((Int × Int) × (Int × Int))) × (List ((Int × Int) × (List Int))) × (List Int))) (hs : rows_Index_Add x1 l2 = some r) :
    Calls Try.prog 29 #[.pointer (some ⟨gx1, 0, none⟩), .slice Al2 l2.length cl2] w fun e w' => ∃ (own' : Own) (x : (Option Addr × Nat) × (Option Addr × Nat)), e = .returned (.int .i64 r.1) ∧ Evo [1, 2, 3, 4, 5] own own' w w' ∧ RwO own' 2 [] w' 80 R80 x.1.1 x.1.2 r.2.1 ∧ MpN own' 3 4 [] w' mx1_1 vv111 3 R3 r.2.2.1 ∧ RwO own' 5 [] w' 3 R3 x.2.1 x.2.2 r.2.2.2 ∧ BlkO own' 1 w' gx1 tx1 #[.slice x.1.1 r.2.1.length x.1.2, .map (some mx1_1), .slice x.2.1 r.2.2.2.length x.2.2] := by
  refine fl_enterM (n := 69) (kD := 16) (by decide) rfl rfl rfl (Nat.le_of_ble_eq_true rfl) ?_
  intro a0 Q hd0 hz0 harg hret
  have ha0 := harg 0 _ rfl
  have ha1 := harg 1 _ rfl
  clear harg
  have hE0 : Evo [1, 2, 3, 4, 5] own own w w := Evo.refl _ _ _
  have hmk0 : MkO own 16 w [] := MkO.nil_
  refine rg_plain_seq (n := 69) (rs := []) (own0 := own) (K := [])
      (bs := [0, 0])
      (ds := [⟨[], [0], [], Fct.blk 2692 2 (fun g => .pointer (some ⟨g, 0, none⟩)) 70 #[.pointer (some ⟨gx1, 0, none⟩)]⟩,
      ⟨[], [], [], Fct.val 4 (.int .i64 0)⟩]) (by kernel_rfl) hz0 hd0 (fun _ h => nomatch h) ?_ ?_
  · refine sc (fun _ _ _ _ s _ => px (or_new [(0, .pointer (some ⟨gx1, 0, none⟩))] rfl rfl ⟨(s.1.trans ha0), trivial⟩ (by kernel_rfl))) ?_
    refine sc (fun _ _ _ _ _ _ => px (or_assign rfl)) ?_
    exact steps_nil
  intro own2693 a2693 w2693 hd2693 hz2693 hk2693 hf2693 hE2693
  have e2693_0 := (hk2693 0 rfl).trans ha0
  have e2693_1 := (hk2693 1 rfl).trans ha1
  obtain ⟨⟨g2691, (f_2 : a2693.eval (.tmp 2) = .pointer (some ⟨g2691, 0, none⟩)), (b_g2691 : BlkO own2693 2692 w2693 g2691 70 #[.pointer (some ⟨gx1, 0, none⟩)])⟩, -⟩ := hf2693 [0] rfl
  have e2693_2 := f_2
  have hX2693 := Evo.step hE0 hown hE2693 rfl
  have b2693_Ax1_0 := RwO.evo rfl hE2693 hAx1_0
  have b2693_mx1_1 := MpN.evo rfl hE2693 hmx1_1
  have b2693_Ax1_2 := RwO.evo rfl hE2693 hAx1_2
  have b2693_gx1 := BlkO.evo (by decide) hE2693 hgx1
  have b2693_Al2 := RdO.evo rfl hE2693 hl2
  have b2693_mk := MkO.evo (by decide) hE2693 hmk0
  have b2693_g2691 := b_g2691
  refine fl_seq (fun Q2694 hn2694 hp2694 => ?_)
  refine rg_plain_seq (n := 69) (rs := []) (own0 := own2693) (K := [])
      (bs := [0, 1])
      (ds := [⟨[], [2], [], Fct.val 9 (.pointer (some ⟨gx1, 0, none⟩))⟩,
      ⟨[0], [], [], Fct.val 10 (.bool false)⟩]) (by kernel_rfl) hz2693 hd2693 (fun _ h => nomatch h) ?_ ?_
  · refine sc (fun _ _ _ _ s hE => px (or_load1 to70 (s.1.trans e2693_2) (Blk.at_ (BlkO.evo (by decide) hE b2693_g2691).2 0 rfl))) ?_
    refine sc (fun _ _ _ f _ _ => px (or_k [(9, .pointer (some ⟨gx1, 0, none⟩))] rfl rfl ⟨f.1, trivial⟩ (by kernel_rfl))) ?_
    exact steps_nil
  intro own2695 a2695 w2695 hd2695 hz2695 hk2695 hf2695 hE2695
  have e2695_0 := (hk2695 0 rfl).trans e2693_0
  have e2695_1 := (hk2695 1 rfl).trans e2693_1
  have e2695_2 := (hk2695 2 rfl).trans e2693_2
  obtain ⟨(f_10 : a2695.eval (.tmp 10) = .bool false), -⟩ := hf2695 [1] rfl
  have e2695_10 := f_10
  have hX2695 := Evo.step hX2693 hown hE2695 rfl
  have b2695_Ax1_0 := RwO.evo rfl hE2695 b2693_Ax1_0
  have b2695_mx1_1 := MpN.evo rfl hE2695 b2693_mx1_1
  have b2695_Ax1_2 := RwO.evo rfl hE2695 b2693_Ax1_2
  have b2695_gx1 := BlkO.evo (by decide) hE2695 b2693_gx1
  have b2695_Al2 := RdO.evo rfl hE2695 b2693_Al2
  have b2695_mk := MkO.evo (by decide) hE2695 b2693_mk
  have b2695_g2691 := BlkO.evo (by decide) hE2695 b2693_g2691
  refine fl_f e2695_10 ?_
  refine fl_skip ?_
  refine hn2694 _ _ ?_
  refine fl_seq (fun Q2696 hn2696 hp2696 => ?_)
  refine rg_plain_seq (n := 69) (rs := []) (own0 := own2695) (K := [])
      (bs := [0, 1, 0])
      (ds := [⟨[], [1], [], Fct.val 11 (.slice Al2 l2.length cl2)⟩,
      ⟨[0], [], [], Fct.val 12 (.int .i64 (l2.length : Int))⟩,
      ⟨[], [], [], Fct.val 13 (.int .i64 0)⟩]) (by kernel_rfl) hz2695 hd2695 (fun _ h => nomatch h) ?_ ?_
  · refine sc (fun _ _ _ _ s _ => px (or_move (s.1.trans e2695_1))) ?_
    refine sc (fun _ _ _ f _ _ => px (or_len tu103 f.1 rfl)) ?_
    refine sc (fun _ _ _ _ _ _ => px (or_move rfl)) ?_
    exact steps_nil
  intro own2697 a2697 w2697 hd2697 hz2697 hk2697 hf2697 hE2697
  have e2697_0 := (hk2697 0 rfl).trans e2695_0
  have e2697_2 := (hk2697 2 rfl).trans e2695_2
  obtain ⟨(f_11 : a2697.eval (.tmp 11) = .slice Al2 l2.length cl2), (f_12 : a2697.eval (.tmp 12) = .int .i64 (l2.length : Int)), (f_13 : a2697.eval (.tmp 13) = .int .i64 0), -⟩ := hf2697 [0, 1, 2] rfl
  have e2697_11 := f_11
  have e2697_12 := f_12
  have e2697_13 := f_13
  have hX2697 := Evo.step hX2695 hown hE2697 rfl
  have b2697_Ax1_0 := RwO.evo rfl hE2697 b2695_Ax1_0
  have b2697_mx1_1 := MpN.evo rfl hE2697 b2695_mx1_1
  have b2697_Ax1_2 := RwO.evo rfl hE2697 b2695_Ax1_2
  have b2697_gx1 := BlkO.evo (by decide) hE2697 b2695_gx1
  have b2697_Al2 := RdO.evo rfl hE2697 b2695_Al2
  have b2697_mk := MkO.evo (by decide) hE2697 b2695_mk
  have b2697_g2691 := BlkO.evo (by decide) hE2697 b2695_g2691
  refine fl_block (fun Q2698 hn2698 hx2698 hp2698 => ?_)
  refine fl_loop (body := (fun s => rows_Index_Add_b1 l2 s.1 s.2.1 s.2.2.1 s.2.2.2)) (z := r) (show loopO _ _ = _ from hs) (fun (s : (List ((Int × Int) × (Int × Int))) × (List ((Int × Int) × (List Int))) × (List Int) × Int) a wx => match s with | (x3586, x3588, x3591, x3593) => ∃ (ox : Own) (A3584 : Option Addr) (c3585 : Nat) (A3589 : Option Addr) (c3590 : Nat) (Ds3594 : List Nat), a.defers = mkD Ds3594 ∧ a.tmps.size = 69 ∧ a.eval (.tmp 0) = .pointer (some ⟨gx1, 0, none⟩) ∧ a.eval (.tmp 2) = .pointer (some ⟨g2691, 0, none⟩) ∧ a.eval (.tmp 11) = .slice Al2 l2.length cl2 ∧ a.eval (.tmp 12) = .int .i64 (l2.length : Int) ∧ a.eval (.tmp 13) = .int .i64 x3593 ∧ Evo [1, 2, 3, 4, 5] own ox w wx ∧ BlkO ox 3583 wx gx1 tx1 #[.slice A3584 x3586.length c3585, .map (some mx1_1), .slice A3589 x3591.length c3590] ∧ RwO ox 3587 [] wx 80 R80 A3584 c3585 x3586 ∧ MpN ox 3 4 [] wx mx1_1 vv111 3 R3 x3588 ∧ RwO ox 3592 [] wx 3 R3 A3589 c3590 x3591 ∧ BlkO ox 2692 wx g2691 70 #[.pointer (some ⟨gx1, 0, none⟩)] ∧ RdO ox [0] wx R80 Al2 cl2 l2 ∧ MkO ox 16 wx Ds3594) ?_ ?_
  · exact ⟨(rl [(1, 3583), (2, 3587), (5, 3592)] own2697), Ax1_0, cx1_0, Ax1_2, cx1_2, [], hd2697, hz2697, e2697_0, e2697_2, e2697_11, e2697_12, e2697_13, (Evo.rl_ hX2697 hown rfl), (BlkO.rl_ (mm := [(1, 3583), (2, 3587), (5, 3592)]) b2697_gx1), (RwO.rl_ (mm := [(1, 3583), (2, 3587), (5, 3592)]) b2697_Ax1_0), (MpN.rl_ (mm := [(1, 3583), (2, 3587), (5, 3592)]) b2697_mx1_1), (RwO.rl_ (mm := [(1, 3583), (2, 3587), (5, 3592)]) b2697_Ax1_2), (BlkO.rl_ (mm := [(1, 3583), (2, 3587), (5, 3592)]) b2697_g2691), (RdO.rl_ (mm := [(1, 3583), (2, 3587), (5, 3592)]) b2697_Al2), (MkO.rl_ (mm := [(1, 3583), (2, 3587), (5, 3592)]) b2697_mk)⟩
  · rintro ⟨x3586, x3588, x3591, x3593⟩ zz4479 a4479 w4479 ⟨own4479, A3584, c3585, A3589, c3590, Ds3594, hd4480, hz4480, e4480_0, e4480_2, e4480_11, e4480_12, e4480_13, hE4480, b4480_gx1, b4480_A3584, b4480_mx1_1, b4480_A3589, b4480_g2691, b4480_Al2, b4480_mk⟩ hs Q4479 hn4479 hp4479 hz4479
    have hs : rows_Index_Add_b1 l2 x3586 x3588 x3591 x3593 = some zz4479 := hs
    refine rg_plain_seq (n := 69) (rs := []) (own0 := own4479) (K := [])
        (bs := [0])
        (ds := [⟨[], [13, 12], [], Fct.val 14 (.bool (decide (x3593 < (l2.length : Int))))⟩]) (by kernel_rfl) hz4480 hd4480 (fun _ h => nomatch h) ?_ ?_
    · refine sc (fun _ _ _ _ s _ => px (or_lss (s.1.trans e4480_13) (s.2.1.trans e4480_12) rfl)) ?_
      exact steps_nil
    intro own4481 a4481 w4481 hd4481 hz4481 hk4481 hf4481 hE4481
    have e4481_0 := (hk4481 0 rfl).trans e4480_0
    have e4481_2 := (hk4481 2 rfl).trans e4480_2
    have e4481_11 := (hk4481 11 rfl).trans e4480_11
    have e4481_12 := (hk4481 12 rfl).trans e4480_12
    have e4481_13 := (hk4481 13 rfl).trans e4480_13
    obtain ⟨(f_14 : a4481.eval (.tmp 14) = .bool (decide (x3593 < (l2.length : Int)))), -⟩ := hf4481 [0] rfl
    have e4481_14 := f_14
    have hX4481 := Evo.step hE4480 hown hE4481 rfl
    have b4481_gx1 := BlkO.evo (by decide) hE4481 b4480_gx1
    have b4481_A3584 := RwO.evo rfl hE4481 b4480_A3584
    have b4481_mx1_1 := MpN.evo rfl hE4481 b4480_mx1_1
    have b4481_A3589 := RwO.evo rfl hE4481 b4480_A3589
    have b4481_g2691 := BlkO.evo (by decide) hE4481 b4480_g2691
    have b4481_Al2 := RdO.evo rfl hE4481 b4480_Al2
    have b4481_mk := MkO.evo (by decide) hE4481 b4480_mk
    refine fl_seq (fun Q4482 hn4482 hp4482 => ?_)
    refine fl_cond e4481_14 hs (fun c4483 hs => ?_) (fun c4483 hs => ?_)
    · refine fl_skip ?_
      refine hn4482 _ _ ?_
      refine fl_seq (fun Q4484 hn4484 hp4484 => ?_)
      refine fl_block (fun Q4924 hn4924 hx4924 hp4924 => ?_)
      obtain ⟨x5144, hx5144, hs⟩ := obind hs
      refine rg_plain_seq (n := 69) (rs := []) (own0 := own4481) (K := [5146])
          (bs := [0, 1, 0, 7])
          (ds := [⟨[], [11, 13], [], Fct.val 15 (.pointer (some ((adr Al2).add ((x3593 : Int).toNat * R80.s))))⟩,
          ⟨[0], [], [], Fct.val 16 (.agg #[.int .i64 x5144.1.1, .int .i64 x5144.1.2, .int .i64 x5144.2.1, .int .i64 x5144.2.2])⟩,
          ⟨[], [], [], Fct.blk 5146 6 (fun g => .pointer (some ⟨g, 0, none⟩)) 80 #[.int .i64 0, .int .i64 0, .int .i64 0, .int .i64 0]⟩,
          ⟨[2, 1], [], [5146], Fct.blk 5147 6 (fun g => .pointer (some ⟨g, 0, none⟩)) 80 #[.int .i64 x5144.1.1, .int .i64 x5144.1.2, .int .i64 x5144.2.1, .int .i64 x5144.2.2]⟩]) (by kernel_rfl) hz4481 hd4481 (fun _ h => nomatch h) ?_ ?_
      · refine sc (fun _ _ _ _ s _ => px (or_index (R := R80) (l := l2) tl103 (s.1.trans e4481_11) (s.2.1.trans e4481_13) (RdO.some_ b4481_Al2 hx5144) hx5144)) ?_
        refine sc (fun _ _ _ f _ hE => px (or_load (l := E80.f x5144) ta80 f.1 (RdO.cells (F := E80) (RdO.evo rfl hE b4481_Al2) hx5144) rfl)) ?_
        refine sc (fun _ _ _ _ _ _ => px (or_new [] rfl rfl trivial (by kernel_rfl))) ?_
        refine sc (fun own a wx hf hsl hE => ?_) ?_
        · obtain ⟨⟨g5145, (f_6 : a.eval (.tmp 6) = .pointer (some ⟨g5145, 0, none⟩)), (b_g5145 : BlkO own 5146 wx g5145 80 #[.int .i64 0, .int .i64 0, .int .i64 0, .int .i64 0])⟩, (f_16 : a.eval (.tmp 16) = .agg #[.int .i64 x5144.1.1, .int .i64 x5144.1.2, .int .i64 x5144.2.1, .int .i64 x5144.2.2]), -⟩ := hf
          exact px (or_store (l := #[.int .i64 x5144.1.1, .int .i64 x5144.1.2, .int .i64 x5144.2.1, .int .i64 x5144.2.2]) (lab := 5146) (lab2 := 5147) ts80 f_6 f_16 b_g5145 (by simp) (by kernel_rfl) (mem_of rfl) (by decide) (by kernel_rfl) (fun own' a' w' ha hb => ⟨_, (ha 6).trans f_6, hb⟩))
        exact steps_nil
      intro own5148 a5148 w5148 hd5148 hz5148 hk5148 hf5148 hE5148
      have e5148_0 := (hk5148 0 rfl).trans e4481_0
      have e5148_2 := (hk5148 2 rfl).trans e4481_2
      have e5148_11 := (hk5148 11 rfl).trans e4481_11
      have e5148_12 := (hk5148 12 rfl).trans e4481_12
      have e5148_13 := (hk5148 13 rfl).trans e4481_13
      obtain ⟨⟨g5145, (f_6 : a5148.eval (.tmp 6) = .pointer (some ⟨g5145, 0, none⟩)), (b_g5145 : BlkO own5148 5147 w5148 g5145 80 #[.int .i64 x5144.1.1, .int .i64 x5144.1.2, .int .i64 x5144.2.1, .int .i64 x5144.2.2])⟩, -⟩ := hf5148 [3] rfl
      have e5148_6 := f_6
      have hX5148 := Evo.step hX4481 hown hE5148 rfl
      have b5148_gx1 := BlkO.evo (by decide) hE5148 b4481_gx1
      have b5148_A3584 := RwO.evo rfl hE5148 b4481_A3584
      have b5148_mx1_1 := MpN.evo rfl hE5148 b4481_mx1_1
      have b5148_A3589 := RwO.evo rfl hE5148 b4481_A3589
      have b5148_g2691 := BlkO.evo (by decide) hE5148 b4481_g2691
      have b5148_Al2 := RdO.evo rfl hE5148 b4481_Al2
      have b5148_mk := MkO.evo (by decide) hE5148 b4481_mk
      have b5148_g5145 := b_g5145
      refine rg_plain_seq (n := 69) (rs := []) (own0 := own5148) (K := [5150])
          (bs := [0, 1, 3, 7, 15, 0, 63])
          (ds := [⟨[], [2], [], Fct.val 17 (.pointer (some ⟨gx1, 0, none⟩))⟩,
          ⟨[0], [], [], Fct.val 18 (.pointer (some ⟨gx1, 0, none⟩))⟩,
          ⟨[1], [], [], Fct.val 19 (.pointer (some ⟨gx1, 0, none⟩))⟩,
          ⟨[2], [], [], Fct.val 20 (.slice A3584 x3586.length c3585)⟩,
          ⟨[3], [], [], Fct.val 21 (.int .i64 (x3586.length : Int))⟩,
          ⟨[], [], [], Fct.blk 5150 7 (fun g => .pointer (some ⟨g, 0, none⟩)) 3 #[.int .i64 0]⟩,
          ⟨[5, 4], [], [5150], Fct.blk 5151 7 (fun g => .pointer (some ⟨g, 0, none⟩)) 3 #[.int .i64 (x3586.length : Int)]⟩]) (by kernel_rfl) hz5148 hd5148 (fun _ h => nomatch h) ?_ ?_
      · refine sc (fun _ _ _ _ s hE => px (or_load1 to70 (s.1.trans e5148_2) (Blk.at_ (BlkO.evo (by decide) hE b5148_g2691).2 0 rfl))) ?_
        refine sc (fun _ _ _ f _ _ => px (or_k [(17, .pointer (some ⟨gx1, 0, none⟩))] rfl rfl ⟨f.1, trivial⟩ (by kernel_rfl))) ?_
        refine sc (fun _ _ _ f _ _ => px (or_field fo106_0 f.1 (by rfl))) ?_
        refine sc (fun _ _ _ f _ hE => px (or_load1 to103 f.1 (Blk.at_ (BlkO.evo (by decide) hE b5148_gx1).2 0 rfl))) ?_
        refine sc (fun _ _ _ f _ _ => px (or_len tu103 f.1 rfl)) ?_
        refine sc (fun _ _ _ _ _ _ => px (or_new [] rfl rfl trivial (by kernel_rfl))) ?_
        refine sc (fun own a wx hf hsl hE => ?_) ?_
        · obtain ⟨⟨g5149, (f_7 : a.eval (.tmp 7) = .pointer (some ⟨g5149, 0, none⟩)), (b_g5149 : BlkO own 5150 wx g5149 3 #[.int .i64 0])⟩, (f_21 : a.eval (.tmp 21) = .int .i64 (x3586.length : Int)), -⟩ := hf
          exact px (or_store1 (lab := 5150) (lab2 := 5151) ts3 f_7 f_21 b_g5149 (by simp) rfl (mem_of rfl) (by decide) rfl (fun own' a' w' ha hb => ⟨_, (ha 7).trans f_7, hb⟩))
        exact steps_nil
      intro own5152 a5152 w5152 hd5152 hz5152 hk5152 hf5152 hE5152
      have e5152_0 := (hk5152 0 rfl).trans e5148_0
      have e5152_2 := (hk5152 2 rfl).trans e5148_2
      have e5152_6 := (hk5152 6 rfl).trans e5148_6
      have e5152_11 := (hk5152 11 rfl).trans e5148_11
      have e5152_12 := (hk5152 12 rfl).trans e5148_12
      have e5152_13 := (hk5152 13 rfl).trans e5148_13
      obtain ⟨⟨g5149, (f_7 : a5152.eval (.tmp 7) = .pointer (some ⟨g5149, 0, none⟩)), (b_g5149 : BlkO own5152 5151 w5152 g5149 3 #[.int .i64 (x3586.length : Int)])⟩, -⟩ := hf5152 [6] rfl
      have e5152_7 := f_7
      have hX5152 := Evo.step hX5148 hown hE5152 rfl
      have b5152_gx1 := BlkO.evo (by decide) hE5152 b5148_gx1
      have b5152_A3584 := RwO.evo rfl hE5152 b5148_A3584
      have b5152_mx1_1 := MpN.evo rfl hE5152 b5148_mx1_1
      have b5152_A3589 := RwO.evo rfl hE5152 b5148_A3589
      have b5152_g2691 := BlkO.evo (by decide) hE5152 b5148_g2691
      have b5152_Al2 := RdO.evo rfl hE5152 b5148_Al2
      have b5152_mk := MkO.evo (by decide) hE5152 b5148_mk
      have b5152_g5145 := BlkO.evo (by decide) hE5152 b5148_g5145
      have b5152_g5149 := b_g5149
      obtain ⟨x5162, hx5162, hs⟩ := obind hs
      refine rg_draw_seq g_mixed (n := 69) (rs := [Fct.rowAt 3587 [] 80 R80 A3584 c3585 x3586, Fct.at_ 3583 gx1 tx1 #[.slice A3584 x3586.length c3585, .map (some mx1_1), .slice A3589 x3591.length c3590]]) (own0 := own5152) (K := [3587, 3583])
          (bs := [0, 0, 2, 6, 14, 0, 32, 126, 255, 511, 1023])
          (ds := [⟨[], [2], [], Fct.val 22 (.pointer (some ⟨gx1, 0, none⟩))⟩,
          ⟨[], [2], [], Fct.val 23 (.pointer (some ⟨gx1, 0, none⟩))⟩,
          ⟨[1], [], [], Fct.val 24 (.pointer (some ⟨gx1, 0, none⟩))⟩,
          ⟨[2], [], [], Fct.val 25 (.pointer (some ⟨gx1, 0, none⟩))⟩,
          ⟨[3, 12], [], [], Fct.val 26 (.slice A3584 x3586.length c3585)⟩,
          ⟨[], [6], [], Fct.val 27 (.agg #[.int .i64 x5144.1.1, .int .i64 x5144.1.2, .int .i64 x5144.2.1, .int .i64 x5144.2.2])⟩,
          ⟨[5], [], [], Fct.row 5161 [] 28 80 R80 [x5144]⟩,
          ⟨[4, 6, 11], [], [3587], Fct.row 5163 [] 29 80 R80 x5162⟩,
          ⟨[0], [], [], Fct.val 30 (.pointer (some ⟨gx1, 0, none⟩))⟩,
          ⟨[8], [], [], Fct.val 31 (.pointer (some ⟨gx1, 0, none⟩))⟩,
          ⟨[9, 7, 12], [], [3583], Fct.by_ [5165] [29] (fun l own w => ∀ (A5164 : Option Addr) (cA5164 : Nat), l.getD 0 undef = .slice A5164 x5162.length cA5164 → BlkO own 5165 w gx1 tx1 #[.slice A5164 x5162.length cA5164, .map (some mx1_1), .slice A3589 x3591.length c3590]) (fun hk he h _ _ h0' => BlkO.evo (not_hit hk (by decide)) he (h _ _ h0'))⟩]) (by kernel_rfl) hz5152 hd5152 (by simp only [List.forall_mem_cons]; exact ⟨b5152_A3584, b5152_gx1, fun _ h => nomatch h⟩) ?_ ?_
      · refine sc (fun _ _ _ _ s hE => px (or_load1 to70 (s.1.trans e5152_2) (Blk.at_ (BlkO.evo (by decide) hE b5152_g2691).2 0 rfl))) ?_
        refine sc (fun _ _ _ _ s hE => px (or_load1 to70 (s.1.trans e5152_2) (Blk.at_ (BlkO.evo (by decide) hE b5152_g2691).2 0 rfl))) ?_
        refine sc (fun _ _ _ f _ _ => px (or_k [(23, .pointer (some ⟨gx1, 0, none⟩))] rfl rfl ⟨f.1, trivial⟩ (by kernel_rfl))) ?_
        refine sc (fun _ _ _ f _ _ => px (or_field fo106_0 f.1 (by rfl))) ?_
        refine sc (fun own a wx hf hsl hE => ?_) ?_
        · obtain ⟨(f_25 : a.eval (.tmp 25) = .pointer (some ⟨gx1, 0, none⟩)), (b_gx1 : BlkO own 3583 wx gx1 tx1 #[.slice A3584 x3586.length c3585, .map (some mx1_1), .slice A3589 x3591.length c3590]), -⟩ := hf
          exact px (or_load1 to103 f_25 (Blk.at_ b_gx1.2 0 rfl))
        refine sc (fun _ _ _ _ s hE => px (or_load (l := [.int .i64 x5144.1.1, .int .i64 x5144.1.2, .int .i64 x5144.2.1, .int .i64 x5144.2.2]) ta80 (s.1.trans e5152_6) (Blk.cellsFrom (BlkO.evo (by decide) hE b5152_g5145).2 0 rfl) rfl)) ?_
        refine sc (fun _ _ _ f _ _ => px (or_lit (lab := 5161) (e := 80) (cs := #[.int .i64 x5144.1.1, .int .i64 x5144.1.2, .int .i64 x5144.2.1, .int .i64 x5144.2.2]) (F := E80) (or_new [(27, .agg #[.int .i64 x5144.1.1, .int .i64 x5144.1.2, .int .i64 x5144.2.1, .int .i64 x5144.2.2])] rfl rfl ⟨f.1, trivial⟩ (by kernel_rfl)) rfl rfl (show 1 ≤ maxLen by decide))) ?_
        refine sc (fun own a wx hf hsl hE => ?_) ?_
        · obtain ⟨(f_26 : a.eval (.tmp 26) = .slice A3584 x3586.length c3585), ⟨⟨A5160, cA5160⟩, (f_28 : a.eval (.tmp 28) = .slice A5160 [x5144].length cA5160), (b_A5160 : RwO own 5161 [] wx 80 R80 A5160 cA5160 [x5144])⟩, (b_A3584 : RwO own 3587 [] wx 80 R80 A3584 c3585 x3586), -⟩ := hf
          exact px (or_append (R := R80) (lab := 3587) (lab2 := 5163) (L := []) (L3 := []) tp103 f_26 b_A3584 (by decide) f_28 (RwO.rd b_A5160) hx5162 (by decide) (by decide) (mem_of rfl) (.inl (Rep.fl_flat _)))
        refine sc (fun _ _ _ f _ _ => px (or_k [(22, .pointer (some ⟨gx1, 0, none⟩))] rfl rfl ⟨f.1, trivial⟩ (by kernel_rfl))) ?_
        refine sc (fun _ _ _ f _ _ => px (or_field fo106_0 f.1 (by rfl))) ?_
        refine sc (fun own a wx hf hsl hE => ?_) ?_
        · obtain ⟨(f_31 : a.eval (.tmp 31) = .pointer (some ⟨gx1, 0, none⟩)), ⟨⟨A5164, cA5164⟩, (f_29 : a.eval (.tmp 29) = .slice A5164 x5162.length cA5164), (b_A5164 : RwO own 5163 [] wx 80 R80 A5164 cA5164 x5162)⟩, (b_gx1 : BlkO own 3583 wx gx1 tx1 #[.slice A3584 x3586.length c3585, .map (some mx1_1), .slice A3589 x3591.length c3590]), -⟩ := hf
          exact px (or_store1 (lab := 3583) (lab2 := 5165) ts103 f_31 f_29 b_gx1 (by simp) rfl (mem_of rfl) (by decide) rfl (fun own' a' w' ha hb => fun _ _ h0' => by cases (f_29.symm.trans ((ha 29).symm.trans h0')); exact hb))
        exact steps_nil
      intro own5166 a5166 w5166 hd5166 hz5166 hk5166 hf5166 hE5166
      have e5166_0 := (hk5166 0 rfl).trans e5152_0
      have e5166_2 := (hk5166 2 rfl).trans e5152_2
      have e5166_6 := (hk5166 6 rfl).trans e5152_6
      have e5166_7 := (hk5166 7 rfl).trans e5152_7
      have e5166_11 := (hk5166 11 rfl).trans e5152_11
      have e5166_12 := (hk5166 12 rfl).trans e5152_12
      have e5166_13 := (hk5166 13 rfl).trans e5152_13
      obtain ⟨⟨⟨A5164, cA5164⟩, (f_29 : a5166.eval (.tmp 29) = .slice A5164 x5162.length cA5164), (b_A5164 : RwO own5166 5163 [] w5166 80 R80 A5164 cA5164 x5162)⟩, (bq_gx1 : ∀ (A5164 : Option Addr) (cA5164 : Nat), a5166.eval (.tmp 29) = .slice A5164 x5162.length cA5164 → BlkO own5166 5165 w5166 gx1 tx1 #[.slice A5164 x5162.length cA5164, .map (some mx1_1), .slice A3589 x3591.length c3590]), -⟩ := hf5166 [7, 10] rfl
      have b_gx1 := bq_gx1 _ _ f_29
      have hX5166 := Evo.step hX5152 hown hE5166 rfl
      have b5166_mx1_1 := MpN.evo rfl hE5166 b5152_mx1_1
      have b5166_A3589 := RwO.evo rfl hE5166 b5152_A3589
      have b5166_g2691 := BlkO.evo (by decide) hE5166 b5152_g2691
      have b5166_Al2 := RdO.evo rfl hE5166 b5152_Al2
      have b5166_mk := MkO.evo (by decide) hE5166 b5152_mk
      have b5166_g5145 := BlkO.evo (by decide) hE5166 b5152_g5145
      have b5166_g5149 := BlkO.evo (by decide) hE5166 b5152_g5149
      have b5166_gx1 := b_gx1
      have b5166_A5164 := b_A5164
      refine fl_block (fun Q5167 hn5167 hx5167 hp5167 => ?_)
      have K5268 : ∀ (a5268 : Act) (w5268 : World) (own5268 : Own) (x5262 : List ((Int × Int) × (List Int))) (x5265 : List Int) (A5263 : Option Addr) (c5264 : Nat) (Ds5267 : List Nat), a5268.defers = mkD Ds5267 → a5268.tmps.size = 69 → a5268.eval (.tmp 0) = .pointer (some ⟨gx1, 0, none⟩) → a5268.eval (.tmp 2) = .pointer (some ⟨g2691, 0, none⟩) → a5268.eval (.tmp 11) = .slice Al2 l2.length cl2 → a5268.eval (.tmp 12) = .int .i64 (l2.length : Int) → a5268.eval (.tmp 13) = .int .i64 x3593 → Evo [1, 2, 3, 4, 5] own own5268 w w5268 → BlkO own5268 5261 w5268 gx1 tx1 #[.slice A5164 x5162.length cA5164, .map (some mx1_1), .slice A5263 x5265.length c5264] → RwO own5268 5163 [] w5268 80 R80 A5164 cA5164 x5162 → MpN own5268 3 4 [] w5268 mx1_1 vv111 3 R3 x5262 → RwO own5268 5266 [] w5268 3 R3 A5263 c5264 x5265 → BlkO own5268 2692 w5268 g2691 70 #[.pointer (some ⟨gx1, 0, none⟩)] → RdO own5268 [0] w5268 R80 Al2 cl2 l2 → MkO own5268 16 w5268 Ds5267 → rows_Index_Add_k2 x3593 x5162 x5262 x5265 = some zz4479 → (Q5167 .normal a5268 w5268 ∧ Q5167 (.exit 2) a5268 w5268) := by
        intro a5268 w5268 own5268 x5262 x5265 A5263 c5264 Ds5267 hd5269 hz5269 e5269_0 e5269_2 e5269_11 e5269_12 e5269_13 hE5269 b5269_gx1 b5269_A5164 b5269_mx1_1 b5269_A5263 b5269_g2691 b5269_Al2 b5269_mk hs
        refine and_both (hn5167 _ _) (hx5167 _ _) ?_
        refine hn4924 _ _ ?_
        refine hn4484 _ _ ?_
        refine rg_plain (n := 69) (rs := []) (own0 := own5268) (K := [])
            (bs := [0, 1])
            (ds := [⟨[], [13], [], Fct.val 63 (.int .i64 (ad x3593 1))⟩,
            ⟨[0], [], [], Fct.val 13 (.int .i64 (ad x3593 1))⟩]) (by kernel_rfl) hz5269 hd5269 (fun _ h => nomatch h) ?_ ?_
        · refine sc (fun _ _ _ _ s _ => px (or_add (s.1.trans e5269_13) rfl rfl)) ?_
          refine sc (fun _ _ _ f _ _ => px (or_move f.1)) ?_
          exact steps_nil
        intro own5270 a5270 w5270 hd5270 hz5270 hk5270 hf5270 hE5270
        have e5270_0 := (hk5270 0 rfl).trans e5269_0
        have e5270_2 := (hk5270 2 rfl).trans e5269_2
        have e5270_11 := (hk5270 11 rfl).trans e5269_11
        have e5270_12 := (hk5270 12 rfl).trans e5269_12
        obtain ⟨(f_13 : a5270.eval (.tmp 13) = .int .i64 (ad x3593 1)), -⟩ := hf5270 [1] rfl
        have e5270_13 := f_13
        have hX5270 := Evo.step hE5269 hown hE5270 rfl
        have b5270_gx1 := BlkO.evo (by decide) hE5270 b5269_gx1
        have b5270_A5164 := RwO.evo rfl hE5270 b5269_A5164
        have b5270_mx1_1 := MpN.evo rfl hE5270 b5269_mx1_1
        have b5270_A5263 := RwO.evo rfl hE5270 b5269_A5263
        have b5270_g2691 := BlkO.evo (by decide) hE5270 b5269_g2691
        have b5270_Al2 := RdO.evo rfl hE5270 b5269_Al2
        have b5270_mk := MkO.evo (by decide) hE5270 b5269_mk
        exact hn4479 _ _ _ hs ⟨(rl [(5163, 3587), (5261, 3583), (5266, 3592)] own5270), A5164, cA5164, A5263, c5264, Ds5267, hd5270, hz5270, e5270_0, e5270_2, e5270_11, e5270_12, e5270_13, (Evo.rl_ hX5270 hown rfl), (BlkO.rl_ (mm := [(5163, 3587), (5261, 3583), (5266, 3592)]) b5270_gx1), (RwO.rl_ (mm := [(5163, 3587), (5261, 3583), (5266, 3592)]) b5270_A5164), (MpN.rl_ (mm := [(5163, 3587), (5261, 3583), (5266, 3592)]) b5270_mx1_1), (RwO.rl_ (mm := [(5163, 3587), (5261, 3583), (5266, 3592)]) b5270_A5263), (BlkO.rl_ (mm := [(5163, 3587), (5261, 3583), (5266, 3592)]) b5270_g2691), (RdO.rl_ (mm := [(5163, 3587), (5261, 3583), (5266, 3592)]) b5270_Al2), (MkO.rl_ (mm := [(5163, 3587), (5261, 3583), (5266, 3592)]) b5270_mk)⟩
      obtain ⟨r5271, hr5271, hs⟩ := obind hs
      refine rg_plain_seq (n := 69) (rs := []) (own0 := own5166) (K := [])
          (bs := [0, 1, 3, 7])
          (ds := [⟨[], [6], [], Fct.val 47 (.agg #[.int .i64 x5144.1.1, .int .i64 x5144.1.2, .int .i64 x5144.2.1, .int .i64 x5144.2.2])⟩,
          ⟨[0], [], [], Fct.val 48 (.bool r5271)⟩,
          ⟨[1], [], [], Fct.val 49 (.bool (!r5271))⟩,
          ⟨[2], [], [], Fct.val 46 (.bool (!r5271))⟩]) (by kernel_rfl) hz5166 hd5166 (fun _ h => nomatch h) ?_ ?_
      · refine sc (fun _ _ _ _ s hE => px (or_load (l := [.int .i64 x5144.1.1, .int .i64 x5144.1.2, .int .i64 x5144.2.1, .int .i64 x5144.2.2]) ta80 (s.1.trans e5166_6) (Blk.cellsFrom (BlkO.evo (by decide) hE b5166_g5145).2 0 rfl) rfl)) ?_
        refine sc (fun _ _ _ f _ _ => px (or_call cf48 (args1 f.1) (rows_Right_w _ x5144  r5271 hr5271) post_val)) ?_
        refine sc (fun _ _ _ f _ _ => px (or_not f.1 rfl)) ?_
        refine sc (fun _ _ _ f _ _ => px (or_assign f.1)) ?_
        exact steps_nil
      intro own5272 a5272 w5272 hd5272 hz5272 hk5272 hf5272 hE5272
      have e5272_0 := (hk5272 0 rfl).trans e5166_0
      have e5272_2 := (hk5272 2 rfl).trans e5166_2
      have e5272_6 := (hk5272 6 rfl).trans e5166_6
      have e5272_7 := (hk5272 7 rfl).trans e5166_7
      have e5272_11 := (hk5272 11 rfl).trans e5166_11
      have e5272_12 := (hk5272 12 rfl).trans e5166_12
      have e5272_13 := (hk5272 13 rfl).trans e5166_13
      obtain ⟨(f_46 : a5272.eval (.tmp 46) = .bool (!r5271)), -⟩ := hf5272 [3] rfl
      have e5272_46 := f_46
      have hX5272 := Evo.step hX5166 hown hE5272 rfl
      have b5272_mx1_1 := MpN.evo rfl hE5272 b5166_mx1_1
      have b5272_A3589 := RwO.evo rfl hE5272 b5166_A3589
      have b5272_g2691 := BlkO.evo (by decide) hE5272 b5166_g2691
      have b5272_Al2 := RdO.evo rfl hE5272 b5166_Al2
      have b5272_mk := MkO.evo (by decide) hE5272 b5166_mk
      have b5272_g5145 := BlkO.evo (by decide) hE5272 b5166_g5145
      have b5272_g5149 := BlkO.evo (by decide) hE5272 b5166_g5149
      have b5272_gx1 := BlkO.evo (by decide) hE5272 b5166_gx1
      have b5272_A5164 := RwO.evo rfl hE5272 b5166_A5164
      refine fl_cond e5272_46 hs (fun c5273 hs => ?_) (fun c5273 hs => ?_)
      · refine fl_skip ?_
        exact (K5268 _ _ (rl [(3592, 5266), (5165, 5261)] own5272) _ _ A3589 c3590 Ds3594 hd5272 hz5272 e5272_0 e5272_2 e5272_11 e5272_12 e5272_13 (Evo.rl_ hX5272 hown rfl) (BlkO.rl_ (mm := [(3592, 5266), (5165, 5261)]) b5272_gx1) (RwO.rl_ (mm := [(3592, 5266), (5165, 5261)]) b5272_A5164) (MpN.rl_ (mm := [(3592, 5266), (5165, 5261)]) b5272_mx1_1) (RwO.rl_ (mm := [(3592, 5266), (5165, 5261)]) b5272_A3589) (BlkO.rl_ (mm := [(3592, 5266), (5165, 5261)]) b5272_g2691) (RdO.rl_ (mm := [(3592, 5266), (5165, 5261)]) b5272_Al2) (MkO.rl_ (mm := [(3592, 5266), (5165, 5261)]) b5272_mk) hs).1
      obtain ⟨r5274, hr5274, hs⟩ := obind hs
      refine rg_plain_seq (n := 69) (rs := []) (own0 := own5272) (K := [])
          (bs := [0, 1, 3])
          (ds := [⟨[], [6], [], Fct.val 51 (.agg #[.int .i64 x5144.1.1, .int .i64 x5144.1.2, .int .i64 x5144.2.1, .int .i64 x5144.2.2])⟩,
          ⟨[0], [], [], Fct.val 52 (.bool r5274)⟩,
          ⟨[1], [], [], Fct.val 50 (.bool r5274)⟩]) (by kernel_rfl) hz5272 hd5272 (fun _ h => nomatch h) ?_ ?_
      · refine sc (fun _ _ _ _ s hE => px (or_load (l := [.int .i64 x5144.1.1, .int .i64 x5144.1.2, .int .i64 x5144.2.1, .int .i64 x5144.2.2]) ta80 (s.1.trans e5272_6) (Blk.cellsFrom (BlkO.evo (by decide) hE b5272_g5145).2 0 rfl) rfl)) ?_
        refine sc (fun _ _ _ f _ _ => px (or_call cf49 (args1 f.1) (rows_great_w _ x5144  r5274 hr5274) post_val)) ?_
        refine sc (fun _ _ _ f _ _ => px (or_assign f.1)) ?_
        exact steps_nil
      intro own5275 a5275 w5275 hd5275 hz5275 hk5275 hf5275 hE5275
      have e5275_0 := (hk5275 0 rfl).trans e5272_0
      have e5275_2 := (hk5275 2 rfl).trans e5272_2
      have e5275_6 := (hk5275 6 rfl).trans e5272_6
      have e5275_7 := (hk5275 7 rfl).trans e5272_7
      have e5275_11 := (hk5275 11 rfl).trans e5272_11
      have e5275_12 := (hk5275 12 rfl).trans e5272_12
      have e5275_13 := (hk5275 13 rfl).trans e5272_13
      obtain ⟨(f_50 : a5275.eval (.tmp 50) = .bool r5274), -⟩ := hf5275 [2] rfl
      have e5275_50 := f_50
      have hX5275 := Evo.step hX5272 hown hE5275 rfl
      have b5275_mx1_1 := MpN.evo rfl hE5275 b5272_mx1_1
      have b5275_A3589 := RwO.evo rfl hE5275 b5272_A3589
      have b5275_g2691 := BlkO.evo (by decide) hE5275 b5272_g2691
      have b5275_Al2 := RdO.evo rfl hE5275 b5272_Al2
      have b5275_mk := MkO.evo (by decide) hE5275 b5272_mk
      have b5275_g5145 := BlkO.evo (by decide) hE5275 b5272_g5145
      have b5275_g5149 := BlkO.evo (by decide) hE5275 b5272_g5149
      have b5275_gx1 := BlkO.evo (by decide) hE5275 b5272_gx1
      have b5275_A5164 := RwO.evo rfl hE5275 b5272_A5164
      refine fl_cond e5275_50 hs (fun c5276 hs => ?_) (fun c5276 hs => ?_)
      · obtain ⟨x5286, hx5286, hs⟩ := obind hs
        refine rg_draw g_mixed (n := 69) (rs := [Fct.rowAt 3592 [] 3 R3 A3589 c3590 x3591, Fct.at_ 5165 gx1 tx1 #[.slice A5164 x5162.length cA5164, .map (some mx1_1), .slice A3589 x3591.length c3590]]) (own0 := own5275) (K := [3592, 5165])
            (bs := [0, 0, 2, 6, 14, 0, 32, 126, 255, 511, 1023])
            (ds := [⟨[], [2], [], Fct.val 53 (.pointer (some ⟨gx1, 0, none⟩))⟩,
            ⟨[], [2], [], Fct.val 54 (.pointer (some ⟨gx1, 0, none⟩))⟩,
            ⟨[1], [], [], Fct.val 55 (.pointer (some ⟨gx1, 0, none⟩))⟩,
            ⟨[2], [], [], Fct.val 56 (.pointer (some ⟨gx1, 2, none⟩))⟩,
            ⟨[3, 12], [], [], Fct.val 57 (.slice A3589 x3591.length c3590)⟩,
            ⟨[], [7], [], Fct.val 58 (.int .i64 (x3586.length : Int))⟩,
            ⟨[5], [], [], Fct.row 5285 [] 59 3 R3 [(x3586.length : Int)]⟩,
            ⟨[4, 6, 11], [], [3592], Fct.row 5287 [] 60 3 R3 x5286⟩,
            ⟨[0], [], [], Fct.val 61 (.pointer (some ⟨gx1, 0, none⟩))⟩,
            ⟨[8], [], [], Fct.val 62 (.pointer (some ⟨gx1, 2, none⟩))⟩,
            ⟨[9, 7, 12], [], [5165], Fct.by_ [5289] [60] (fun l own w => ∀ (A5288 : Option Addr) (cA5288 : Nat), l.getD 0 undef = .slice A5288 x5286.length cA5288 → BlkO own 5289 w gx1 tx1 #[.slice A5164 x5162.length cA5164, .map (some mx1_1), .slice A5288 x5286.length cA5288]) (fun hk he h _ _ h0' => BlkO.evo (not_hit hk (by decide)) he (h _ _ h0'))⟩]) (by kernel_rfl) hz5275 hd5275 (by simp only [List.forall_mem_cons]; exact ⟨b5275_A3589, b5275_gx1, fun _ h => nomatch h⟩) ?_ ?_
        · refine sc (fun _ _ _ _ s hE => px (or_load1 to70 (s.1.trans e5275_2) (Blk.at_ (BlkO.evo (by decide) hE b5275_g2691).2 0 rfl))) ?_
          refine sc (fun _ _ _ _ s hE => px (or_load1 to70 (s.1.trans e5275_2) (Blk.at_ (BlkO.evo (by decide) hE b5275_g2691).2 0 rfl))) ?_
          refine sc (fun _ _ _ f _ _ => px (or_k [(54, .pointer (some ⟨gx1, 0, none⟩))] rfl rfl ⟨f.1, trivial⟩ (by kernel_rfl))) ?_
          refine sc (fun _ _ _ f _ _ => px (or_field fo106_2 f.1 (by rfl))) ?_
          refine sc (fun own a wx hf hsl hE => ?_) ?_
          · obtain ⟨(f_56 : a.eval (.tmp 56) = .pointer (some ⟨gx1, 2, none⟩)), (b_gx1 : BlkO own 5165 wx gx1 tx1 #[.slice A5164 x5162.length cA5164, .map (some mx1_1), .slice A3589 x3591.length c3590]), -⟩ := hf
            exact px (or_load1 to22 f_56 (Blk.at_ b_gx1.2 2 rfl))
          refine sc (fun _ _ _ _ s hE => px (or_load1 to3 (s.1.trans e5275_7) (Blk.at_ (BlkO.evo (by decide) hE b5275_g5149).2 0 rfl))) ?_
          refine sc (fun _ _ _ f _ _ => px (or_lit (lab := 5285) (e := 3) (cs := #[.int .i64 (x3586.length : Int)]) (F := E3) (or_new [(58, .int .i64 (x3586.length : Int))] rfl rfl ⟨f.1, trivial⟩ (by kernel_rfl)) rfl rfl (show 1 ≤ maxLen by decide))) ?_
          refine sc (fun own a wx hf hsl hE => ?_) ?_
          · obtain ⟨(f_57 : a.eval (.tmp 57) = .slice A3589 x3591.length c3590), ⟨⟨A5284, cA5284⟩, (f_59 : a.eval (.tmp 59) = .slice A5284 [(x3586.length : Int)].length cA5284), (b_A5284 : RwO own 5285 [] wx 3 R3 A5284 cA5284 [(x3586.length : Int)])⟩, (b_A3589 : RwO own 3592 [] wx 3 R3 A3589 c3590 x3591), -⟩ := hf
            exact px (or_append (R := R3) (lab := 3592) (lab2 := 5287) (L := []) (L3 := []) tp22 f_57 b_A3589 (by decide) f_59 (RwO.rd b_A5284) hx5286 (by decide) (by decide) (mem_of rfl) (.inl (Rep.fl_flat _)))
          refine sc (fun _ _ _ f _ _ => px (or_k [(53, .pointer (some ⟨gx1, 0, none⟩))] rfl rfl ⟨f.1, trivial⟩ (by kernel_rfl))) ?_
          refine sc (fun _ _ _ f _ _ => px (or_field fo106_2 f.1 (by rfl))) ?_
          refine sc (fun own a wx hf hsl hE => ?_) ?_
          · obtain ⟨(f_62 : a.eval (.tmp 62) = .pointer (some ⟨gx1, 2, none⟩)), ⟨⟨A5288, cA5288⟩, (f_60 : a.eval (.tmp 60) = .slice A5288 x5286.length cA5288), (b_A5288 : RwO own 5287 [] wx 3 R3 A5288 cA5288 x5286)⟩, (b_gx1 : BlkO own 5165 wx gx1 tx1 #[.slice A5164 x5162.length cA5164, .map (some mx1_1), .slice A3589 x3591.length c3590]), -⟩ := hf
            exact px (or_store1 (lab := 5165) (lab2 := 5289) ts22 f_62 f_60 b_gx1 (by simp) rfl (mem_of rfl) (by decide) rfl (fun own' a' w' ha hb => fun _ _ h0' => by cases (f_60.symm.trans ((ha 60).symm.trans h0')); exact hb))
          exact steps_nil
        intro own5290 a5290 w5290 hd5290 hz5290 hk5290 hf5290 hE5290
        have e5290_0 := (hk5290 0 rfl).trans e5275_0
        have e5290_2 := (hk5290 2 rfl).trans e5275_2
        have e5290_11 := (hk5290 11 rfl).trans e5275_11
        have e5290_12 := (hk5290 12 rfl).trans e5275_12
        have e5290_13 := (hk5290 13 rfl).trans e5275_13
        obtain ⟨⟨⟨A5288, cA5288⟩, (f_60 : a5290.eval (.tmp 60) = .slice A5288 x5286.length cA5288), (b_A5288 : RwO own5290 5287 [] w5290 3 R3 A5288 cA5288 x5286)⟩, (bq_gx1 : ∀ (A5288 : Option Addr) (cA5288 : Nat), a5290.eval (.tmp 60) = .slice A5288 x5286.length cA5288 → BlkO own5290 5289 w5290 gx1 tx1 #[.slice A5164 x5162.length cA5164, .map (some mx1_1), .slice A5288 x5286.length cA5288]), -⟩ := hf5290 [7, 10] rfl
        have b_gx1 := bq_gx1 _ _ f_60
        have hX5290 := Evo.step hX5275 hown hE5290 rfl
        have b5290_mx1_1 := MpN.evo rfl hE5290 b5275_mx1_1
        have b5290_g2691 := BlkO.evo (by decide) hE5290 b5275_g2691
        have b5290_Al2 := RdO.evo rfl hE5290 b5275_Al2
        have b5290_mk := MkO.evo (by decide) hE5290 b5275_mk
        have b5290_A5164 := RwO.evo rfl hE5290 b5275_A5164
        have b5290_gx1 := b_gx1
        have b5290_A5288 := b_A5288
        exact (K5268 _ _ (rl [(5287, 5266), (5289, 5261)] own5290) _ _ A5288 cA5288 Ds3594 hd5290 hz5290 e5290_0 e5290_2 e5290_11 e5290_12 e5290_13 (Evo.rl_ hX5290 hown rfl) (BlkO.rl_ (mm := [(5287, 5266), (5289, 5261)]) b5290_gx1) (RwO.rl_ (mm := [(5287, 5266), (5289, 5261)]) b5290_A5164) (MpN.rl_ (mm := [(5287, 5266), (5289, 5261)]) b5290_mx1_1) (RwO.rl_ (mm := [(5287, 5266), (5289, 5261)]) b5290_A5288) (BlkO.rl_ (mm := [(5287, 5266), (5289, 5261)]) b5290_g2691) (RdO.rl_ (mm := [(5287, 5266), (5289, 5261)]) b5290_Al2) (MkO.rl_ (mm := [(5287, 5266), (5289, 5261)]) b5290_mk) hs).1
      refine rg_plain_seq (n := 69) (rs := []) (own0 := own5275) (K := [])
          (bs := [0, 1])
          (ds := [⟨[], [6], [], Fct.val 32 (.agg #[.int .i64 x5144.1.1, .int .i64 x5144.1.2, .int .i64 x5144.2.1, .int .i64 x5144.2.2])⟩,
          ⟨[0], [], [], Fct.mems [5292] 33 (fun (x : Option Addr × Nat) => .func (.func 64) #[] #[.pointer (some ⟨x.2, 0, none⟩)]) (fun (x : Option Addr × Nat) own w => BlkO own 5292 w x.2 80 #[.int .i64 x5144.1.1, .int .i64 x5144.1.2, .int .i64 x5144.2.1, .int .i64 x5144.2.2]) (fun hk he h => BlkO.evo (not_hit hk (by decide)) he h)⟩]) (by kernel_rfl) hz5275 hd5275 (fun _ h => nomatch h) ?_ ?_
      · refine sc (fun _ _ _ _ s hE => px (or_load (l := [.int .i64 x5144.1.1, .int .i64 x5144.1.2, .int .i64 x5144.2.1, .int .i64 x5144.2.2]) ta80 (s.1.trans e5275_6) (Blk.cellsFrom (BlkO.evo (by decide) hE b5275_g5145).2 0 rfl) rfl)) ?_
        refine sc (fun _ _ _ f _ _ => px (or_call cf50 (args1 f.1) (rows_fields_w _ x5144  () rfl) (post_mems (m := (fun _ => 0)) (m' := (look0 [(1, 5292)])) (fun _ _ => .inl rfl) (fun own' w' a' x h1 h => ⟨x, h1, BlkO.back_ h (by decide)⟩)))) ?_
        exact steps_nil
      intro own5293 a5293 w5293 hd5293 hz5293 hk5293 hf5293 hE5293
      have e5293_0 := (hk5293 0 rfl).trans e5275_0
      have e5293_2 := (hk5293 2 rfl).trans e5275_2
      have e5293_7 := (hk5293 7 rfl).trans e5275_7
      have e5293_11 := (hk5293 11 rfl).trans e5275_11
      have e5293_12 := (hk5293 12 rfl).trans e5275_12
      have e5293_13 := (hk5293 13 rfl).trans e5275_13
      obtain ⟨⟨⟨A5291, cA5291⟩, (f_33 : a5293.eval (.tmp 33) = .func (.func 64) #[] #[.pointer (some ⟨cA5291, 0, none⟩)]), (b_cA5291 : BlkO own5293 5292 w5293 cA5291 80 #[.int .i64 x5144.1.1, .int .i64 x5144.1.2, .int .i64 x5144.2.1, .int .i64 x5144.2.2])⟩, -⟩ := hf5293 [1] rfl
      have e5293_33 := f_33
      have hX5293 := Evo.step hX5275 hown hE5293 rfl
      have b5293_mx1_1 := MpN.evo rfl hE5293 b5275_mx1_1
      have b5293_A3589 := RwO.evo rfl hE5293 b5275_A3589
      have b5293_g2691 := BlkO.evo (by decide) hE5293 b5275_g2691
      have b5293_Al2 := RdO.evo rfl hE5293 b5275_Al2
      have b5293_mk := MkO.evo (by decide) hE5293 b5275_mk
      have b5293_g5149 := BlkO.evo (by decide) hE5293 b5275_g5149
      have b5293_gx1 := BlkO.evo (by decide) hE5293 b5275_gx1
      have b5293_A5164 := RwO.evo rfl hE5293 b5275_A5164
      have b5293_cA5291 := b_cA5291
      refine fl_block (fun Q5294 hn5294 hx5294 hp5294 => ?_)
      obtain ⟨zz5338, hzz5338, hs⟩ := rngO_some hs
      refine fl_range (S := List ((Int × Int) × (List Int))) (D := Empty) (X := (Int × Int)) (encs := (fun (x : (Int × Int)) => #[.agg #[.int .i64 x.1, .int .i64 x.2]])) (n := 69) [3, 4, 5345, 5356, 5358, 5361] 5339 16 rfl
          (fun (x5316 : List ((Int × Int) × (List Int))) (ox : Own) (wx : World) => Evo [1, 2, 3, 4, 5] own ox w wx ∧ BlkO ox 5165 wx gx1 tx1 #[.slice A5164 x5162.length cA5164, .map (some mx1_1), .slice A3589 x3591.length c3590] ∧ RwO ox 5163 [] wx 80 R80 A5164 cA5164 x5162 ∧ MpN ox 3 4 [] wx mx1_1 vv111 3 R3 x5316 ∧ RwO ox 3592 [] wx 3 R3 A3589 c3590 x3591 ∧ BlkO ox 2692 wx g2691 70 #[.pointer (some ⟨gx1, 0, none⟩)] ∧ BlkO ox 5151 wx g5149 3 #[.int .i64 (x3586.length : Int)] ∧ RdO ox [0] wx R80 Al2 cl2 l2 ∧ BlkO ox 5292 wx cA5291 80 #[.int .i64 x5144.1.1, .int .i64 x5144.1.2, .int .i64 x5144.2.1, .int .i64 x5144.2.2])
          (fun (e : Empty) (_ : Own) (_ : World) => nomatch e)
          (fun (e : Empty) => nomatch e) (fun (sr : List ((Int × Int) × (List Int))) (xr : (Int × Int)) => rows_Index_Add_b3 x3586 sr xr) hz5293 rfl e5293_33 cf64 (cargs := fun l => #[.func (.yield l) #[] #[], .pointer (some ⟨cA5291, 0, none⟩)]) (fun _ => by simp) (fun _ => rfl) hd5293 b5293_mk ?_ ?_ x3588 zz5338 ⟨hX5293, b5293_gx1, b5293_A5164, b5293_mx1_1, b5293_A3589, b5293_g2691, b5293_g5149, b5293_Al2, b5293_cA5291⟩ ?_ ?_ ?_ ?_
      · rintro x5316 ox ox1 wx wx1 hEs ⟨h5338_0, h5338_1, h5338_2, h5338_3, h5338_4, h5338_5, h5338_6, h5338_7, h5338_8⟩
        exact ⟨(Evo.step h5338_0 hown hEs rfl), (BlkO.evo (by decide) hEs h5338_1), (RwO.evo rfl hEs h5338_2), (MpN.evo rfl hEs h5338_3), (RwO.evo rfl hEs h5338_4), (BlkO.evo (by decide) hEs h5338_5), (BlkO.evo (by decide) hEs h5338_6), (RdO.evo rfl hEs h5338_7), (BlkO.evo (by decide) hEs h5338_8)⟩
      · intro e; exact nomatch e
      · intro l5338 own1 w1 J5338 hE1 hJ1 hR1
        exact (rows_fields_1_w w1 (forth own1 (look0 (kj 5339 [3, 4, 5345, 5356, 5358, 5361]))) ((List ((Int × Int) × (List Int))) ⊕ Empty) (yb (fun (sr : List ((Int × Int) × (List Int))) (xr : (Int × Int)) => rows_Index_Add_b3 x3586 sr xr)) J5338 l5338 (Sum.inl x3588) x5144 cA5291 80 (look0_le rfl) hR1 hJ1 (BlkO.forth_ (BlkO.evo (by decide) hE1 b5293_cA5291)) zz5338 hzz5338).mono fun e wz ⟨oz, he, _, hJz⟩ => ⟨_, oz, he, hJz⟩
      · rintro l5342 x5316 x5341 zz2 own5342 a5342 w5342 Ds5342 ⟨hE5343, b5343_gx1, b5343_A5164, b5343_mx1_1, b5343_A3589, b5343_g2691, b5343_g5149, b5343_Al2, b5343_cA5291⟩ - hrc5342 hs ⟨hd5342, hz5342, hkp5342, hpar5342⟩ Q5342 hn5342
        have hs : rows_Index_Add_b3 x3586 x5316 x5341 = some zz2 := hs
        replace hz5342 := hz5342.trans hz5293
        have e5342_0 : a5342.eval (.tmp 0) = .pointer (some ⟨gx1, 0, none⟩) := (hkp5342 0 rfl).trans e5293_0
        have e5342_2 : a5342.eval (.tmp 2) = .pointer (some ⟨g2691, 0, none⟩) := (hkp5342 2 rfl).trans e5293_2
        have e5342_7 : a5342.eval (.tmp 7) = .pointer (some ⟨g5149, 0, none⟩) := (hkp5342 7 rfl).trans e5293_7
        have e5342_11 : a5342.eval (.tmp 11) = .slice Al2 l2.length cl2 := (hkp5342 11 rfl).trans e5293_11
        have e5342_12 : a5342.eval (.tmp 12) = .int .i64 (l2.length : Int) := (hkp5342 12 rfl).trans e5293_12
        have e5342_13 : a5342.eval (.tmp 13) = .int .i64 x3593 := (hkp5342 13 rfl).trans e5293_13
        have e5342_33 : a5342.eval (.tmp 33) = .func (.func 64) #[] #[.pointer (some ⟨cA5291, 0, none⟩)] := (hkp5342 33 rfl).trans e5293_33
        have e5342_34 : a5342.eval (.tmp 34) = .agg #[.int .i64 x5341.1, .int .i64 x5341.2] := hpar5342 0 34 _ rfl rfl
        have hE5342 := Evo.refl [3, 4, 5345, 5356, 5358, 5361] own5342 w5342
        have hrc0_5342 := hrc5342
        refine rg_plain (n := 69) (rs := []) (own0 := own5342) (K := [5345])
            (bs := [0, 1])
            (ds := [⟨[], [], [], Fct.blk 5345 8 (fun g => .pointer (some ⟨g, 0, none⟩)) 111 #[.int .i64 0, .int .i64 0]⟩,
            ⟨[0], [34], [5345], Fct.blk 5346 8 (fun g => .pointer (some ⟨g, 0, none⟩)) 111 #[.int .i64 x5341.1, .int .i64 x5341.2]⟩]) (by kernel_rfl) hz5342 hd5342 (fun _ h => nomatch h) ?_ ?_
        · refine sc (fun _ _ _ _ _ _ => px (or_new [] rfl rfl trivial (by kernel_rfl))) ?_
          refine sc (fun own a wx hf hsl hE => ?_) ?_
          · obtain ⟨⟨g5344, (f_8 : a.eval (.tmp 8) = .pointer (some ⟨g5344, 0, none⟩)), (b_g5344 : BlkO own 5345 wx g5344 111 #[.int .i64 0, .int .i64 0])⟩, -⟩ := hf
            obtain ⟨s_34, -⟩ := hsl
            exact px (or_store (l := #[.int .i64 x5341.1, .int .i64 x5341.2]) (lab := 5345) (lab2 := 5346) ts111 f_8 (s_34.trans e5342_34) b_g5344 (by simp) (by kernel_rfl) (mem_of rfl) (by decide) (by kernel_rfl) (fun own' a' w' ha hb => ⟨_, (ha 8).trans f_8, hb⟩))
          exact steps_nil
        intro own5347 a5347 w5347 hd5347 hz5347 hk5347 hf5347 hE5347
        have e5347_0 := (hk5347 0 rfl).trans e5342_0
        have e5347_2 := (hk5347 2 rfl).trans e5342_2
        have e5347_7 := (hk5347 7 rfl).trans e5342_7
        have e5347_11 := (hk5347 11 rfl).trans e5342_11
        have e5347_12 := (hk5347 12 rfl).trans e5342_12
        have e5347_13 := (hk5347 13 rfl).trans e5342_13
        have e5347_33 := (hk5347 33 rfl).trans e5342_33
        obtain ⟨⟨g5344, (f_8 : a5347.eval (.tmp 8) = .pointer (some ⟨g5344, 0, none⟩)), (b_g5344 : BlkO own5347 5346 w5347 g5344 111 #[.int .i64 x5341.1, .int .i64 x5341.2])⟩, -⟩ := hf5347 [1] rfl
        have e5347_8 := f_8
        have hX5347 := Evo.stepK hE5342 hE5347 rfl
        have b5347_gx1 := BlkO.evo (by decide) hE5347 b5343_gx1
        have b5347_A5164 := RwO.evo rfl hE5347 b5343_A5164
        have b5347_mx1_1 := MpN.evo rfl hE5347 b5343_mx1_1
        have b5347_A3589 := RwO.evo rfl hE5347 b5343_A3589
        have b5347_g2691 := BlkO.evo (by decide) hE5347 b5343_g2691
        have b5347_g5149 := BlkO.evo (by decide) hE5347 b5343_g5149
        have b5347_Al2 := RdO.evo rfl hE5347 b5343_Al2
        have b5347_cA5291 := BlkO.evo (by decide) hE5347 b5343_cA5291
        have b5347_g5344 := b_g5344
        refine hn5342 _ _ _ hX5347 (fun w5348 own5348 hE5348 hrc5348 => ?_)
        have b5348_gx1 := BlkO.evo (by decide) hE5348 b5347_gx1
        have b5348_A5164 := RwO.evo rfl hE5348 b5347_A5164
        have b5348_mx1_1 := MpN.evo rfl hE5348 b5347_mx1_1
        have b5348_A3589 := RwO.evo rfl hE5348 b5347_A3589
        have b5348_g2691 := BlkO.evo (by decide) hE5348 b5347_g2691
        have b5348_g5149 := BlkO.evo (by decide) hE5348 b5347_g5149
        have b5348_Al2 := RdO.evo rfl hE5348 b5347_Al2
        have b5348_cA5291 := BlkO.evo (by decide) hE5348 b5347_cA5291
        have b5348_g5344 := BlkO.evo (by decide) hE5348 b5347_g5344
        have hU5348 := Evo.step (Evo.step hE5343 hown hX5347 rfl) hown hE5348 rfl
        have hX5348 := Evo.refl [3, 4, 5345, 5356, 5358, 5361] own5348 w5348
        have hmk5348 : MkO own5348 16 w5348 [] := MkO.nil_
        refine fl_block (fun Q5349 hn5349 hx5349 hp5349 => ?_)
        obtain ⟨x5357, hx5357, hs⟩ := obind hs
        obtain ⟨D5360, hD5360, hs⟩ := obind hs
        obtain ⟨ys5352, Dv5352, hM5352, hK5352, hL5352⟩ := b5348_mx1_1
        refine rg_draw g_mixed (n := 69) (rs := [Fct.mapAt 3 mx1_1 vv111 (fun v : Value => v) Dv5352, Fct.elsAt 4 [] 3 R3 x5316 ys5352 Dv5352]) (own0 := own5348) (K := [3, 4, 5356])
            (bs := [0, 1, 3, 7, 0, 0, 32, 127, 255, 511, 255, 2047])
            (ds := [⟨[], [2], [], Fct.val 35 (.pointer (some ⟨gx1, 0, none⟩))⟩,
            ⟨[0], [], [], Fct.val 36 (.pointer (some ⟨gx1, 0, none⟩))⟩,
            ⟨[1], [], [], Fct.val 37 (.pointer (some ⟨gx1, 1, none⟩))⟩,
            ⟨[2], [], [], Fct.val 38 (.map (some mx1_1))⟩,
            ⟨[], [8], [], Fct.val 39 (.agg #[.int .i64 x5341.1, .int .i64 x5341.2])⟩,
            ⟨[], [7], [], Fct.val 41 (.int .i64 (x3586.length : Int))⟩,
            ⟨[5], [], [], Fct.row 5354 [] 42 3 R3 [(x3586.length : Int)]⟩,
            ⟨[3, 4, 12, 13], [], [3], Fct.ment 5356 43 mx1_1 vv111 Dv5352 x5341 ys5352 ((lkM x5316 x5341).getD [])⟩,
            ⟨[7], [], [], Fct.rel [40, 43] (fun l => ∀ (A5355 : Option Addr) (cA5355 : Nat) (bA5355 : Nat), l.getD 1 undef = .tuple #[.slice A5355 ((lkM x5316 x5341).getD []).length cA5355, .int .i64 (bA5355 : Int)] → l.getD 0 undef = .slice A5355 ((lkM x5316 x5341).getD []).length cA5355)⟩,
            ⟨[8, 7, 6, 13], [], [4], Fct.mhole 5358 [] 44 3 R3 x5316 Dv5352 x5341 x5357⟩,
            ⟨[7], [], [], Fct.rel [45, 43] (fun l => ∀ (A5355 : Option Addr) (cA5355 : Nat) (bA5355 : Nat), l.getD 1 undef = .tuple #[.slice A5355 ((lkM x5316 x5341).getD []).length cA5355, .int .i64 (bA5355 : Int)] → l.getD 0 undef = .int .i64 (bA5355 : Int))⟩,
            ⟨[3, 10, 7, 9], [], [5356], Fct.mapnAt 5361 5358 [] mx1_1 vv111 3 R3 D5360⟩]) (by kernel_rfl) hz5347 hd5347 (by simp only [List.forall_mem_cons]; exact ⟨hM5352, hL5352, fun _ h => nomatch h⟩) ?_ ?_
        · refine sc (fun _ _ _ _ s hE => px (or_load1 to70 (s.1.trans e5347_2) (Blk.at_ (BlkO.evo (by decide) hE b5348_g2691).2 0 rfl))) ?_
          refine sc (fun _ _ _ f _ _ => px (or_k [(35, .pointer (some ⟨gx1, 0, none⟩))] rfl rfl ⟨f.1, trivial⟩ (by kernel_rfl))) ?_
          refine sc (fun _ _ _ f _ _ => px (or_field fo106_1 f.1 (by rfl))) ?_
          refine sc (fun _ _ _ f _ hE => px (or_load1 to104 f.1 (Blk.at_ (BlkO.evo (by decide) hE b5348_gx1).2 1 rfl))) ?_
          refine sc (fun _ _ _ _ s hE => px (or_load (l := [.int .i64 x5341.1, .int .i64 x5341.2]) ta111 (s.1.trans e5347_8) (Blk.cellsFrom (BlkO.evo (by decide) hE b5348_g5344).2 0 rfl) rfl)) ?_
          refine sc (fun _ _ _ _ s hE => px (or_load1 to3 (s.1.trans e5347_7) (Blk.at_ (BlkO.evo (by decide) hE b5348_g5149).2 0 rfl))) ?_
          refine sc (fun _ _ _ f _ _ => px (or_lit (lab := 5354) (e := 3) (cs := #[.int .i64 (x3586.length : Int)]) (F := E3) (or_new [(41, .int .i64 (x3586.length : Int))] rfl rfl ⟨f.1, trivial⟩ (by kernel_rfl)) rfl rfl (show 1 ≤ maxLen by decide))) ?_
          refine sc (fun own a wx hf hsl hE => ?_) ?_
          · obtain ⟨(f_38 : a.eval (.tmp 38) = .map (some mx1_1)), (f_39 : a.eval (.tmp 39) = .agg #[.int .i64 x5341.1, .int .i64 x5341.2]), (b_mvmx1_1 : MpO own 3 wx mx1_1 vv111 (fun v : Value => v) Dv5352), (b_elmx1_1 : ElsM own 4 [] wx 3 R3 x5316 ys5352 Dv5352), -⟩ := hf
            exact px (or_mborrow (lab := 3) (lab2 := 5356) (k := x5341) ko111 tm104 tzv104 f_38 f_39 b_mvmx1_1 hK5352 b_elmx1_1 rfl (mem_of rfl) (by decide))
          refine sc (fun own a wx hf hsl hE => ?_) ?_
          · obtain ⟨⟨⟨⟨A5355, cA5355⟩, bA5355⟩, (f_43 : a.eval (.tmp 43) = .tuple #[.slice A5355 ((lkM x5316 x5341).getD []).length cA5355, .int .i64 (bA5355 : Int)]), (b_A5355 : Ment own 5356 wx mx1_1 vv111 Dv5352 x5341 ys5352 ((A5355, cA5355), bA5355))⟩, -⟩ := hf
            exact px (or_mono (f := Fct.val 40 (.slice A5355 ((lkM x5316 x5341).getD []).length cA5355)) (or_k [(43, .tuple #[.slice A5355 ((lkM x5316 x5341).getD []).length cA5355, .int .i64 (bA5355 : Int)])] rfl rfl ⟨f_43, trivial⟩ (by kernel_rfl)) (fun own' a' w' v' hp h => fun _ _ _ h0' => by cases (f_43.symm.trans ((hp.2 43 (by decide)).symm.trans h0')); exact h))
          refine sc (fun own a wx hf hsl hE => ?_) ?_
          · obtain ⟨(q_40 : ∀ (A5355 : Option Addr) (cA5355 : Nat) (bA5355 : Nat), a.eval (.tmp 43) = .tuple #[.slice A5355 ((lkM x5316 x5341).getD []).length cA5355, .int .i64 (bA5355 : Int)] → a.eval (.tmp 40) = .slice A5355 ((lkM x5316 x5341).getD []).length cA5355), ⟨⟨⟨A5355, cA5355⟩, bA5355⟩, (f_43 : a.eval (.tmp 43) = .tuple #[.slice A5355 ((lkM x5316 x5341).getD []).length cA5355, .int .i64 (bA5355 : Int)]), (b_A5355 : Ment own 5356 wx mx1_1 vv111 Dv5352 x5341 ys5352 ((A5355, cA5355), bA5355))⟩, ⟨⟨A5353, cA5353⟩, (f_42 : a.eval (.tmp 42) = .slice A5353 [(x3586.length : Int)].length cA5353), (b_A5353 : RwO own 5354 [] wx 3 R3 A5353 cA5353 [(x3586.length : Int)])⟩, (b_elmx1_1 : ElsM own 4 [] wx 3 R3 x5316 ys5352 Dv5352), -⟩ := hf
            have f_40 := q_40 _ _ _ f_43
            exact px (or_mgrow (R := R3) (lab := 5356) (labE := 4) (lab2 := 5358) (L := []) (L3 := []) (y := ((A5355, cA5355), bA5355)) tp22 f_40 b_A5355 hK5352 b_elmx1_1 rfl f_42 (RwO.rd b_A5353) hx5357 (by decide) (by decide) (by decide) (mem_of rfl) rfl rfl (by decide) (.inl (Rep.fl_flat _)))
          refine sc (fun own a wx hf hsl hE => ?_) ?_
          · obtain ⟨⟨⟨⟨A5355, cA5355⟩, bA5355⟩, (f_43 : a.eval (.tmp 43) = .tuple #[.slice A5355 ((lkM x5316 x5341).getD []).length cA5355, .int .i64 (bA5355 : Int)]), (b_A5355 : Ment own 5356 wx mx1_1 vv111 Dv5352 x5341 ys5352 ((A5355, cA5355), bA5355))⟩, -⟩ := hf
            exact px (or_mono (f := Fct.val 45 (.int .i64 (bA5355 : Int))) (or_k [(43, .tuple #[.slice A5355 ((lkM x5316 x5341).getD []).length cA5355, .int .i64 (bA5355 : Int)])] rfl rfl ⟨f_43, trivial⟩ (by kernel_rfl)) (fun own' a' w' v' hp h => fun _ _ _ h0' => by cases (f_43.symm.trans ((hp.2 43 (by decide)).symm.trans h0')); exact h))
          refine sc (fun own a wx hf hsl hE => ?_) ?_
          · obtain ⟨(f_38 : a.eval (.tmp 38) = .map (some mx1_1)), (q_45 : ∀ (A5355 : Option Addr) (cA5355 : Nat) (bA5355 : Nat), a.eval (.tmp 43) = .tuple #[.slice A5355 ((lkM x5316 x5341).getD []).length cA5355, .int .i64 (bA5355 : Int)] → a.eval (.tmp 45) = .int .i64 (bA5355 : Int)), ⟨⟨⟨A5355, cA5355⟩, bA5355⟩, (f_43 : a.eval (.tmp 43) = .tuple #[.slice A5355 ((lkM x5316 x5341).getD []).length cA5355, .int .i64 (bA5355 : Int)]), (b_A5355 : Ment own 5356 wx mx1_1 vv111 Dv5352 x5341 ys5352 ((A5355, cA5355), bA5355))⟩, ⟨⟨⟨A5359, cA5359⟩, zs5359⟩, (f_44 : a.eval (.tmp 44) = .slice A5359 x5357.length cA5359), (b_A5359 : Hole own 5358 [] wx 3 R3 x5316 Dv5352 x5341 x5357 ((A5359, cA5359), zs5359))⟩, -⟩ := hf
            have f_45 := q_45 _ _ _ f_43
            exact px (or_mput (R := R3) (lab := 5356) (lab2 := 5361) (labE := 5358) (L := []) (k := x5341) (y := ((A5355, cA5355), bA5355)) (z := (A5359, cA5359)) f_38 f_45 f_44 hK5352 b_A5355 b_A5359 (osome hD5360).symm (mem_of rfl) (by decide) rfl (fun own' a' w' hb => hb))
          exact steps_nil
        intro own5362 a5362 w5362 hd5362 hz5362 hk5362 hf5362 hE5362
        have e5362_0 := (hk5362 0 rfl).trans e5347_0
        have e5362_2 := (hk5362 2 rfl).trans e5347_2
        have e5362_7 := (hk5362 7 rfl).trans e5347_7
        have e5362_11 := (hk5362 11 rfl).trans e5347_11
        have e5362_12 := (hk5362 12 rfl).trans e5347_12
        have e5362_13 := (hk5362 13 rfl).trans e5347_13
        have e5362_33 := (hk5362 33 rfl).trans e5347_33
        obtain ⟨(b_mx1_1 : MpN own5362 5361 5358 [] w5362 mx1_1 vv111 3 R3 D5360), -⟩ := hf5362 [11] rfl
        have hX5362 := Evo.stepK hX5348 hE5362 rfl
        have b5362_gx1 := BlkO.evo (by decide) hE5362 b5348_gx1
        have b5362_A5164 := RwO.evo rfl hE5362 b5348_A5164
        have b5362_A3589 := RwO.evo rfl hE5362 b5348_A3589
        have b5362_g2691 := BlkO.evo (by decide) hE5362 b5348_g2691
        have b5362_g5149 := BlkO.evo (by decide) hE5362 b5348_g5149
        have b5362_Al2 := RdO.evo rfl hE5362 b5348_Al2
        have b5362_cA5291 := BlkO.evo (by decide) hE5362 b5348_cA5291
        have b5362_rc := RcO.evo (by decide) hE5362 hrc5348
        have b5362_mk := MkO.evo (by decide) hE5362 hmk5348
        have b5362_mx1_1 := b_mx1_1
        refine hn5349 _ _ ?_
        exact ⟨_, (rl [(5358, 4), (5361, 3)] own5362), osome hs, (Evo.rlK hX5362 rfl), (Evo.step hU5348 hown (Evo.rlK hX5362 rfl) rfl), (BlkO.rl_ (mm := [(5358, 4), (5361, 3)]) b5362_gx1), (RwO.rl_ (mm := [(5358, 4), (5361, 3)]) b5362_A5164), (MpN.rl_ (mm := [(5358, 4), (5361, 3)]) b5362_mx1_1), (RwO.rl_ (mm := [(5358, 4), (5361, 3)]) b5362_A3589), (BlkO.rl_ (mm := [(5358, 4), (5361, 3)]) b5362_g2691), (BlkO.rl_ (mm := [(5358, 4), (5361, 3)]) b5362_g5149), (RdO.rl_ (mm := [(5358, 4), (5361, 3)]) b5362_Al2), (BlkO.rl_ (mm := [(5358, 4), (5361, 3)]) b5362_cA5291)⟩
      · rintro x5316 a5363 own5363 w5363 Ds5363 hzz5363 hd5363 hz5363 hkp5363 hmk5363 ⟨hE5363, b5363_gx1, b5363_A5164, b5363_mx1_1, b5363_A3589, b5363_g2691, b5363_g5149, b5363_Al2, b5363_cA5291⟩
        subst hzz5363
        have hs : rows_Index_Add_b4 x3591 x3593 x5162 x5316 = some zz4479 := hs
        have e5363_0 : a5363.eval (.tmp 0) = .pointer (some ⟨gx1, 0, none⟩) := (hkp5363 0).trans e5293_0
        have e5363_2 : a5363.eval (.tmp 2) = .pointer (some ⟨g2691, 0, none⟩) := (hkp5363 2).trans e5293_2
        have e5363_7 : a5363.eval (.tmp 7) = .pointer (some ⟨g5149, 0, none⟩) := (hkp5363 7).trans e5293_7
        have e5363_11 : a5363.eval (.tmp 11) = .slice Al2 l2.length cl2 := (hkp5363 11).trans e5293_11
        have e5363_12 : a5363.eval (.tmp 12) = .int .i64 (l2.length : Int) := (hkp5363 12).trans e5293_12
        have e5363_13 : a5363.eval (.tmp 13) = .int .i64 x3593 := (hkp5363 13).trans e5293_13
        have e5363_33 : a5363.eval (.tmp 33) = .func (.func 64) #[] #[.pointer (some ⟨cA5291, 0, none⟩)] := (hkp5363 33).trans e5293_33
        refine hn5294 _ _ ?_
        exact (K5268 _ _ (rl [(3592, 5266), (5165, 5261)] own5363) _ _ A3589 c3590 Ds5363 hd5363 hz5363 e5363_0 e5363_2 e5363_11 e5363_12 e5363_13 (Evo.rl_ hE5363 hown rfl) (BlkO.rl_ (mm := [(3592, 5266), (5165, 5261)]) b5363_gx1) (RwO.rl_ (mm := [(3592, 5266), (5165, 5261)]) b5363_A5164) (MpN.rl_ (mm := [(3592, 5266), (5165, 5261)]) b5363_mx1_1) (RwO.rl_ (mm := [(3592, 5266), (5165, 5261)]) b5363_A3589) (BlkO.rl_ (mm := [(3592, 5266), (5165, 5261)]) b5363_g2691) (RdO.rl_ (mm := [(3592, 5266), (5165, 5261)]) b5363_Al2) (MkO.rl_ (mm := [(3592, 5266), (5165, 5261)]) hmk5363) hs).1
      · intro e; exact nomatch e
    refine fl_exit ?_
    refine hp4482 _ _ _ rfl ?_
    replace hs := hz4479 _ hs
    refine hp4479 _ _ _ rfl ?_
    refine hx2698 _ _ ?_
    refine hn2696 _ _ ?_
    refine rg_plain_seq (n := 69) (rs := []) (own0 := own4481) (K := [])
        (bs := [0, 1, 3, 7, 15, 31])
        (ds := [⟨[], [2], [], Fct.val 64 (.pointer (some ⟨gx1, 0, none⟩))⟩,
        ⟨[0], [], [], Fct.val 65 (.pointer (some ⟨gx1, 0, none⟩))⟩,
        ⟨[1], [], [], Fct.val 66 (.pointer (some ⟨gx1, 0, none⟩))⟩,
        ⟨[2], [], [], Fct.val 67 (.slice A3584 x3586.length c3585)⟩,
        ⟨[3], [], [], Fct.val 68 (.int .i64 (x3586.length : Int))⟩,
        ⟨[4], [], [], Fct.val 4 (.int .i64 (x3586.length : Int))⟩]) (by kernel_rfl) hz4481 hd4481 (fun _ h => nomatch h) ?_ ?_
    · refine sc (fun _ _ _ _ s hE => px (or_load1 to70 (s.1.trans e4481_2) (Blk.at_ (BlkO.evo (by decide) hE b4481_g2691).2 0 rfl))) ?_
      refine sc (fun _ _ _ f _ _ => px (or_k [(64, .pointer (some ⟨gx1, 0, none⟩))] rfl rfl ⟨f.1, trivial⟩ (by kernel_rfl))) ?_
      refine sc (fun _ _ _ f _ _ => px (or_field fo106_0 f.1 (by rfl))) ?_
      refine sc (fun _ _ _ f _ hE => px (or_load1 to103 f.1 (Blk.at_ (BlkO.evo (by decide) hE b4481_gx1).2 0 rfl))) ?_
      refine sc (fun _ _ _ f _ _ => px (or_len tu103 f.1 rfl)) ?_
      refine sc (fun _ _ _ f _ _ => px (or_assign f.1)) ?_
      exact steps_nil
    intro own5364 a5364 w5364 hd5364 hz5364 hk5364 hf5364 hE5364
    have e5364_0 := (hk5364 0 rfl).trans e4481_0
    obtain ⟨(f_4 : a5364.eval (.tmp 4) = .int .i64 (x3586.length : Int)), -⟩ := hf5364 [5] rfl
    have e5364_4 := f_4
    have hX5364 := Evo.step hX4481 hown hE5364 rfl
    have b5364_gx1 := BlkO.evo (by decide) hE5364 b4481_gx1
    have b5364_A3584 := RwO.evo rfl hE5364 b4481_A3584
    have b5364_mx1_1 := MpN.evo rfl hE5364 b4481_mx1_1
    have b5364_A3589 := RwO.evo rfl hE5364 b4481_A3589
    have b5364_mk := MkO.evo (by decide) hE5364 b4481_mk
    refine fl_ret ?_
    refine hret _ _ _ _ _ (.inl rfl) hd5364 b5364_mk (fun own5365 w5365 hE5365 => ?_)
    have hX5366 := Evo.step hX5364 hown hE5365 rfl
    have b5366_gx1 := BlkO.evo (by decide) hE5365 b5364_gx1
    have b5366_A3584 := RwO.evo rfl hE5365 b5364_A3584
    have b5366_mx1_1 := MpN.evo rfl hE5365 b5364_mx1_1
    have b5366_A3589 := RwO.evo rfl hE5365 b5364_A3589
    obtain rfl := osome hs
    exact ⟨_, results1_ rfl (RVal.tmp_ e5364_4), ⟨(rl [(3583, 1), (3587, 2), (3592, 5)] own5365), ((A3584, c3585), (A3589, c3590)), rfl, (Evo.rl_ hX5366 hown rfl), (RwO.rl_ (mm := [(3583, 1), (3587, 2), (3592, 5)]) b5366_A3584), (MpN.rl_ (mm := [(3583, 1), (3587, 2), (3592, 5)]) b5366_mx1_1), (RwO.rl_ (mm := [(3583, 1), (3587, 2), (3592, 5)]) b5366_A3589), (BlkO.rl_ (mm := [(3583, 1), (3587, 2), (3592, 5)]) b5366_gx1)⟩⟩
theorem rows_New_w (w : World) (l1 : List ((Int × Int) × (Int × Int))) (Al1 : Option Addr) (cl1 : Nat) (hl1 : RdO (fun _ => 0) [0] w R80 Al1 cl1 l1) (r : (List ((Int × Int) × (Int × Int))) × (List ((Int × Int) × (List Int))) × (List Int)) (hs : rows_New l1 = some r) :
    Calls Try.prog 28 #[.slice Al1 l1.length cl1] w fun e w' => ∃ (own' : Own) (x : (Option Addr × Nat) × (Option Addr × Nat) × (Option Addr × Nat) × (Option Addr × Nat)), e = .returned (.pointer (some ⟨x.1.2, 0, none⟩)) ∧ Evo [] (fun _ => 0) own' w w' ∧ RwO own' 2 [] w' 80 R80 x.2.1.1 x.2.1.2 r.1 ∧ MpN own' 3 4 [] w' x.2.2.1.2 vv111 3 R3 r.2.1 ∧ RwO own' 5 [] w' 3 R3 x.2.2.2.1 x.2.2.2.2 r.2.2 ∧ BlkO own' 1 w' x.1.2 106 #[.slice x.2.1.1 r.1.length x.2.1.2, .map (some x.2.2.1.2), .slice x.2.2.2.1 r.2.2.length x.2.2.2.2] := by
  refine fl_enter (n := 11) rfl rfl rfl (Nat.le_of_ble_eq_true rfl) ?_
  intro a0 Q hd0 hz0 harg hret
  have ha0 := harg 0 _ rfl
  clear harg
  have hE0 : Evo [] (fun _ => 0) (fun _ => 0) w w := Evo.refl _ _ _
  refine rg_plain_seq (n := 11) (rs := []) (own0 := (fun _ => 0)) (K := [])
      (bs := [0])
      (ds := [⟨[], [], [], Fct.val 2 (.pointer none)⟩]) (by kernel_rfl) hz0 hd0 (fun _ h => nomatch h) ?_ ?_
  · refine sc (fun _ _ _ _ _ _ => px (or_assign rfl)) ?_
    exact steps_nil
  intro own28 a28 w28 hd28 hz28 hk28 hf28 hE28
  have e28_0 := (hk28 0 rfl).trans ha0
  have hX28 := Evo.step hE0 (fun _ => Nat.le_refl 0) hE28 rfl
  have b28_Al1 := RdO.evo rfl hE28 hl1
  refine rg_plain_seq (n := 11) (rs := []) (own0 := own28) (K := [])
      (bs := [0, 1, 3, 7])
      (ds := [⟨[], [], [], Fct.mapn_ 30 31 [] 4 vv111 3 R3 ([] : List ((Int × Int) × (List Int)))⟩,
      ⟨[0], [], [], Fct.rel [5, 4] (fun l => ∀ (g29 : Nat), l.getD 1 undef = .map (some g29) → l.getD 0 undef = .agg #[.slice none 0 0, .map (some g29), .slice none 0 0])⟩,
      ⟨[1, 0], [], [], Fct.by_ [33] [6, 4] (fun l own w => ∃ g32 : Nat, l.getD 0 undef = .pointer (some ⟨g32, 0, none⟩) ∧ (∀ (g29 : Nat), l.getD 1 undef = .map (some g29) → BlkO own 33 w g32 106 #[.slice none 0 0, .map (some g29), .slice none 0 0])) (fun hk he h => by obtain ⟨g, e, h⟩ := h; exact ⟨g, e, fun _ h0' => BlkO.evo (not_hit hk (by decide)) he (h _ h0')⟩)⟩,
      ⟨[2, 0], [], [], Fct.rel [3, 6] (fun l => ∀ (g32 : Nat), l.getD 1 undef = .pointer (some ⟨g32, 0, none⟩) → l.getD 0 undef = .pointer (some ⟨g32, 0, none⟩))⟩]) (by kernel_rfl) hz28 hd28 (fun _ h => nomatch h) ?_ ?_
  · refine sc (fun _ _ _ _ _ _ => px (or_makeMapN)) ?_
    refine sc (fun own a wx hf hsl hE => ?_) ?_
    · obtain ⟨⟨g29, (f_4 : a.eval (.tmp 4) = .map (some g29)), (b_g29 : MpN own 30 31 [] wx g29 vv111 3 R3 ([] : List ((Int × Int) × (List Int))))⟩, -⟩ := hf
      exact px (or_mono (f := Fct.val 5 (.agg #[.slice none 0 0, .map (some g29), .slice none 0 0])) (or_k [(4, .map (some g29))] rfl rfl ⟨f_4, trivial⟩ (by kernel_rfl)) (fun own' a' w' v' hp h => fun _ h0' => by cases (f_4.symm.trans ((hp.2 4 (by decide)).symm.trans h0')); exact h))
    refine sc (fun own a wx hf hsl hE => ?_) ?_
    · obtain ⟨(q_5 : ∀ (g29 : Nat), a.eval (.tmp 4) = .map (some g29) → a.eval (.tmp 5) = .agg #[.slice none 0 0, .map (some g29), .slice none 0 0]), ⟨g29, (f_4 : a.eval (.tmp 4) = .map (some g29)), (b_g29 : MpN own 30 31 [] wx g29 vv111 3 R3 ([] : List ((Int × Int) × (List Int))))⟩, -⟩ := hf
      have f_5 := q_5 _ f_4
      exact px (or_mono (f := Fct.blk 33 6 (fun g => .pointer (some ⟨g, 0, none⟩)) 106 #[.slice none 0 0, .map (some g29), .slice none 0 0]) (or_new [(5, .agg #[.slice none 0 0, .map (some g29), .slice none 0 0])] rfl rfl ⟨f_5, trivial⟩ (by kernel_rfl)) (fun own' a' w' v' hp h => by obtain ⟨g, e, h⟩ := h; exact ⟨g, e, fun _ h0' => by cases (f_4.symm.trans ((hp.2 4 (by decide)).symm.trans h0')); exact h⟩))
    refine sc (fun own a wx hf hsl hE => ?_) ?_
    · obtain ⟨⟨g32, (f_6 : a.eval (.tmp 6) = .pointer (some ⟨g32, 0, none⟩)), (bq_g32 : ∀ (g29 : Nat), a.eval (.tmp 4) = .map (some g29) → BlkO own 33 wx g32 106 #[.slice none 0 0, .map (some g29), .slice none 0 0])⟩, ⟨g29, (f_4 : a.eval (.tmp 4) = .map (some g29)), (b_g29 : MpN own 30 31 [] wx g29 vv111 3 R3 ([] : List ((Int × Int) × (List Int))))⟩, -⟩ := hf
      have b_g32 := bq_g32 _ f_4
      exact px (or_mono (f := Fct.val 3 (.pointer (some ⟨g32, 0, none⟩))) (or_assign f_6) (fun own' a' w' v' hp h => fun _ h0' => by cases (f_6.symm.trans ((hp.2 6 (by decide)).symm.trans h0')); exact h))
    exact steps_nil
  intro own34 a34 w34 hd34 hz34 hk34 hf34 hE34
  have e34_0 := (hk34 0 rfl).trans e28_0
  obtain ⟨⟨g29, (f_4 : a34.eval (.tmp 4) = .map (some g29)), (b_g29 : MpN own34 30 31 [] w34 g29 vv111 3 R3 ([] : List ((Int × Int) × (List Int))))⟩, ⟨g32, (f_6 : a34.eval (.tmp 6) = .pointer (some ⟨g32, 0, none⟩)), (bq_g32 : ∀ (g29 : Nat), a34.eval (.tmp 4) = .map (some g29) → BlkO own34 33 w34 g32 106 #[.slice none 0 0, .map (some g29), .slice none 0 0])⟩, (q_3 : ∀ (g32 : Nat), a34.eval (.tmp 6) = .pointer (some ⟨g32, 0, none⟩) → a34.eval (.tmp 3) = .pointer (some ⟨g32, 0, none⟩)), -⟩ := hf34 [0, 2, 3] rfl
  have b_g32 := bq_g32 _ f_4
  have f_3 := q_3 _ f_6
  have e34_3 := f_3
  have hX34 := Evo.step hX28 (fun _ => Nat.le_refl 0) hE34 rfl
  have b34_Al1 := RdO.evo rfl hE34 b28_Al1
  have b34_g29 := b_g29
  have b34_g32 := b_g32
  obtain ⟨r35, hr35, hs⟩ := obind hs
  refine rg_plain_seq (n := 11) (rs := [Fct.at_ 33 g32 106 #[.slice none 0 0, .map (some g29), .slice none 0 0], Fct.mapnAt 30 31 [] g29 vv111 3 R3 ([] : List ((Int × Int) × (List Int)))]) (own0 := own34) (K := [33, 30, 31])
      (bs := [0, 0, 3])
      (ds := [⟨[], [3], [], Fct.val 7 (.pointer (some ⟨g32, 0, none⟩))⟩,
      ⟨[], [0], [], Fct.val 8 (.slice Al1 l1.length cl1)⟩,
      ⟨[0, 1, 3, 4], [], [33, 30, 31], Fct.mems [38, 39, 40, 41, 42] 9 (fun (x : (Option Addr × Nat) × (Option Addr × Nat)) => .int .i64 r35.1) (fun (x : (Option Addr × Nat) × (Option Addr × Nat)) own w => RwO own 38 [] w 80 R80 x.1.1 x.1.2 r35.2.1 ∧ MpN own 39 40 [] w g29 vv111 3 R3 r35.2.2.1 ∧ RwO own 41 [] w 3 R3 x.2.1 x.2.2 r35.2.2.2 ∧ BlkO own 42 w g32 106 #[.slice x.1.1 r35.2.1.length x.1.2, .map (some g29), .slice x.2.1 r35.2.2.2.length x.2.2]) (fun hk he h => ⟨RwO.evo (hits_sub hk (by decide)) he h.1, MpN.evo (hits_sub hk (by decide)) he h.2.1, RwO.evo (hits_sub hk (by decide)) he h.2.2.1, BlkO.evo (not_hit hk (by decide)) he h.2.2.2⟩)⟩]) (by kernel_rfl) hz34 hd34 (by simp only [List.forall_mem_cons]; exact ⟨b34_g32, b34_g29, fun _ h => nomatch h⟩) ?_ ?_
  · refine sc (fun _ _ _ _ s _ => px (or_move (s.1.trans e34_3))) ?_
    refine sc (fun _ _ _ _ s _ => px (or_move (s.1.trans e34_0))) ?_
    refine sc (fun own a wx hf hsl hE => ?_) ?_
    · obtain ⟨(f_7 : a.eval (.tmp 7) = .pointer (some ⟨g32, 0, none⟩)), (f_8 : a.eval (.tmp 8) = .slice Al1 l1.length cl1), (b_g32 : BlkO own 33 wx g32 106 #[.slice none 0 0, .map (some g29), .slice none 0 0]), (b_g29 : MpN own 30 31 [] wx g29 vv111 3 R3 ([] : List ((Int × Int) × (List Int)))), -⟩ := hf
      exact px (or_call cf29 (args2 f_7 f_8) (rows_Index_Add_w _ (forth own (look0 [(30, 3), (31, 4), (33, 1)])) (([] : List ((Int × Int) × (Int × Int))), ([] : List ((Int × Int) × (List Int))), ([] : List Int)) g32 106 none 0 g29 none 0 l1 Al1 cl1 (look0_le rfl) (BlkO.forth_ (m := (look0 [(30, 3), (31, 4), (33, 1)])) b_g32) RwO.nil_ (MpN.forth_ (m := (look0 [(30, 3), (31, 4), (33, 1)])) b_g29) RwO.nil_ (RdO.forth_ (m := (look0 [(30, 3), (31, 4), (33, 1)])) (RdO.evo rfl hE b34_Al1)) r35 hr35) (post_mems (m := (look0 [(30, 3), (31, 4), (33, 1)])) (m' := (look0 [(1, 42), (2, 38), (3, 39), (4, 40), (5, 41)])) (hm_of rfl) (fun own' w' a' x h1 h => ⟨x, h1, ⟨RwO.back_ h.1 (by decide) (.inl (Rep.fl_flat _)), MpN.back_ h.2.1 (by decide) (by decide) (.inl (Rep.fl_flat _)), RwO.back_ h.2.2.1 (by decide) (.inl (Rep.fl_flat _)), BlkO.back_ h.2.2.2 (by decide)⟩⟩)))
    exact steps_nil
  intro own43 a43 w43 hd43 hz43 hk43 hf43 hE43
  have e43_3 := (hk43 3 rfl).trans e34_3
  obtain ⟨⟨⟨⟨A36, cA36⟩, ⟨A37, cA37⟩⟩, (f_9 : a43.eval (.tmp 9) = .int .i64 r35.1), (b_A36 : RwO own43 38 [] w43 80 R80 A36 cA36 r35.2.1), (b_g29 : MpN own43 39 40 [] w43 g29 vv111 3 R3 r35.2.2.1), (b_A37 : RwO own43 41 [] w43 3 R3 A37 cA37 r35.2.2.2), (b_g32 : BlkO own43 42 w43 g32 106 #[.slice A36 r35.2.1.length cA36, .map (some g29), .slice A37 r35.2.2.2.length cA37])⟩, -⟩ := hf43 [2] rfl
  have hX43 := Evo.step hX34 (fun _ => Nat.le_refl 0) hE43 rfl
  have b43_g32 := b_g32
  have b43_g29 := b_g29
  have b43_A36 := b_A36
  have b43_A37 := b_A37
  refine rg_plain_seq (n := 11) (rs := []) (own0 := own43) (K := [])
      (bs := [0, 1])
      (ds := [⟨[], [3], [], Fct.val 10 (.pointer (some ⟨g32, 0, none⟩))⟩,
      ⟨[0], [], [], Fct.val 2 (.pointer (some ⟨g32, 0, none⟩))⟩]) (by kernel_rfl) hz43 hd43 (fun _ h => nomatch h) ?_ ?_
  · refine sc (fun _ _ _ _ s _ => px (or_move (s.1.trans e43_3))) ?_
    refine sc (fun _ _ _ f _ _ => px (or_assign f.1)) ?_
    exact steps_nil
  intro own44 a44 w44 hd44 hz44 hk44 hf44 hE44
  obtain ⟨(f_2 : a44.eval (.tmp 2) = .pointer (some ⟨g32, 0, none⟩)), -⟩ := hf44 [1] rfl
  have e44_2 := f_2
  have hX44 := Evo.step hX43 (fun _ => Nat.le_refl 0) hE44 rfl
  have b44_g32 := BlkO.evo (by decide) hE44 b43_g32
  have b44_g29 := MpN.evo rfl hE44 b43_g29
  have b44_A36 := RwO.evo rfl hE44 b43_A36
  have b44_A37 := RwO.evo rfl hE44 b43_A37
  refine fl_ret ?_
  obtain rfl := osome hs
  exact hret _ _ _ _ (.inl rfl) hd44 (results1_ rfl (RVal.tmp_ e44_2)) ⟨(rl [(38, 2), (39, 3), (40, 4), (41, 5), (42, 1)] own44), ((none, g32), (A36, cA36), (none, g29), (A37, cA37)), rfl, (Evo.rl_ hX44 (fun _ => Nat.le_refl 0) rfl), (RwO.rl_ (mm := [(38, 2), (39, 3), (40, 4), (41, 5), (42, 1)]) b44_A36), (MpN.rl_ (mm := [(38, 2), (39, 3), (40, 4), (41, 5), (42, 1)]) b44_g29), (RwO.rl_ (mm := [(38, 2), (39, 3), (40, 4), (41, 5), (42, 1)]) b44_A37), (BlkO.rl_ (mm := [(38, 2), (39, 3), (40, 4), (41, 5), (42, 1)]) b44_g32)⟩
theorem exact_Less_w (w : World) (x1 : Int × Int) (b2 : Int × Int) (r : Bool) (hs : exact_Less x1 b2 = some r) :
    Calls Try.prog 51 #[.agg #[.int .i64 x1.1, .int .i64 x1.2], .agg #[.int .i64 b2.1, .int .i64 b2.2]] w fun e w' => ∃ own' : Own, e = .returned (.bool r) ∧ Evo [] (fun _ => 0) own' w w' := by
  refine fl_enter (n := 24) rfl rfl rfl (Nat.le_of_ble_eq_true rfl) ?_
  intro a0 Q hd0 hz0 harg hret
  have ha0 := harg 0 _ rfl
  have ha1 := harg 1 _ rfl
  clear harg
  have hE0 : Evo [] (fun _ => 0) (fun _ => 0) w w := Evo.refl _ _ _
  refine rg_plain_seq (n := 24) (rs := []) (own0 := (fun _ => 0)) (K := [])
      (bs := [0, 0, 0])
      (ds := [⟨[], [0], [], Fct.blk 19 2 (fun g => .pointer (some ⟨g, 0, none⟩)) 25 #[.int .i64 x1.1, .int .i64 x1.2]⟩,
      ⟨[], [1], [], Fct.blk 21 3 (fun g => .pointer (some ⟨g, 0, none⟩)) 25 #[.int .i64 b2.1, .int .i64 b2.2]⟩,
      ⟨[], [], [], Fct.val 4 (.bool false)⟩]) (by kernel_rfl) hz0 hd0 (fun _ h => nomatch h) ?_ ?_
  · refine sc (fun _ _ _ _ s _ => px (or_new [(0, .agg #[.int .i64 x1.1, .int .i64 x1.2])] rfl rfl ⟨(s.1.trans ha0), trivial⟩ (by kernel_rfl))) ?_
    refine sc (fun _ _ _ _ s _ => px (or_new [(1, .agg #[.int .i64 b2.1, .int .i64 b2.2])] rfl rfl ⟨(s.1.trans ha1), trivial⟩ (by kernel_rfl))) ?_
    refine sc (fun _ _ _ _ _ _ => px (or_assign rfl)) ?_
    exact steps_nil
  intro own22 a22 w22 hd22 hz22 hk22 hf22 hE22
  obtain ⟨⟨g18, (f_2 : a22.eval (.tmp 2) = .pointer (some ⟨g18, 0, none⟩)), (b_g18 : BlkO own22 19 w22 g18 25 #[.int .i64 x1.1, .int .i64 x1.2])⟩, ⟨g20, (f_3 : a22.eval (.tmp 3) = .pointer (some ⟨g20, 0, none⟩)), (b_g20 : BlkO own22 21 w22 g20 25 #[.int .i64 b2.1, .int .i64 b2.2])⟩, -⟩ := hf22 [0, 1] rfl
  have e22_2 := f_2
  have e22_3 := f_3
  have hX22 := Evo.step hE0 (fun _ => Nat.le_refl 0) hE22 rfl
  have b22_g18 := b_g18
  have b22_g20 := b_g20
  obtain ⟨x23, hx23, hs⟩ := obind hs
  refine rg_plain_seq (n := 24) (rs := []) (own0 := own22) (K := [])
      (bs := [0, 1, 0, 4, 15, 31, 63, 127, 63, 319, 1023, 2047, 4095, 8191, 4095, 20479, 65535, 131071, 262143, 524287])
      (ds := [⟨[], [2], [], Fct.val 5 (.pointer (some ⟨g18, 0, none⟩))⟩,
      ⟨[0], [], [], Fct.val 6 (.int .i64 x1.1)⟩,
      ⟨[], [3], [], Fct.val 7 (.pointer (some ⟨g20, 0, none⟩))⟩,
      ⟨[2], [], [], Fct.val 8 (.int .i64 b2.1)⟩,
      ⟨[1, 3], [], [], Fct.val 9 (.bool (decide (x1.1 < b2.1)))⟩,
      ⟨[4], [], [], Fct.val 10 (.bool (decide (x1.1 < b2.1)))⟩,
      ⟨[5], [2], [], Fct.cond (!(decide (x1.1 < b2.1))) (some 11) (Fct.val 11 (.pointer (some ⟨g18, 0, none⟩)))⟩,
      ⟨[5, 6], [], [], Fct.cond (!(decide (x1.1 < b2.1))) (some 12) (Fct.val 12 (.int .i64 x1.1))⟩,
      ⟨[5], [3], [], Fct.cond (!(decide (x1.1 < b2.1))) (some 13) (Fct.val 13 (.pointer (some ⟨g20, 0, none⟩)))⟩,
      ⟨[5, 8], [], [], Fct.cond (!(decide (x1.1 < b2.1))) (some 14) (Fct.val 14 (.int .i64 b2.1))⟩,
      ⟨[5, 7, 9], [], [], Fct.cond (!(decide (x1.1 < b2.1))) (some 15) (Fct.val 15 (.bool (decide (x1.1 = b2.1))))⟩,
      ⟨[5, 10], [], [], Fct.cond (!(decide (x1.1 < b2.1))) (some 16) (Fct.val 16 (.bool (decide (x1.1 = b2.1))))⟩,
      ⟨[11], [2], [], Fct.cond ((!(decide (x1.1 < b2.1))) && (decide (x1.1 = b2.1))) (some 17) (Fct.val 17 (.pointer (some ⟨g18, 1, none⟩)))⟩,
      ⟨[11, 12], [], [], Fct.cond ((!(decide (x1.1 < b2.1))) && (decide (x1.1 = b2.1))) (some 18) (Fct.val 18 (.int .i64 x1.2))⟩,
      ⟨[11], [3], [], Fct.cond ((!(decide (x1.1 < b2.1))) && (decide (x1.1 = b2.1))) (some 19) (Fct.val 19 (.pointer (some ⟨g20, 1, none⟩)))⟩,
      ⟨[11, 14], [], [], Fct.cond ((!(decide (x1.1 < b2.1))) && (decide (x1.1 = b2.1))) (some 20) (Fct.val 20 (.int .i64 b2.2))⟩,
      ⟨[11, 13, 15], [], [], Fct.cond ((!(decide (x1.1 < b2.1))) && (decide (x1.1 = b2.1))) (some 21) (Fct.val 21 (.bool (decide (x1.2 < b2.2))))⟩,
      ⟨[5, 11, 16], [], [], Fct.cond (!(decide (x1.1 < b2.1))) (some 22) (Fct.val 22 (.bool x23))⟩,
      ⟨[5, 17], [], [], Fct.val 23 (.bool ((decide (x1.1 < b2.1)) || x23))⟩,
      ⟨[18], [], [], Fct.val 4 (.bool ((decide (x1.1 < b2.1)) || x23))⟩]) (by kernel_rfl) hz22 hd22 (fun _ h => nomatch h) ?_ ?_
  · refine sc (fun _ _ _ _ s _ => px (or_field fo25_0 (s.1.trans e22_2) (by rfl))) ?_
    refine sc (fun _ _ _ f _ hE => px (or_load1 to3 f.1 (Blk.at_ (BlkO.evo (by decide) hE b22_g18).2 0 rfl))) ?_
    refine sc (fun _ _ _ _ s _ => px (or_field fo25_0 (s.1.trans e22_3) (by rfl))) ?_
    refine sc (fun _ _ _ f _ hE => px (or_load1 to3 f.1 (Blk.at_ (BlkO.evo (by decide) hE b22_g20).2 0 rfl))) ?_
    refine sc (fun _ _ _ f _ _ => px (or_lss f.1 f.2.1 rfl)) ?_
    refine sc (fun _ _ _ f _ _ => px (or_move f.1)) ?_
    refine sc (fun own a wx hf hsl hE => ?_) ?_
    · obtain ⟨(f_10 : a.eval (.tmp 10) = .bool (decide (x1.1 < b2.1))), -⟩ := hf
      obtain ⟨s_2, -⟩ := hsl
      refine sg_f rfl rfl rfl f_10 (fun hg => ?_)
      exact or_field fo25_0 (s_2.trans e22_2) (by rfl)
    refine sc (fun own a wx hf hsl hE => ?_) ?_
    · obtain ⟨(f_10 : a.eval (.tmp 10) = .bool (decide (x1.1 < b2.1))), c_11, -⟩ := hf
      refine sg_f rfl rfl rfl f_10 (fun hg => ?_)
      have f_11 : a.eval (.tmp 11) = .pointer (some ⟨g18, 0, none⟩) := c_11.1 hg
      exact or_load1 to3 f_11 (Blk.at_ (BlkO.evo (by decide) hE b22_g18).2 0 rfl)
    refine sc (fun own a wx hf hsl hE => ?_) ?_
    · obtain ⟨(f_10 : a.eval (.tmp 10) = .bool (decide (x1.1 < b2.1))), -⟩ := hf
      obtain ⟨s_3, -⟩ := hsl
      refine sg_f rfl rfl rfl f_10 (fun hg => ?_)
      exact or_field fo25_0 (s_3.trans e22_3) (by rfl)
    refine sc (fun own a wx hf hsl hE => ?_) ?_
    · obtain ⟨(f_10 : a.eval (.tmp 10) = .bool (decide (x1.1 < b2.1))), c_13, -⟩ := hf
      refine sg_f rfl rfl rfl f_10 (fun hg => ?_)
      have f_13 : a.eval (.tmp 13) = .pointer (some ⟨g20, 0, none⟩) := c_13.1 hg
      exact or_load1 to3 f_13 (Blk.at_ (BlkO.evo (by decide) hE b22_g20).2 0 rfl)
    refine sc (fun own a wx hf hsl hE => ?_) ?_
    · obtain ⟨(f_10 : a.eval (.tmp 10) = .bool (decide (x1.1 < b2.1))), c_12, c_14, -⟩ := hf
      refine sg_f rfl rfl rfl f_10 (fun hg => ?_)
      have f_12 : a.eval (.tmp 12) = .int .i64 x1.1 := c_12.1 hg
      have f_14 : a.eval (.tmp 14) = .int .i64 b2.1 := c_14.1 hg
      exact or_eql f_12 f_14 rfl
    refine sc (fun own a wx hf hsl hE => ?_) ?_
    · obtain ⟨(f_10 : a.eval (.tmp 10) = .bool (decide (x1.1 < b2.1))), c_15, -⟩ := hf
      refine sg_f rfl rfl rfl f_10 (fun hg => ?_)
      have f_15 : a.eval (.tmp 15) = .bool (decide (x1.1 = b2.1)) := c_15.1 hg
      exact or_move f_15
    refine sc (fun own a wx hf hsl hE => ?_) ?_
    · obtain ⟨c_16, -⟩ := hf
      obtain ⟨s_2, -⟩ := hsl
      refine sg_tc rfl rfl rfl c_16 (fun hg => ?_)
      have f_16 : a.eval (.tmp 16) = .bool (decide (x1.1 = b2.1)) := c_16.1 (gL hg)
      exact or_field fo25_1 (s_2.trans e22_2) (by rfl)
    refine sc (fun own a wx hf hsl hE => ?_) ?_
    · obtain ⟨c_16, c_17, -⟩ := hf
      refine sg_tc rfl rfl rfl c_16 (fun hg => ?_)
      have f_16 : a.eval (.tmp 16) = .bool (decide (x1.1 = b2.1)) := c_16.1 (gL hg)
      have f_17 : a.eval (.tmp 17) = .pointer (some ⟨g18, 1, none⟩) := c_17.1 hg
      exact or_load1 to3 f_17 (Blk.at_ (BlkO.evo (by decide) hE b22_g18).2 1 rfl)
    refine sc (fun own a wx hf hsl hE => ?_) ?_
    · obtain ⟨c_16, -⟩ := hf
      obtain ⟨s_3, -⟩ := hsl
      refine sg_tc rfl rfl rfl c_16 (fun hg => ?_)
      have f_16 : a.eval (.tmp 16) = .bool (decide (x1.1 = b2.1)) := c_16.1 (gL hg)
      exact or_field fo25_1 (s_3.trans e22_3) (by rfl)
    refine sc (fun own a wx hf hsl hE => ?_) ?_
    · obtain ⟨c_16, c_19, -⟩ := hf
      refine sg_tc rfl rfl rfl c_16 (fun hg => ?_)
      have f_16 : a.eval (.tmp 16) = .bool (decide (x1.1 = b2.1)) := c_16.1 (gL hg)
      have f_19 : a.eval (.tmp 19) = .pointer (some ⟨g20, 1, none⟩) := c_19.1 hg
      exact or_load1 to3 f_19 (Blk.at_ (BlkO.evo (by decide) hE b22_g20).2 1 rfl)
    refine sc (fun own a wx hf hsl hE => ?_) ?_
    · obtain ⟨c_16, c_18, c_20, -⟩ := hf
      refine sg_tc rfl rfl rfl c_16 (fun hg => ?_)
      have f_16 : a.eval (.tmp 16) = .bool (decide (x1.1 = b2.1)) := c_16.1 (gL hg)
      have f_18 : a.eval (.tmp 18) = .int .i64 x1.2 := c_18.1 hg
      have f_20 : a.eval (.tmp 20) = .int .i64 b2.2 := c_20.1 hg
      exact or_lss f_18 f_20 rfl
    refine sc (fun own a wx hf hsl hE => ?_) ?_
    · obtain ⟨(f_10 : a.eval (.tmp 10) = .bool (decide (x1.1 < b2.1))), c_16, c_21, -⟩ := hf
      refine sg_f rfl rfl rfl f_10 (fun hg => ?_)
      have f_16 : a.eval (.tmp 16) = .bool (decide (x1.1 = b2.1)) := c_16.1 hg
      exact or_and f_16 (fun hx => c_21.1 (gI hg hx)) rfl (osome hx23).symm
    refine sc (fun own a wx hf hsl hE => ?_) ?_
    · obtain ⟨(f_10 : a.eval (.tmp 10) = .bool (decide (x1.1 < b2.1))), c_22, -⟩ := hf
      exact px (or_or f_10 rfl (fun hx => c_22.1 hx) rfl)
    refine sc (fun _ _ _ f _ _ => px (or_assign f.1)) ?_
    exact steps_nil
  intro own24 a24 w24 hd24 hz24 hk24 hf24 hE24
  obtain ⟨(f_4 : a24.eval (.tmp 4) = .bool ((decide (x1.1 < b2.1)) || x23)), -⟩ := hf24 [19] rfl
  have e24_4 := f_4
  have hX24 := Evo.step hX22 (fun _ => Nat.le_refl 0) hE24 rfl
  refine fl_ret ?_
  obtain rfl := osome hs
  exact hret _ _ _ _ (.inl rfl) hd24 (results1_ rfl (RVal.tmp_ e24_4)) ⟨own24, rfl, hX24⟩
end Go.Proofs.Ytoccfdohlefifaa
