import Derived.Test.YtaobbaohelpdgaaWp8
import Derived.Test.YtaobbaohelpdgaaSp9
namespace Go.Proofs.Ytaobbaohelpdgaa
open Go.RowKit
set_option linter.unusedVariables false
set_option maxRecDepth 10000
theorem ref01_Less_w (w : World) (x1 : Int × Int) (b2 : Int × Int) (r : Bool) (hs : ref01_Less x1 b2 = some r) :
    Calls Try.prog 63 #[.agg #[.int .i64 x1.1, .int .i64 x1.2], .agg #[.int .i64 b2.1, .int .i64 b2.2]] w fun e w' => ∃ own' : Own, e = .returned (.bool r) ∧ Evo [] (fun _ => 0) own' w w' := by
  refine fl_enter (n := 20) rfl rfl rfl (Nat.le_of_ble_eq_true rfl) ?_
  intro a0 Q hd0 hz0 harg hret
  have ha0 := harg 0 _ rfl
  have ha1 := harg 1 _ rfl
  clear harg
  have hE0 : Evo [] (fun _ => 0) (fun _ => 0) w w := Evo.refl _ _ _
  refine rg0_seq 20 (fun _ => 0) [0, 0, 0] [⟨[], [0], [], Fct.blk 22 2 (fun g => .pointer (some ⟨g, 0, none⟩)) 73 #[.int .i64 x1.1, .int .i64 x1.2]⟩, ⟨[], [1], [], Fct.blk 24 3 (fun g => .pointer (some ⟨g, 0, none⟩)) 73 #[.int .i64 b2.1, .int .i64 b2.2]⟩, ⟨[], [], [], Fct.val 4 (.bool false)⟩] hz0 hd0 (by kernel_rfl) ?_ ?_
  · refine sc (fun _ _ _ _ s _ => px (or_new [(0, .agg #[.int .i64 x1.1, .int .i64 x1.2])] rfl rfl ⟨(s.1.trans ha0), trivial⟩ (by kernel_rfl))) ?_
    refine sc (fun _ _ _ _ s _ => px (or_new [(1, .agg #[.int .i64 b2.1, .int .i64 b2.2])] rfl rfl ⟨(s.1.trans ha1), trivial⟩ (by kernel_rfl))) ?_
    refine sc (fun _ _ _ _ _ _ => px (or_assign rfl)) ?_
    exact steps_nil
  intro own25 a25 w25 hd25 hz25 hk25 hf25 hE25
  obtain ⟨⟨g21, (e25_2 : a25.eval (.tmp 2) = .pointer (some ⟨g21, 0, none⟩)), (b25_g21 : BlkO own25 22 w25 g21 73 #[.int .i64 x1.1, .int .i64 x1.2])⟩, ⟨g23, (e25_3 : a25.eval (.tmp 3) = .pointer (some ⟨g23, 0, none⟩)), (b25_g23 : BlkO own25 24 w25 g23 73 #[.int .i64 b2.1, .int .i64 b2.2])⟩, -⟩ := hf25 [0, 1] rfl
  have hX25 := es_ hE0 hE25
  refine fl_seq (fun Q26 hn26 hp26 => ?_)
  refine rg0_seq 20 own25 [0, 1, 0, 4, 15] [⟨[], [2], [], Fct.val 5 (.pointer (some ⟨g21, 0, none⟩))⟩, ⟨[0], [], [], Fct.val 6 (.int .i64 x1.1)⟩, ⟨[], [3], [], Fct.val 7 (.pointer (some ⟨g23, 0, none⟩))⟩, ⟨[2], [], [], Fct.val 8 (.int .i64 b2.1)⟩, ⟨[1, 3], [], [], Fct.val 9 (.bool (!decide (x1.1 = b2.1)))⟩] hz25 hd25 (by kernel_rfl) ?_ ?_
  · refine sc (fun _ _ _ _ s _ => px (or_field fo73_0 (s.1.trans e25_2) (by rfl))) ?_
    refine sc (fun _ _ _ f _ hE => px (or_load1 to3 f.1 (Blk.at_ (be_ hE b25_g21).2 0 rfl))) ?_
    refine sc (fun _ _ _ _ s _ => px (or_field fo73_0 (s.1.trans e25_3) (by rfl))) ?_
    refine sc (fun _ _ _ f _ hE => px (or_load1 to3 f.1 (Blk.at_ (be_ hE b25_g23).2 0 rfl))) ?_
    refine sc (fun _ _ _ f _ _ => px (or_neq f.1 f.2.1 rfl)) ?_
    exact steps_nil
  intro own27 a27 w27 hd27 hz27 hk27 hf27 hE27
  have e27_2 := (hk27 2 rfl).trans e25_2
  have e27_3 := (hk27 3 rfl).trans e25_3
  obtain ⟨(e27_9 : a27.eval (.tmp 9) = .bool (!decide (x1.1 = b2.1))), -⟩ := hf27 [4] rfl
  have hX27 := es_ hX25 hE27
  have b27_g21 := be_ hE27 b25_g21
  have b27_g23 := be_ hE27 b25_g23
  refine fl_cond e27_9 hs (fun c28 hs => ?_) (fun c28 hs => ?_)
  · refine rg0_seq 20 own27 [0, 1, 0, 4, 15, 31] [⟨[], [2], [], Fct.val 10 (.pointer (some ⟨g21, 0, none⟩))⟩, ⟨[0], [], [], Fct.val 11 (.int .i64 x1.1)⟩, ⟨[], [3], [], Fct.val 12 (.pointer (some ⟨g23, 0, none⟩))⟩, ⟨[2], [], [], Fct.val 13 (.int .i64 b2.1)⟩, ⟨[1, 3], [], [], Fct.val 14 (.bool (decide (x1.1 < b2.1)))⟩, ⟨[4], [], [], Fct.val 4 (.bool (decide (x1.1 < b2.1)))⟩] hz27 hd27 (by kernel_rfl) ?_ ?_
    · refine sc (fun _ _ _ _ s _ => px (or_field fo73_0 (s.1.trans e27_2) (by rfl))) ?_
      refine sc (fun _ _ _ f _ hE => px (or_load1 to3 f.1 (Blk.at_ (be_ hE b27_g21).2 0 rfl))) ?_
      refine sc (fun _ _ _ _ s _ => px (or_field fo73_0 (s.1.trans e27_3) (by rfl))) ?_
      refine sc (fun _ _ _ f _ hE => px (or_load1 to3 f.1 (Blk.at_ (be_ hE b27_g23).2 0 rfl))) ?_
      refine sc (fun _ _ _ f _ _ => px (or_lss f.1 f.2.1 rfl)) ?_
      refine sc (fun _ _ _ f _ _ => px (or_assign f.1)) ?_
      exact steps_nil
    intro own29 a29 w29 hd29 hz29 hk29 hf29 hE29
    obtain ⟨(e29_4 : a29.eval (.tmp 4) = .bool (decide (x1.1 < b2.1))), -⟩ := hf29 [5] rfl
    have hX29 := es_ hX27 hE29
    refine fl_ret ?_
    refine hp26 _ _ _ rfl ?_
    obtain rfl := osome hs
    exact hret _ _ _ _ (.inl rfl) hd29 (results1_ rfl (RVal.tmp_ e29_4)) ⟨own29, rfl, hX29⟩
  refine fl_skip ?_
  refine hn26 _ _ ?_
  refine rg0_seq 20 own27 [0, 1, 0, 4, 15, 31] [⟨[], [2], [], Fct.val 15 (.pointer (some ⟨g21, 1, none⟩))⟩, ⟨[0], [], [], Fct.val 16 (.int .i64 x1.2)⟩, ⟨[], [3], [], Fct.val 17 (.pointer (some ⟨g23, 1, none⟩))⟩, ⟨[2], [], [], Fct.val 18 (.int .i64 b2.2)⟩, ⟨[1, 3], [], [], Fct.val 19 (.bool (decide (x1.2 < b2.2)))⟩, ⟨[4], [], [], Fct.val 4 (.bool (decide (x1.2 < b2.2)))⟩] hz27 hd27 (by kernel_rfl) ?_ ?_
  · refine sc (fun _ _ _ _ s _ => px (or_field fo73_1 (s.1.trans e27_2) (by rfl))) ?_
    refine sc (fun _ _ _ f _ hE => px (or_load1 to3 f.1 (Blk.at_ (be_ hE b27_g21).2 1 rfl))) ?_
    refine sc (fun _ _ _ _ s _ => px (or_field fo73_1 (s.1.trans e27_3) (by rfl))) ?_
    refine sc (fun _ _ _ f _ hE => px (or_load1 to3 f.1 (Blk.at_ (be_ hE b27_g23).2 1 rfl))) ?_
    refine sc (fun _ _ _ f _ _ => px (or_lss f.1 f.2.1 rfl)) ?_
    refine sc (fun _ _ _ f _ _ => px (or_assign f.1)) ?_
    exact steps_nil
  intro own30 a30 w30 hd30 hz30 hk30 hf30 hE30
  obtain ⟨(e30_4 : a30.eval (.tmp 4) = .bool (decide (x1.2 < b2.2))), -⟩ := hf30 [5] rfl
  have hX30 := es_ hX27 hE30
  refine fl_ret ?_
  obtain rfl := osome hs
  exact hret _ _ _ _ (.inl rfl) hd30 (results1_ rfl (RVal.tmp_ e30_4)) ⟨own30, rfl, hX30⟩
theorem ref01_Sign_w (w : World) (n1 : Int) (r : Int) (hs : ref01_Sign n1 = some r) :
    Calls Try.prog 64 #[.int .i64 n1] w fun e w' => ∃ own' : Own, e = .returned (.int .i64 r) ∧ Evo [] (fun _ => 0) own' w w' := by
  refine fl_enter (n := 7) rfl rfl rfl (Nat.le_of_ble_eq_true rfl) ?_
  intro a0 Q hd0 hz0 harg hret
  have ha0 := harg 0 _ rfl
  clear harg
  have hE0 : Evo [] (fun _ => 0) (fun _ => 0) w w := Evo.refl _ _ _
  refine rg0_seq 7 (fun _ => 0) (bz 1) [⟨[], [], [], Fct.val 2 (.int .i64 0)⟩] hz0 hd0 (by kernel_rfl) ?_ ?_
  · refine sc (fun _ _ _ _ _ _ => px (or_assign rfl)) ?_
    exact steps_nil
  intro own21 a21 w21 hd21 hz21 hk21 hf21 hE21
  have e21_0 := (hk21 0 rfl).trans ha0
  have hX21 := es_ hE0 hE21
  refine fl_seq (fun Q22 hn22 hp22 => ?_)
  refine rg0_seq 7 own21 (bz 2) [⟨[], [0], [], Fct.val 3 (.int .i64 n1)⟩, ⟨[0], [], [], Fct.val 4 (.bool (decide (0 < n1)))⟩] hz21 hd21 (by kernel_rfl) ?_ ?_
  · refine sc (fun _ _ _ _ s _ => px (or_move (s.1.trans e21_0))) ?_
    refine sc (fun _ _ _ f _ _ => px (or_gtr f.1 rfl rfl)) ?_
    exact steps_nil
  intro own23 a23 w23 hd23 hz23 hk23 hf23 hE23
  have e23_0 := (hk23 0 rfl).trans e21_0
  obtain ⟨(e23_4 : a23.eval (.tmp 4) = .bool (decide (0 < n1))), -⟩ := hf23 [1] rfl
  have hX23 := es_ hX21 hE23
  refine fl_cond e23_4 hs (fun c24 hs => ?_) (fun c24 hs => ?_)
  · refine rg0_seq 7 own23 (bz 1) [⟨[], [], [], Fct.val 2 (.int .i64 1)⟩] hz23 hd23 (by kernel_rfl) ?_ ?_
    · refine sc (fun _ _ _ _ _ _ => px (or_assign rfl)) ?_
      exact steps_nil
    intro own25 a25 w25 hd25 hz25 hk25 hf25 hE25
    obtain ⟨(e25_2 : a25.eval (.tmp 2) = .int .i64 1), -⟩ := hf25 [0] rfl
    have hX25 := es_ hX23 hE25
    refine fl_ret ?_
    refine hp22 _ _ _ rfl ?_
    obtain rfl := osome hs
    exact hret _ _ _ _ (.inl rfl) hd25 (results1_ rfl (RVal.tmp_ e25_2)) ⟨own25, rfl, hX25⟩
  refine fl_skip ?_
  refine hn22 _ _ ?_
  refine fl_seq (fun Q26 hn26 hp26 => ?_)
  refine rg0_seq 7 own23 (bz 2) [⟨[], [0], [], Fct.val 5 (.int .i64 n1)⟩, ⟨[0], [], [], Fct.val 6 (.bool (decide (n1 < 0)))⟩] hz23 hd23 (by kernel_rfl) ?_ ?_
  · refine sc (fun _ _ _ _ s _ => px (or_move (s.1.trans e23_0))) ?_
    refine sc (fun _ _ _ f _ _ => px (or_lss f.1 rfl rfl)) ?_
    exact steps_nil
  intro own27 a27 w27 hd27 hz27 hk27 hf27 hE27
  obtain ⟨(e27_6 : a27.eval (.tmp 6) = .bool (decide (n1 < 0))), -⟩ := hf27 [1] rfl
  have hX27 := es_ hX23 hE27
  refine fl_cond e27_6 hs (fun c28 hs => ?_) (fun c28 hs => ?_)
  · refine rg0_seq 7 own27 (bz 1) [⟨[], [], [], Fct.val 2 (.int .i64 (-1))⟩] hz27 hd27 (by kernel_rfl) ?_ ?_
    · refine sc (fun _ _ _ _ _ _ => px (or_assign rfl)) ?_
      exact steps_nil
    intro own29 a29 w29 hd29 hz29 hk29 hf29 hE29
    obtain ⟨(e29_2 : a29.eval (.tmp 2) = .int .i64 (-1)), -⟩ := hf29 [0] rfl
    have hX29 := es_ hX27 hE29
    refine fl_ret ?_
    refine hp26 _ _ _ rfl ?_
    obtain rfl := osome hs
    exact hret _ _ _ _ (.inl rfl) hd29 (results1_ rfl (RVal.tmp_ e29_2)) ⟨own29, rfl, hX29⟩
  refine fl_skip ?_
  refine hn26 _ _ ?_
  refine rg0_seq 7 own27 (bz 1) [⟨[], [], [], Fct.val 2 (.int .i64 0)⟩] hz27 hd27 (by kernel_rfl) ?_ ?_
  · refine sc (fun _ _ _ _ _ _ => px (or_assign rfl)) ?_
    exact steps_nil
  intro own30 a30 w30 hd30 hz30 hk30 hf30 hE30
  obtain ⟨(e30_2 : a30.eval (.tmp 2) = .int .i64 0), -⟩ := hf30 [0] rfl
  have hX30 := es_ hX27 hE30
  refine fl_ret ?_
  obtain rfl := osome hs
  exact hret _ _ _ _ (.inl rfl) hd30 (results1_ rfl (RVal.tmp_ e30_2)) ⟨own30, rfl, hX30⟩
theorem ref14_Compare_w (w : World) (x1 : List (Int × Int)) (Ax1 : Option Addr) (cx1 : Nat) (b2 : List (Int × Int)) (Ab2 : Option Addr) (cb2 : Nat) (hx1 : RdO (fun _ => 0) [0] w R73 Ax1 cx1 x1) (hb2 : RdO (fun _ => 0) [0] w R73 Ab2 cb2 b2) (r : Int) (hs : ref14_Compare x1 b2 = some r) :
    Calls Try.prog 52 #[.slice Ax1 x1.length cx1, .slice Ab2 b2.length cb2] w fun e w' => ∃ own' : Own, e = .returned (.int .i64 r) ∧ Evo [] (fun _ => 0) own' w w' := by
  refine fl_enter (n := 42) rfl rfl rfl (Nat.le_of_ble_eq_true rfl) ?_
  intro a0 Q hd0 hz0 harg hret
  have ha0 := harg 0 _ rfl
  have ha1 := harg 1 _ rfl
  clear harg
  have hE0 : Evo [] (fun _ => 0) (fun _ => 0) w w := Evo.refl _ _ _
  refine rg0_seq 42 (fun _ => 0) (bz 1) [⟨[], [], [], Fct.val 4 (.int .i64 0)⟩] hz0 hd0 (by kernel_rfl) ?_ ?_
  · refine sc (fun _ _ _ _ _ _ => px (or_assign rfl)) ?_
    exact steps_nil
  intro own83 a83 w83 hd83 hz83 hk83 hf83 hE83
  have e83_0 := (hk83 0 rfl).trans ha0
  have e83_1 := (hk83 1 rfl).trans ha1
  have hX83 := es_ hE0 hE83
  have b83_Ax1 := RdO.evo rfl hE83 hx1
  have b83_Ab2 := RdO.evo rfl hE83 hb2
  refine fl_seq (fun Q84 hn84 hp84 => ?_)
  refine rg0_seq 42 own83 (bz 1) [⟨[], [], [], Fct.val 5 (.int .i64 0)⟩] hz83 hd83 (by kernel_rfl) ?_ ?_
  · refine sc (fun _ _ _ _ _ _ => px (or_assign rfl)) ?_
    exact steps_nil
  intro own85 a85 w85 hd85 hz85 hk85 hf85 hE85
  have e85_0 := (hk85 0 rfl).trans e83_0
  have e85_1 := (hk85 1 rfl).trans e83_1
  obtain ⟨(e85_5 : a85.eval (.tmp 5) = .int .i64 0), -⟩ := hf85 [0] rfl
  have hX85 := es_ hX83 hE85
  have b85_Ax1 := RdO.evo rfl hE85 b83_Ax1
  have b85_Ab2 := RdO.evo rfl hE85 b83_Ab2
  refine fl_block (fun Q86 hn86 hx86 hp86 => ?_)
  refine fl_loop (body := (fun s => ref14_Compare_b1 x1 b2 s)) (z := r) (show loopO _ _ = _ from hs) (fun (i108 : Int) a wx => ∃ (ox : Own), a.defers = [] ∧ a.tmps.size = 42 ∧ a.eval (.tmp 0) = .slice Ax1 x1.length cx1 ∧ a.eval (.tmp 1) = .slice Ab2 b2.length cb2 ∧ a.eval (.tmp 5) = .int .i64 i108 ∧ Evo [] (fun _ => 0) ox w wx ∧ RdO ox [0] wx R73 Ax1 cx1 x1 ∧ RdO ox [0] wx R73 Ab2 cb2 b2) ?_ ?_
  · exact ⟨own85, hd85, hz85, e85_0, e85_1, e85_5, hX85, b85_Ax1, b85_Ab2⟩
  · rintro i108 zz130 a130 w130 ⟨own130, hd131, hz131, e131_0, e131_1, e131_5, hE131, b131_Ax1, b131_Ab2⟩ hs Q130 hn130 hp130 hz130
    have hs : ref14_Compare_b1 x1 b2 i108 = some zz130 := hs
    refine fl_seq (fun Q132 hn132 hp132 => ?_)
    obtain ⟨x133, hx133, hs⟩ := obind hs
    refine rg0_seq 42 own130 [0, 0, 2, 7, 15, 31, 31, 95, 255, 511] [⟨[], [5], [], Fct.val 6 (.int .i64 i108)⟩, ⟨[], [0], [], Fct.val 7 (.slice Ax1 x1.length cx1)⟩, ⟨[1], [], [], Fct.val 8 (.int .i64 (x1.length : Int))⟩, ⟨[0, 2], [], [], Fct.val 9 (.bool (decide (i108 < (x1.length : Int))))⟩, ⟨[3], [], [], Fct.val 10 (.bool (decide (i108 < (x1.length : Int))))⟩, ⟨[4], [5], [], Fct.cond (decide (i108 < (x1.length : Int))) (some 11) (Fct.val 11 (.int .i64 i108))⟩, ⟨[4], [1], [], Fct.cond (decide (i108 < (x1.length : Int))) (some 12) (Fct.val 12 (.slice Ab2 b2.length cb2))⟩, ⟨[4, 6], [], [], Fct.cond (decide (i108 < (x1.length : Int))) (some 13) (Fct.val 13 (.int .i64 (b2.length : Int)))⟩, ⟨[4, 5, 7], [], [], Fct.cond (decide (i108 < (x1.length : Int))) (some 14) (Fct.val 14 (.bool (decide (i108 < (b2.length : Int)))))⟩, ⟨[4, 8], [], [], Fct.val 15 (.bool x133)⟩] hz131 hd131 (by kernel_rfl) ?_ ?_
    · refine sc (fun _ _ _ _ s _ => px (or_move (s.1.trans e131_5))) ?_
      refine sc (fun _ _ _ _ s _ => px (or_move (s.1.trans e131_0))) ?_
      refine sc (fun _ _ _ f _ _ => px (or_len tu76 f.1 rfl)) ?_
      refine sc (fun _ _ _ f _ _ => px (or_lss f.1 f.2.1 rfl)) ?_
      refine sc (fun _ _ _ f _ _ => px (or_move f.1)) ?_
      refine sc (fun _ _ _ f s _ => sg_t rfl rfl rfl f.1 (fun hg => or_move (s.1.trans e131_5))) ?_
      refine sc (fun _ _ _ f s _ => sg_t rfl rfl rfl f.1 (fun hg => or_move (s.1.trans e131_1))) ?_
      refine sc (fun _ _ _ f _ _ => sg_t rfl rfl rfl f.1 (fun hg => or_len tu76 (f.2.1.1 hg) rfl)) ?_
      refine sc (fun _ _ _ f _ _ => sg_t rfl rfl rfl f.1 (fun hg => or_lss (f.2.1.1 hg) (f.2.2.1.1 hg) rfl)) ?_
      refine sc (fun _ _ _ f _ _ => px (or_and f.1 (fun hx => f.2.1.1 hx) rfl (osome hx133).symm)) ?_
      exact steps_nil
    intro own134 a134 w134 hd134 hz134 hk134 hf134 hE134
    have e134_0 := (hk134 0 rfl).trans e131_0
    have e134_1 := (hk134 1 rfl).trans e131_1
    have e134_5 := (hk134 5 rfl).trans e131_5
    obtain ⟨(e134_15 : a134.eval (.tmp 15) = .bool x133), -⟩ := hf134 [9] rfl
    have hX134 := es_ hE131 hE134
    have b134_Ax1 := RdO.evo rfl hE134 b131_Ax1
    have b134_Ab2 := RdO.evo rfl hE134 b131_Ab2
    refine fl_cond e134_15 hs (fun c135 hs => ?_) (fun c135 hs => ?_)
    · refine fl_skip ?_
      refine hn132 _ _ ?_
      refine fl_seq (fun Q136 hn136 hp136 => ?_)
      refine fl_block (fun Q137 hn137 hx137 hp137 => ?_)
      refine fl_seq (fun Q138 hn138 hp138 => ?_)
      obtain ⟨x139, hx139, hs⟩ := obind hs
      obtain ⟨x140, hx140, hs⟩ := obind hs
      obtain ⟨r141, hr141, hs⟩ := obind hs
      refine rg_draw_seq g_mixed (n := 42) (rs := []) (own0 := own134) (K := []) (bs := [0, 0, 3, 7, 0, 0, 48, 112, 255]) (ds := [⟨[], [0], [], Fct.val 18 (.slice Ax1 x1.length cx1)⟩, ⟨[], [5], [], Fct.val 19 (.int .i64 i108)⟩, ⟨[0, 1], [], [], Fct.val 20 (.pointer (some ((adr Ax1).add ((i108 : Int).toNat * R73.s))))⟩, ⟨[2], [], [], Fct.val 21 (.agg #[.int .i64 x139.1, .int .i64 x139.2])⟩, ⟨[], [1], [], Fct.val 22 (.slice Ab2 b2.length cb2)⟩, ⟨[], [5], [], Fct.val 23 (.int .i64 i108)⟩, ⟨[4, 5], [], [], Fct.val 24 (.pointer (some ((adr Ab2).add ((i108 : Int).toNat * R73.s))))⟩, ⟨[6], [], [], Fct.val 25 (.agg #[.int .i64 x140.1, .int .i64 x140.2])⟩, ⟨[3, 7], [], [], Fct.val 26 (.bool r141)⟩]) (by kernel_rfl) hz134 hd134 nm_ ?_ ?_
      · refine sc (fun _ _ _ _ s _ => px (or_move (s.1.trans e134_0))) ?_
        refine sc (fun _ _ _ _ s _ => px (or_move (s.1.trans e134_5))) ?_
        refine sc (fun _ _ _ f _ _ => px (or_index (R := R73) (l := x1) tl76 f.1 f.2.1 (RdO.some_ b134_Ax1 hx139) hx139)) ?_
        refine sc (fun _ _ _ f _ hE => px (or_load (l := E73.f x139) ta73 f.1 (RdO.cells (F := E73) (RdO.evo rfl hE b134_Ax1) hx139) rfl)) ?_
        refine sc (fun _ _ _ _ s _ => px (or_move (s.1.trans e134_1))) ?_
        refine sc (fun _ _ _ _ s _ => px (or_move (s.1.trans e134_5))) ?_
        refine sc (fun _ _ _ f _ _ => px (or_index (R := R73) (l := b2) tl76 f.1 f.2.1 (RdO.some_ b134_Ab2 hx140) hx140)) ?_
        refine sc (fun _ _ _ f _ hE => px (or_load (l := E73.f x140) ta73 f.1 (RdO.cells (F := E73) (RdO.evo rfl hE b134_Ab2) hx140) rfl)) ?_
        refine sc (fun _ _ _ f _ _ => px (or_call cf63 (args2 f.1 f.2.1) (ref01_Less_w _ x139 x140  r141 hr141) post_val)) ?_
        exact steps_nil
      intro own142 a142 w142 hd142 hz142 hk142 hf142 hE142
      have e142_0 := (hk142 0 rfl).trans e134_0
      have e142_1 := (hk142 1 rfl).trans e134_1
      have e142_5 := (hk142 5 rfl).trans e134_5
      obtain ⟨(e142_26 : a142.eval (.tmp 26) = .bool r141), -⟩ := hf142 [8] rfl
      have hX142 := es_ hX134 hE142
      have b142_Ax1 := RdO.evo rfl hE142 b134_Ax1
      have b142_Ab2 := RdO.evo rfl hE142 b134_Ab2
      refine fl_cond e142_26 hs (fun c143 hs => ?_) (fun c143 hs => ?_)
      · refine rg0_seq 42 own142 (bz 1) [⟨[], [], [], Fct.val 4 (.int .i64 (-1))⟩] hz142 hd142 (by kernel_rfl) ?_ ?_
        · refine sc (fun _ _ _ _ _ _ => px (or_assign rfl)) ?_
          exact steps_nil
        intro own144 a144 w144 hd144 hz144 hk144 hf144 hE144
        obtain ⟨(e144_4 : a144.eval (.tmp 4) = .int .i64 (-1)), -⟩ := hf144 [0] rfl
        have hX144 := es_ hX142 hE144
        refine fl_ret ?_
        refine hp138 _ _ _ rfl ?_
        refine hp137 _ _ _ rfl ?_
        refine hp136 _ _ _ rfl ?_
        replace hs := hz130 _ hs
        refine hp130 _ _ _ rfl ?_
        refine hp86 _ _ _ rfl ?_
        refine hp84 _ _ _ rfl ?_
        obtain rfl := osome hs
        exact hret _ _ _ _ (.inl rfl) hd144 (results1_ rfl (RVal.tmp_ e144_4)) ⟨own144, rfl, hX144⟩
      refine fl_skip ?_
      refine hn138 _ _ ?_
      obtain ⟨x145, hx145, hs⟩ := obind hs
      obtain ⟨x146, hx146, hs⟩ := obind hs
      obtain ⟨r147, hr147, hs⟩ := obind hs
      refine rg_draw_seq g_mixed (n := 42) (rs := []) (own0 := own142) (K := []) (bs := [0, 0, 3, 7, 0, 0, 48, 112, 255]) (ds := [⟨[], [1], [], Fct.val 27 (.slice Ab2 b2.length cb2)⟩, ⟨[], [5], [], Fct.val 28 (.int .i64 i108)⟩, ⟨[0, 1], [], [], Fct.val 29 (.pointer (some ((adr Ab2).add ((i108 : Int).toNat * R73.s))))⟩, ⟨[2], [], [], Fct.val 30 (.agg #[.int .i64 x145.1, .int .i64 x145.2])⟩, ⟨[], [0], [], Fct.val 31 (.slice Ax1 x1.length cx1)⟩, ⟨[], [5], [], Fct.val 32 (.int .i64 i108)⟩, ⟨[4, 5], [], [], Fct.val 33 (.pointer (some ((adr Ax1).add ((i108 : Int).toNat * R73.s))))⟩, ⟨[6], [], [], Fct.val 34 (.agg #[.int .i64 x146.1, .int .i64 x146.2])⟩, ⟨[3, 7], [], [], Fct.val 35 (.bool r147)⟩]) (by kernel_rfl) hz142 hd142 nm_ ?_ ?_
      · refine sc (fun _ _ _ _ s _ => px (or_move (s.1.trans e142_1))) ?_
        refine sc (fun _ _ _ _ s _ => px (or_move (s.1.trans e142_5))) ?_
        refine sc (fun _ _ _ f _ _ => px (or_index (R := R73) (l := b2) tl76 f.1 f.2.1 (RdO.some_ b142_Ab2 hx145) hx145)) ?_
        refine sc (fun _ _ _ f _ hE => px (or_load (l := E73.f x145) ta73 f.1 (RdO.cells (F := E73) (RdO.evo rfl hE b142_Ab2) hx145) rfl)) ?_
        refine sc (fun _ _ _ _ s _ => px (or_move (s.1.trans e142_0))) ?_
        refine sc (fun _ _ _ _ s _ => px (or_move (s.1.trans e142_5))) ?_
        refine sc (fun _ _ _ f _ _ => px (or_index (R := R73) (l := x1) tl76 f.1 f.2.1 (RdO.some_ b142_Ax1 hx146) hx146)) ?_
        refine sc (fun _ _ _ f _ hE => px (or_load (l := E73.f x146) ta73 f.1 (RdO.cells (F := E73) (RdO.evo rfl hE b142_Ax1) hx146) rfl)) ?_
        refine sc (fun _ _ _ f _ _ => px (or_call cf63 (args2 f.1 f.2.1) (ref01_Less_w _ x145 x146  r147 hr147) post_val)) ?_
        exact steps_nil
      intro own148 a148 w148 hd148 hz148 hk148 hf148 hE148
      have e148_0 := (hk148 0 rfl).trans e142_0
      have e148_1 := (hk148 1 rfl).trans e142_1
      have e148_5 := (hk148 5 rfl).trans e142_5
      obtain ⟨(e148_35 : a148.eval (.tmp 35) = .bool r147), -⟩ := hf148 [8] rfl
      have hX148 := es_ hX142 hE148
      have b148_Ax1 := RdO.evo rfl hE148 b142_Ax1
      have b148_Ab2 := RdO.evo rfl hE148 b142_Ab2
      refine fl_cond e148_35 hs (fun c149 hs => ?_) (fun c149 hs => ?_)
      · refine rg0_seq 42 own148 (bz 1) [⟨[], [], [], Fct.val 4 (.int .i64 1)⟩] hz148 hd148 (by kernel_rfl) ?_ ?_
        · refine sc (fun _ _ _ _ _ _ => px (or_assign rfl)) ?_
          exact steps_nil
        intro own150 a150 w150 hd150 hz150 hk150 hf150 hE150
        obtain ⟨(e150_4 : a150.eval (.tmp 4) = .int .i64 1), -⟩ := hf150 [0] rfl
        have hX150 := es_ hX148 hE150
        refine fl_ret ?_
        refine hp137 _ _ _ rfl ?_
        refine hp136 _ _ _ rfl ?_
        replace hs := hz130 _ hs
        refine hp130 _ _ _ rfl ?_
        refine hp86 _ _ _ rfl ?_
        refine hp84 _ _ _ rfl ?_
        obtain rfl := osome hs
        exact hret _ _ _ _ (.inl rfl) hd150 (results1_ rfl (RVal.tmp_ e150_4)) ⟨own150, rfl, hX150⟩
      refine fl_skip ?_
      refine hn137 _ _ ?_
      refine hn136 _ _ ?_
      refine rg0 42 own148 (bz 3) [⟨[], [5], [], Fct.val 16 (.int .i64 i108)⟩, ⟨[0], [], [], Fct.val 17 (.int .i64 (ad i108 1))⟩, ⟨[1], [], [], Fct.val 5 (.int .i64 (ad i108 1))⟩] hz148 hd148 (by kernel_rfl) ?_ ?_
      · refine sc (fun _ _ _ _ s _ => px (or_move (s.1.trans e148_5))) ?_
        refine sc (fun _ _ _ f _ _ => px (or_add f.1 rfl rfl)) ?_
        refine sc (fun _ _ _ f _ _ => px (or_assign f.1)) ?_
        exact steps_nil
      intro own151 a151 w151 hd151 hz151 hk151 hf151 hE151
      have e151_0 := (hk151 0 rfl).trans e148_0
      have e151_1 := (hk151 1 rfl).trans e148_1
      obtain ⟨(e151_5 : a151.eval (.tmp 5) = .int .i64 (ad i108 1)), -⟩ := hf151 [2] rfl
      have hX151 := es_ hX148 hE151
      have b151_Ax1 := RdO.evo rfl hE151 b148_Ax1
      have b151_Ab2 := RdO.evo rfl hE151 b148_Ab2
      exact hn130 _ _ _ hs ⟨own151, hd151, hz151, e151_0, e151_1, e151_5, hX151, b151_Ax1, b151_Ab2⟩
    refine fl_exit ?_
    refine hp132 _ _ _ rfl ?_
    replace hs := hz130 _ hs
    refine hp130 _ _ _ rfl ?_
    refine hx86 _ _ ?_
    refine hn84 _ _ ?_
    obtain ⟨x152, hx152, hs⟩ := obind hs
    obtain ⟨r153, hr153, hs⟩ := obind hs
    refine rg0_seq 42 own134 [0, 1, 0, 4, 15, 31, 63] [⟨[], [0], [], Fct.val 36 (.slice Ax1 x1.length cx1)⟩, ⟨[0], [], [], Fct.val 37 (.int .i64 (x1.length : Int))⟩, ⟨[], [1], [], Fct.val 38 (.slice Ab2 b2.length cb2)⟩, ⟨[2], [], [], Fct.val 39 (.int .i64 (b2.length : Int))⟩, ⟨[1, 3], [], [], Fct.val 40 (.int .i64 x152)⟩, ⟨[4], [], [], Fct.val 41 (.int .i64 r153)⟩, ⟨[5], [], [], Fct.val 4 (.int .i64 r153)⟩] hz134 hd134 (by kernel_rfl) ?_ ?_
    · refine sc (fun _ _ _ _ s _ => px (or_move (s.1.trans e134_0))) ?_
      refine sc (fun _ _ _ f _ _ => px (or_len tu76 f.1 rfl)) ?_
      refine sc (fun _ _ _ _ s _ => px (or_move (s.1.trans e134_1))) ?_
      refine sc (fun _ _ _ f _ _ => px (or_len tu76 f.1 rfl)) ?_
      refine sc (fun _ _ _ f _ _ => px (or_sub f.1 f.2.1 (osome hx152).symm)) ?_
      refine sc (fun _ _ _ f _ _ => px (or_call cf64 (args1 f.1) (ref01_Sign_w _ x152  r153 hr153) post_val)) ?_
      refine sc (fun _ _ _ f _ _ => px (or_assign f.1)) ?_
      exact steps_nil
    intro own154 a154 w154 hd154 hz154 hk154 hf154 hE154
    obtain ⟨(e154_4 : a154.eval (.tmp 4) = .int .i64 r153), -⟩ := hf154 [6] rfl
    have hX154 := es_ hX134 hE154
    refine fl_ret ?_
    obtain rfl := (osome hs).symm
    exact hret _ _ _ _ (.inl rfl) hd154 (results1_ rfl (RVal.tmp_ e154_4)) ⟨own154, rfl, hX154⟩
theorem ref04_Compare_w (w : World) (x1 : List Int) (Ax1 : Option Addr) (cx1 : Nat) (b2 : List Int) (Ab2 : Option Addr) (cb2 : Nat) (hx1 : RdO (fun _ => 0) [0] w R3 Ax1 cx1 x1) (hb2 : RdO (fun _ => 0) [0] w R3 Ab2 cb2 b2) (r : Int) (hs : ref04_Compare x1 b2 = some r) :
    Calls Try.prog 53 #[.slice Ax1 x1.length cx1, .slice Ab2 b2.length cb2] w fun e w' => ∃ own' : Own, e = .returned (.int .i64 r) ∧ Evo [] (fun _ => 0) own' w w' := by
  refine fl_enter (n := 42) rfl rfl rfl (Nat.le_of_ble_eq_true rfl) ?_
  intro a0 Q hd0 hz0 harg hret
  have ha0 := harg 0 _ rfl
  have ha1 := harg 1 _ rfl
  clear harg
  have hE0 : Evo [] (fun _ => 0) (fun _ => 0) w w := Evo.refl _ _ _
  refine rg0_seq 42 (fun _ => 0) (bz 1) [⟨[], [], [], Fct.val 4 (.int .i64 0)⟩] hz0 hd0 (by kernel_rfl) ?_ ?_
  · refine sc (fun _ _ _ _ _ _ => px (or_assign rfl)) ?_
    exact steps_nil
  intro own77 a77 w77 hd77 hz77 hk77 hf77 hE77
  have e77_0 := (hk77 0 rfl).trans ha0
  have e77_1 := (hk77 1 rfl).trans ha1
  have hX77 := es_ hE0 hE77
  have b77_Ax1 := RdO.evo rfl hE77 hx1
  have b77_Ab2 := RdO.evo rfl hE77 hb2
  refine fl_seq (fun Q78 hn78 hp78 => ?_)
  refine rg0_seq 42 own77 (bz 1) [⟨[], [], [], Fct.val 5 (.int .i64 0)⟩] hz77 hd77 (by kernel_rfl) ?_ ?_
  · refine sc (fun _ _ _ _ _ _ => px (or_assign rfl)) ?_
    exact steps_nil
  intro own79 a79 w79 hd79 hz79 hk79 hf79 hE79
  have e79_0 := (hk79 0 rfl).trans e77_0
  have e79_1 := (hk79 1 rfl).trans e77_1
  obtain ⟨(e79_5 : a79.eval (.tmp 5) = .int .i64 0), -⟩ := hf79 [0] rfl
  have hX79 := es_ hX77 hE79
  have b79_Ax1 := RdO.evo rfl hE79 b77_Ax1
  have b79_Ab2 := RdO.evo rfl hE79 b77_Ab2
  refine fl_block (fun Q80 hn80 hx80 hp80 => ?_)
  refine fl_loop (body := (fun s => ref04_Compare_b1 x1 b2 s)) (z := r) (show loopO _ _ = _ from hs) (fun (i100 : Int) a wx => ∃ (ox : Own), a.defers = [] ∧ a.tmps.size = 42 ∧ a.eval (.tmp 0) = .slice Ax1 x1.length cx1 ∧ a.eval (.tmp 1) = .slice Ab2 b2.length cb2 ∧ a.eval (.tmp 5) = .int .i64 i100 ∧ Evo [] (fun _ => 0) ox w wx ∧ RdO ox [0] wx R3 Ax1 cx1 x1 ∧ RdO ox [0] wx R3 Ab2 cb2 b2) ?_ ?_
  · exact ⟨own79, hd79, hz79, e79_0, e79_1, e79_5, hX79, b79_Ax1, b79_Ab2⟩
  · rintro i100 zz120 a120 w120 ⟨own120, hd121, hz121, e121_0, e121_1, e121_5, hE121, b121_Ax1, b121_Ab2⟩ hs Q120 hn120 hp120 hz120
    have hs : ref04_Compare_b1 x1 b2 i100 = some zz120 := hs
    refine fl_seq (fun Q122 hn122 hp122 => ?_)
    obtain ⟨x123, hx123, hs⟩ := obind hs
    refine rg0_seq 42 own120 [0, 0, 2, 7, 15, 31, 31, 95, 255, 511] [⟨[], [5], [], Fct.val 6 (.int .i64 i100)⟩, ⟨[], [0], [], Fct.val 7 (.slice Ax1 x1.length cx1)⟩, ⟨[1], [], [], Fct.val 8 (.int .i64 (x1.length : Int))⟩, ⟨[0, 2], [], [], Fct.val 9 (.bool (decide (i100 < (x1.length : Int))))⟩, ⟨[3], [], [], Fct.val 10 (.bool (decide (i100 < (x1.length : Int))))⟩, ⟨[4], [5], [], Fct.cond (decide (i100 < (x1.length : Int))) (some 11) (Fct.val 11 (.int .i64 i100))⟩, ⟨[4], [1], [], Fct.cond (decide (i100 < (x1.length : Int))) (some 12) (Fct.val 12 (.slice Ab2 b2.length cb2))⟩, ⟨[4, 6], [], [], Fct.cond (decide (i100 < (x1.length : Int))) (some 13) (Fct.val 13 (.int .i64 (b2.length : Int)))⟩, ⟨[4, 5, 7], [], [], Fct.cond (decide (i100 < (x1.length : Int))) (some 14) (Fct.val 14 (.bool (decide (i100 < (b2.length : Int)))))⟩, ⟨[4, 8], [], [], Fct.val 15 (.bool x123)⟩] hz121 hd121 (by kernel_rfl) ?_ ?_
    · refine sc (fun _ _ _ _ s _ => px (or_move (s.1.trans e121_5))) ?_
      refine sc (fun _ _ _ _ s _ => px (or_move (s.1.trans e121_0))) ?_
      refine sc (fun _ _ _ f _ _ => px (or_len tu28 f.1 rfl)) ?_
      refine sc (fun _ _ _ f _ _ => px (or_lss f.1 f.2.1 rfl)) ?_
      refine sc (fun _ _ _ f _ _ => px (or_move f.1)) ?_
      refine sc (fun _ _ _ f s _ => sg_t rfl rfl rfl f.1 (fun hg => or_move (s.1.trans e121_5))) ?_
      refine sc (fun _ _ _ f s _ => sg_t rfl rfl rfl f.1 (fun hg => or_move (s.1.trans e121_1))) ?_
      refine sc (fun _ _ _ f _ _ => sg_t rfl rfl rfl f.1 (fun hg => or_len tu28 (f.2.1.1 hg) rfl)) ?_
      refine sc (fun _ _ _ f _ _ => sg_t rfl rfl rfl f.1 (fun hg => or_lss (f.2.1.1 hg) (f.2.2.1.1 hg) rfl)) ?_
      refine sc (fun _ _ _ f _ _ => px (or_and f.1 (fun hx => f.2.1.1 hx) rfl (osome hx123).symm)) ?_
      exact steps_nil
    intro own124 a124 w124 hd124 hz124 hk124 hf124 hE124
    have e124_0 := (hk124 0 rfl).trans e121_0
    have e124_1 := (hk124 1 rfl).trans e121_1
    have e124_5 := (hk124 5 rfl).trans e121_5
    obtain ⟨(e124_15 : a124.eval (.tmp 15) = .bool x123), -⟩ := hf124 [9] rfl
    have hX124 := es_ hE121 hE124
    have b124_Ax1 := RdO.evo rfl hE124 b121_Ax1
    have b124_Ab2 := RdO.evo rfl hE124 b121_Ab2
    refine fl_cond e124_15 hs (fun c125 hs => ?_) (fun c125 hs => ?_)
    · refine fl_skip ?_
      refine hn122 _ _ ?_
      refine fl_seq (fun Q126 hn126 hp126 => ?_)
      refine fl_block (fun Q127 hn127 hx127 hp127 => ?_)
      refine fl_seq (fun Q128 hn128 hp128 => ?_)
      obtain ⟨x129, hx129, hs⟩ := obind hs
      obtain ⟨x130, hx130, hs⟩ := obind hs
      refine rg_draw_seq g_mixed (n := 42) (rs := []) (own0 := own124) (K := []) (bs := [0, 0, 3, 7, 0, 0, 48, 112, 255]) (ds := [⟨[], [0], [], Fct.val 18 (.slice Ax1 x1.length cx1)⟩, ⟨[], [5], [], Fct.val 19 (.int .i64 i100)⟩, ⟨[0, 1], [], [], Fct.val 20 (.pointer (some ((adr Ax1).add ((i100 : Int).toNat * R3.s))))⟩, ⟨[2], [], [], Fct.val 21 (.int .i64 x129)⟩, ⟨[], [1], [], Fct.val 22 (.slice Ab2 b2.length cb2)⟩, ⟨[], [5], [], Fct.val 23 (.int .i64 i100)⟩, ⟨[4, 5], [], [], Fct.val 24 (.pointer (some ((adr Ab2).add ((i100 : Int).toNat * R3.s))))⟩, ⟨[6], [], [], Fct.val 25 (.int .i64 x130)⟩, ⟨[3, 7], [], [], Fct.val 26 (.bool (decide (x129 < x130)))⟩]) (by kernel_rfl) hz124 hd124 nm_ ?_ ?_
      · refine sc (fun _ _ _ _ s _ => px (or_move (s.1.trans e124_0))) ?_
        refine sc (fun _ _ _ _ s _ => px (or_move (s.1.trans e124_5))) ?_
        refine sc (fun _ _ _ f _ _ => px (or_index (R := R3) (l := x1) tl28 f.1 f.2.1 (RdO.some_ b124_Ax1 hx129) hx129)) ?_
        refine sc (fun _ _ _ f _ hE => px (or_load1 to3 f.1 (CellsAt.zero (RdO.cells (F := E3) (RdO.evo rfl hE b124_Ax1) hx129) rfl))) ?_
        refine sc (fun _ _ _ _ s _ => px (or_move (s.1.trans e124_1))) ?_
        refine sc (fun _ _ _ _ s _ => px (or_move (s.1.trans e124_5))) ?_
        refine sc (fun _ _ _ f _ _ => px (or_index (R := R3) (l := b2) tl28 f.1 f.2.1 (RdO.some_ b124_Ab2 hx130) hx130)) ?_
        refine sc (fun _ _ _ f _ hE => px (or_load1 to3 f.1 (CellsAt.zero (RdO.cells (F := E3) (RdO.evo rfl hE b124_Ab2) hx130) rfl))) ?_
        refine sc (fun _ _ _ f _ _ => px (or_lss f.1 f.2.1 rfl)) ?_
        exact steps_nil
      intro own131 a131 w131 hd131 hz131 hk131 hf131 hE131
      have e131_0 := (hk131 0 rfl).trans e124_0
      have e131_1 := (hk131 1 rfl).trans e124_1
      have e131_5 := (hk131 5 rfl).trans e124_5
      obtain ⟨(e131_26 : a131.eval (.tmp 26) = .bool (decide (x129 < x130))), -⟩ := hf131 [8] rfl
      have hX131 := es_ hX124 hE131
      have b131_Ax1 := RdO.evo rfl hE131 b124_Ax1
      have b131_Ab2 := RdO.evo rfl hE131 b124_Ab2
      refine fl_cond e131_26 hs (fun c132 hs => ?_) (fun c132 hs => ?_)
      · refine rg0_seq 42 own131 (bz 1) [⟨[], [], [], Fct.val 4 (.int .i64 (-1))⟩] hz131 hd131 (by kernel_rfl) ?_ ?_
        · refine sc (fun _ _ _ _ _ _ => px (or_assign rfl)) ?_
          exact steps_nil
        intro own133 a133 w133 hd133 hz133 hk133 hf133 hE133
        obtain ⟨(e133_4 : a133.eval (.tmp 4) = .int .i64 (-1)), -⟩ := hf133 [0] rfl
        have hX133 := es_ hX131 hE133
        refine fl_ret ?_
        refine hp128 _ _ _ rfl ?_
        refine hp127 _ _ _ rfl ?_
        refine hp126 _ _ _ rfl ?_
        replace hs := hz120 _ hs
        refine hp120 _ _ _ rfl ?_
        refine hp80 _ _ _ rfl ?_
        refine hp78 _ _ _ rfl ?_
        obtain rfl := osome hs
        exact hret _ _ _ _ (.inl rfl) hd133 (results1_ rfl (RVal.tmp_ e133_4)) ⟨own133, rfl, hX133⟩
      refine fl_skip ?_
      refine hn128 _ _ ?_
      obtain ⟨x134, hx134, hs⟩ := obind hs
      obtain ⟨x135, hx135, hs⟩ := obind hs
      refine rg_draw_seq g_mixed (n := 42) (rs := []) (own0 := own131) (K := []) (bs := [0, 0, 3, 7, 0, 0, 48, 112, 255]) (ds := [⟨[], [0], [], Fct.val 27 (.slice Ax1 x1.length cx1)⟩, ⟨[], [5], [], Fct.val 28 (.int .i64 i100)⟩, ⟨[0, 1], [], [], Fct.val 29 (.pointer (some ((adr Ax1).add ((i100 : Int).toNat * R3.s))))⟩, ⟨[2], [], [], Fct.val 30 (.int .i64 x134)⟩, ⟨[], [1], [], Fct.val 31 (.slice Ab2 b2.length cb2)⟩, ⟨[], [5], [], Fct.val 32 (.int .i64 i100)⟩, ⟨[4, 5], [], [], Fct.val 33 (.pointer (some ((adr Ab2).add ((i100 : Int).toNat * R3.s))))⟩, ⟨[6], [], [], Fct.val 34 (.int .i64 x135)⟩, ⟨[3, 7], [], [], Fct.val 35 (.bool (decide (x135 < x134)))⟩]) (by kernel_rfl) hz131 hd131 nm_ ?_ ?_
      · refine sc (fun _ _ _ _ s _ => px (or_move (s.1.trans e131_0))) ?_
        refine sc (fun _ _ _ _ s _ => px (or_move (s.1.trans e131_5))) ?_
        refine sc (fun _ _ _ f _ _ => px (or_index (R := R3) (l := x1) tl28 f.1 f.2.1 (RdO.some_ b131_Ax1 hx134) hx134)) ?_
        refine sc (fun _ _ _ f _ hE => px (or_load1 to3 f.1 (CellsAt.zero (RdO.cells (F := E3) (RdO.evo rfl hE b131_Ax1) hx134) rfl))) ?_
        refine sc (fun _ _ _ _ s _ => px (or_move (s.1.trans e131_1))) ?_
        refine sc (fun _ _ _ _ s _ => px (or_move (s.1.trans e131_5))) ?_
        refine sc (fun _ _ _ f _ _ => px (or_index (R := R3) (l := b2) tl28 f.1 f.2.1 (RdO.some_ b131_Ab2 hx135) hx135)) ?_
        refine sc (fun _ _ _ f _ hE => px (or_load1 to3 f.1 (CellsAt.zero (RdO.cells (F := E3) (RdO.evo rfl hE b131_Ab2) hx135) rfl))) ?_
        refine sc (fun _ _ _ f _ _ => px (or_gtr f.1 f.2.1 rfl)) ?_
        exact steps_nil
      intro own136 a136 w136 hd136 hz136 hk136 hf136 hE136
      have e136_0 := (hk136 0 rfl).trans e131_0
      have e136_1 := (hk136 1 rfl).trans e131_1
      have e136_5 := (hk136 5 rfl).trans e131_5
      obtain ⟨(e136_35 : a136.eval (.tmp 35) = .bool (decide (x135 < x134))), -⟩ := hf136 [8] rfl
      have hX136 := es_ hX131 hE136
      have b136_Ax1 := RdO.evo rfl hE136 b131_Ax1
      have b136_Ab2 := RdO.evo rfl hE136 b131_Ab2
      refine fl_cond e136_35 hs (fun c137 hs => ?_) (fun c137 hs => ?_)
      · refine rg0_seq 42 own136 (bz 1) [⟨[], [], [], Fct.val 4 (.int .i64 1)⟩] hz136 hd136 (by kernel_rfl) ?_ ?_
        · refine sc (fun _ _ _ _ _ _ => px (or_assign rfl)) ?_
          exact steps_nil
        intro own138 a138 w138 hd138 hz138 hk138 hf138 hE138
        obtain ⟨(e138_4 : a138.eval (.tmp 4) = .int .i64 1), -⟩ := hf138 [0] rfl
        have hX138 := es_ hX136 hE138
        refine fl_ret ?_
        refine hp127 _ _ _ rfl ?_
        refine hp126 _ _ _ rfl ?_
        replace hs := hz120 _ hs
        refine hp120 _ _ _ rfl ?_
        refine hp80 _ _ _ rfl ?_
        refine hp78 _ _ _ rfl ?_
        obtain rfl := osome hs
        exact hret _ _ _ _ (.inl rfl) hd138 (results1_ rfl (RVal.tmp_ e138_4)) ⟨own138, rfl, hX138⟩
      refine fl_skip ?_
      refine hn127 _ _ ?_
      refine hn126 _ _ ?_
      refine rg0 42 own136 (bz 3) [⟨[], [5], [], Fct.val 16 (.int .i64 i100)⟩, ⟨[0], [], [], Fct.val 17 (.int .i64 (ad i100 1))⟩, ⟨[1], [], [], Fct.val 5 (.int .i64 (ad i100 1))⟩] hz136 hd136 (by kernel_rfl) ?_ ?_
      · refine sc (fun _ _ _ _ s _ => px (or_move (s.1.trans e136_5))) ?_
        refine sc (fun _ _ _ f _ _ => px (or_add f.1 rfl rfl)) ?_
        refine sc (fun _ _ _ f _ _ => px (or_assign f.1)) ?_
        exact steps_nil
      intro own139 a139 w139 hd139 hz139 hk139 hf139 hE139
      have e139_0 := (hk139 0 rfl).trans e136_0
      have e139_1 := (hk139 1 rfl).trans e136_1
      obtain ⟨(e139_5 : a139.eval (.tmp 5) = .int .i64 (ad i100 1)), -⟩ := hf139 [2] rfl
      have hX139 := es_ hX136 hE139
      have b139_Ax1 := RdO.evo rfl hE139 b136_Ax1
      have b139_Ab2 := RdO.evo rfl hE139 b136_Ab2
      exact hn120 _ _ _ hs ⟨own139, hd139, hz139, e139_0, e139_1, e139_5, hX139, b139_Ax1, b139_Ab2⟩
    refine fl_exit ?_
    refine hp122 _ _ _ rfl ?_
    replace hs := hz120 _ hs
    refine hp120 _ _ _ rfl ?_
    refine hx80 _ _ ?_
    refine hn78 _ _ ?_
    obtain ⟨x140, hx140, hs⟩ := obind hs
    obtain ⟨r141, hr141, hs⟩ := obind hs
    refine rg0_seq 42 own124 [0, 1, 0, 4, 15, 31, 63] [⟨[], [0], [], Fct.val 36 (.slice Ax1 x1.length cx1)⟩, ⟨[0], [], [], Fct.val 37 (.int .i64 (x1.length : Int))⟩, ⟨[], [1], [], Fct.val 38 (.slice Ab2 b2.length cb2)⟩, ⟨[2], [], [], Fct.val 39 (.int .i64 (b2.length : Int))⟩, ⟨[1, 3], [], [], Fct.val 40 (.int .i64 x140)⟩, ⟨[4], [], [], Fct.val 41 (.int .i64 r141)⟩, ⟨[5], [], [], Fct.val 4 (.int .i64 r141)⟩] hz124 hd124 (by kernel_rfl) ?_ ?_
    · refine sc (fun _ _ _ _ s _ => px (or_move (s.1.trans e124_0))) ?_
      refine sc (fun _ _ _ f _ _ => px (or_len tu28 f.1 rfl)) ?_
      refine sc (fun _ _ _ _ s _ => px (or_move (s.1.trans e124_1))) ?_
      refine sc (fun _ _ _ f _ _ => px (or_len tu28 f.1 rfl)) ?_
      refine sc (fun _ _ _ f _ _ => px (or_sub f.1 f.2.1 (osome hx140).symm)) ?_
      refine sc (fun _ _ _ f _ _ => px (or_call cf64 (args1 f.1) (ref01_Sign_w _ x140  r141 hr141) post_val)) ?_
      refine sc (fun _ _ _ f _ _ => px (or_assign f.1)) ?_
      exact steps_nil
    intro own142 a142 w142 hd142 hz142 hk142 hf142 hE142
    obtain ⟨(e142_4 : a142.eval (.tmp 4) = .int .i64 r141), -⟩ := hf142 [6] rfl
    have hX142 := es_ hX124 hE142
    refine fl_ret ?_
    obtain rfl := (osome hs).symm
    exact hret _ _ _ _ (.inl rfl) hd142 (results1_ rfl (RVal.tmp_ e142_4)) ⟨own142, rfl, hX142⟩
set_option maxHeartbeats 2000000 in
theorem ref15_Same_w (w : World) (x1 : (List ((List (Int × Int)) × Int × Int)) × (List (List (List Int)))) (Ax1_0 : Option Addr) (cx1_0 : Nat) (Ax1_1 : Option Addr) (cx1_1 : Nat) (b2 : (List ((List (Int × Int)) × Int × Int)) × (List (List (List Int)))) (Ab2_0 : Option Addr) (cb2_0 : Nat) (Ab2_1 : Option Addr) (cb2_1 : Nat) (hAx1_0 : RdO (fun _ => 0) [0] w R78 Ax1_0 cx1_0 x1.1) (hAx1_1 : RdO (fun _ => 0) [0] w R27 Ax1_1 cx1_1 x1.2) (hAb2_0 : RdO (fun _ => 0) [0] w R78 Ab2_0 cb2_0 b2.1) (hAb2_1 : RdO (fun _ => 0) [0] w R27 Ab2_1 cb2_1 b2.2) (r : Bool) (hs : ref15_Same x1 b2 = some r) :
    Calls Try.prog 28 #[.agg #[.slice Ax1_0 x1.1.length cx1_0, .slice Ax1_1 x1.2.length cx1_1], .agg #[.slice Ab2_0 b2.1.length cb2_0, .slice Ab2_1 b2.2.length cb2_1]] w fun e w' => ∃ own' : Own, e = .returned (.bool r) ∧ Evo [] (fun _ => 0) own' w w' := by
  refine fl_enter (n := 111) rfl rfl rfl (Nat.le_of_ble_eq_true rfl) ?_
  intro a0 Q hd0 hz0 harg hret
  have ha0 := harg 0 _ rfl
  have ha1 := harg 1 _ rfl
  clear harg
  have hE0 : Evo [] (fun _ => 0) (fun _ => 0) w w := Evo.refl _ _ _
  refine rg0_seq 111 (fun _ => 0) [0, 0, 0] [⟨[], [0], [], Fct.blk 348 2 (fun g => .pointer (some ⟨g, 0, none⟩)) 38 #[.slice Ax1_0 x1.1.length cx1_0, .slice Ax1_1 x1.2.length cx1_1]⟩, ⟨[], [1], [], Fct.blk 350 3 (fun g => .pointer (some ⟨g, 0, none⟩)) 38 #[.slice Ab2_0 b2.1.length cb2_0, .slice Ab2_1 b2.2.length cb2_1]⟩, ⟨[], [], [], Fct.val 4 (.bool false)⟩] hz0 hd0 (by kernel_rfl) ?_ ?_
  · refine sc (fun _ _ _ _ s _ => px (or_new [(0, .agg #[.slice Ax1_0 x1.1.length cx1_0, .slice Ax1_1 x1.2.length cx1_1])] rfl rfl ⟨(s.1.trans ha0), trivial⟩ (by kernel_rfl))) ?_
    refine sc (fun _ _ _ _ s _ => px (or_new [(1, .agg #[.slice Ab2_0 b2.1.length cb2_0, .slice Ab2_1 b2.2.length cb2_1])] rfl rfl ⟨(s.1.trans ha1), trivial⟩ (by kernel_rfl))) ?_
    refine sc (fun _ _ _ _ _ _ => px (or_assign rfl)) ?_
    exact steps_nil
  intro own351 a351 w351 hd351 hz351 hk351 hf351 hE351
  obtain ⟨⟨g347, (e351_2 : a351.eval (.tmp 2) = .pointer (some ⟨g347, 0, none⟩)), (b351_g347 : BlkO own351 348 w351 g347 38 #[.slice Ax1_0 x1.1.length cx1_0, .slice Ax1_1 x1.2.length cx1_1])⟩, ⟨g349, (e351_3 : a351.eval (.tmp 3) = .pointer (some ⟨g349, 0, none⟩)), (b351_g349 : BlkO own351 350 w351 g349 38 #[.slice Ab2_0 b2.1.length cb2_0, .slice Ab2_1 b2.2.length cb2_1])⟩, -⟩ := hf351 [0, 1] rfl
  have hX351 := es_ hE0 hE351
  have b351_Ax1_0 := RdO.evo rfl hE351 hAx1_0
  have b351_Ax1_1 := RdO.evo rfl hE351 hAx1_1
  have b351_Ab2_0 := RdO.evo rfl hE351 hAb2_0
  have b351_Ab2_1 := RdO.evo rfl hE351 hAb2_1
  refine fl_seq (fun Q352 hn352 hp352 => ?_)
  obtain ⟨x353, hx353, hs⟩ := obind hs
  refine rg0_seq 111 own351 [0, 1, 3, 0, 8, 24, 63, 127, 255, 511, 1023, 255, 2303, 6399, 16383, 32767] [⟨[], [2], [], Fct.val 10 (.pointer (some ⟨g347, 0, none⟩))⟩, ⟨[0], [], [], Fct.val 11 (.slice Ax1_0 x1.1.length cx1_0)⟩, ⟨[1], [], [], Fct.val 12 (.int .i64 (x1.1.length : Int))⟩, ⟨[], [3], [], Fct.val 13 (.pointer (some ⟨g349, 0, none⟩))⟩, ⟨[3], [], [], Fct.val 14 (.slice Ab2_0 b2.1.length cb2_0)⟩, ⟨[4], [], [], Fct.val 15 (.int .i64 (b2.1.length : Int))⟩, ⟨[2, 5], [], [], Fct.val 16 (.bool (!decide ((x1.1.length : Int) = (b2.1.length : Int))))⟩, ⟨[6], [], [], Fct.val 17 (.bool (!decide ((x1.1.length : Int) = (b2.1.length : Int))))⟩, ⟨[7], [2], [], Fct.cond (!(!decide ((x1.1.length : Int) = (b2.1.length : Int)))) (some 18) (Fct.val 18 (.pointer (some ⟨g347, 1, none⟩)))⟩, ⟨[7, 8], [], [], Fct.cond (!(!decide ((x1.1.length : Int) = (b2.1.length : Int)))) (some 19) (Fct.val 19 (.slice Ax1_1 x1.2.length cx1_1))⟩, ⟨[7, 9], [], [], Fct.cond (!(!decide ((x1.1.length : Int) = (b2.1.length : Int)))) (some 20) (Fct.val 20 (.int .i64 (x1.2.length : Int)))⟩, ⟨[7], [3], [], Fct.cond (!(!decide ((x1.1.length : Int) = (b2.1.length : Int)))) (some 21) (Fct.val 21 (.pointer (some ⟨g349, 1, none⟩)))⟩, ⟨[7, 11], [], [], Fct.cond (!(!decide ((x1.1.length : Int) = (b2.1.length : Int)))) (some 22) (Fct.val 22 (.slice Ab2_1 b2.2.length cb2_1))⟩, ⟨[7, 12], [], [], Fct.cond (!(!decide ((x1.1.length : Int) = (b2.1.length : Int)))) (some 23) (Fct.val 23 (.int .i64 (b2.2.length : Int)))⟩, ⟨[7, 10, 13], [], [], Fct.cond (!(!decide ((x1.1.length : Int) = (b2.1.length : Int)))) (some 24) (Fct.val 24 (.bool (!decide ((x1.2.length : Int) = (b2.2.length : Int)))))⟩, ⟨[7, 14], [], [], Fct.val 25 (.bool x353)⟩] hz351 hd351 (by kernel_rfl) ?_ ?_
  · refine sc (fun _ _ _ _ s _ => px (or_field fo38_0 (s.1.trans e351_2) (by rfl))) ?_
    refine sc (fun _ _ _ f _ hE => px (or_load1 to36 f.1 (Blk.at_ (be_ hE b351_g347).2 0 rfl))) ?_
    refine sc (fun _ _ _ f _ _ => px (or_len tu36 f.1 rfl)) ?_
    refine sc (fun _ _ _ _ s _ => px (or_field fo38_0 (s.1.trans e351_3) (by rfl))) ?_
    refine sc (fun _ _ _ f _ hE => px (or_load1 to36 f.1 (Blk.at_ (be_ hE b351_g349).2 0 rfl))) ?_
    refine sc (fun _ _ _ f _ _ => px (or_len tu36 f.1 rfl)) ?_
    refine sc (fun _ _ _ f _ _ => px (or_neq f.1 f.2.1 rfl)) ?_
    refine sc (fun _ _ _ f _ _ => px (or_move f.1)) ?_
    refine sc (fun _ _ _ f s _ => sg_f rfl rfl rfl f.1 (fun hg => or_field fo38_1 (s.1.trans e351_2) (by rfl))) ?_
    refine sc (fun _ _ _ f _ hE => sg_f rfl rfl rfl f.1 (fun hg => or_load1 to23 (f.2.1.1 hg) (Blk.at_ (be_ hE b351_g347).2 1 rfl))) ?_
    refine sc (fun _ _ _ f _ _ => sg_f rfl rfl rfl f.1 (fun hg => or_len tu23 (f.2.1.1 hg) rfl)) ?_
    refine sc (fun _ _ _ f s _ => sg_f rfl rfl rfl f.1 (fun hg => or_field fo38_1 (s.1.trans e351_3) (by rfl))) ?_
    refine sc (fun _ _ _ f _ hE => sg_f rfl rfl rfl f.1 (fun hg => or_load1 to23 (f.2.1.1 hg) (Blk.at_ (be_ hE b351_g349).2 1 rfl))) ?_
    refine sc (fun _ _ _ f _ _ => sg_f rfl rfl rfl f.1 (fun hg => or_len tu23 (f.2.1.1 hg) rfl)) ?_
    refine sc (fun _ _ _ f _ _ => sg_f rfl rfl rfl f.1 (fun hg => or_neq (f.2.1.1 hg) (f.2.2.1.1 hg) rfl)) ?_
    refine sc (fun _ _ _ f _ _ => px (or_or f.1 rfl (fun hx => f.2.1.1 hx) (osome hx353).symm)) ?_
    exact steps_nil
  intro own354 a354 w354 hd354 hz354 hk354 hf354 hE354
  have e354_2 := (hk354 2 rfl).trans e351_2
  have e354_3 := (hk354 3 rfl).trans e351_3
  obtain ⟨(e354_25 : a354.eval (.tmp 25) = .bool x353), -⟩ := hf354 [15] rfl
  have hX354 := es_ hX351 hE354
  have b354_Ax1_0 := RdO.evo rfl hE354 b351_Ax1_0
  have b354_Ax1_1 := RdO.evo rfl hE354 b351_Ax1_1
  have b354_Ab2_0 := RdO.evo rfl hE354 b351_Ab2_0
  have b354_Ab2_1 := RdO.evo rfl hE354 b351_Ab2_1
  have b354_g347 := be_ hE354 b351_g347
  have b354_g349 := be_ hE354 b351_g349
  refine fl_cond e354_25 hs (fun c355 hs => ?_) (fun c355 hs => ?_)
  · refine rg0_seq 111 own354 (bz 1) [⟨[], [], [], Fct.val 4 (.bool false)⟩] hz354 hd354 (by kernel_rfl) ?_ ?_
    · refine sc (fun _ _ _ _ _ _ => px (or_assign rfl)) ?_
      exact steps_nil
    intro own356 a356 w356 hd356 hz356 hk356 hf356 hE356
    obtain ⟨(e356_4 : a356.eval (.tmp 4) = .bool false), -⟩ := hf356 [0] rfl
    have hX356 := es_ hX354 hE356
    refine fl_ret ?_
    refine hp352 _ _ _ rfl ?_
    obtain rfl := osome hs
    exact hret _ _ _ _ (.inl rfl) hd356 (results1_ rfl (RVal.tmp_ e356_4)) ⟨own356, rfl, hX356⟩
  refine fl_skip ?_
  refine hn352 _ _ ?_
  refine fl_seq (fun Q357 hn357 hp357 => ?_)
  refine rg0_seq 111 own354 (bz 1) [⟨[], [], [], Fct.val 5 (.int .i64 0)⟩] hz354 hd354 (by kernel_rfl) ?_ ?_
  · refine sc (fun _ _ _ _ _ _ => px (or_assign rfl)) ?_
    exact steps_nil
  intro own358 a358 w358 hd358 hz358 hk358 hf358 hE358
  have e358_2 := (hk358 2 rfl).trans e354_2
  have e358_3 := (hk358 3 rfl).trans e354_3
  obtain ⟨(e358_5 : a358.eval (.tmp 5) = .int .i64 0), -⟩ := hf358 [0] rfl
  have hX358 := es_ hX354 hE358
  have b358_Ax1_0 := RdO.evo rfl hE358 b354_Ax1_0
  have b358_Ax1_1 := RdO.evo rfl hE358 b354_Ax1_1
  have b358_Ab2_0 := RdO.evo rfl hE358 b354_Ab2_0
  have b358_Ab2_1 := RdO.evo rfl hE358 b354_Ab2_1
  have b358_g347 := be_ hE358 b354_g347
  have b358_g349 := be_ hE358 b354_g349
  refine fl_block (fun Q359 hn359 hx359 hp359 => ?_)
  refine fl_loop (body := (fun s => ref15_Same_b1 x1 b2 s)) (z := r) (show loopO _ _ = _ from hs) (fun (i383 : Int) a wx => ∃ (ox : Own), a.defers = [] ∧ a.tmps.size = 111 ∧ a.eval (.tmp 2) = .pointer (some ⟨g347, 0, none⟩) ∧ a.eval (.tmp 3) = .pointer (some ⟨g349, 0, none⟩) ∧ a.eval (.tmp 5) = .int .i64 i383 ∧ Evo [] (fun _ => 0) ox w wx ∧ BlkO ox 348 wx g347 38 #[.slice Ax1_0 x1.1.length cx1_0, .slice Ax1_1 x1.2.length cx1_1] ∧ RdO ox [0] wx R78 Ax1_0 cx1_0 x1.1 ∧ RdO ox [0] wx R27 Ax1_1 cx1_1 x1.2 ∧ BlkO ox 350 wx g349 38 #[.slice Ab2_0 b2.1.length cb2_0, .slice Ab2_1 b2.2.length cb2_1] ∧ RdO ox [0] wx R78 Ab2_0 cb2_0 b2.1 ∧ RdO ox [0] wx R27 Ab2_1 cb2_1 b2.2) ?_ ?_
  · exact ⟨own358, hd358, hz358, e358_2, e358_3, e358_5, hX358, b358_g347, b358_Ax1_0, b358_Ax1_1, b358_g349, b358_Ab2_0, b358_Ab2_1⟩
  · rintro i383 zz407 a407 w407 ⟨own407, hd408, hz408, e408_2, e408_3, e408_5, hE408, b408_g347, b408_Ax1_0, b408_Ax1_1, b408_g349, b408_Ab2_0, b408_Ab2_1⟩ hs Q407 hn407 hp407 hz407
    have hs : ref15_Same_b1 x1 b2 i383 = some zz407 := hs
    refine fl_seq (fun Q409 hn409 hp409 => ?_)
    refine rg0_seq 111 own407 [0, 0, 2, 6, 15] [⟨[], [5], [], Fct.val 26 (.int .i64 i383)⟩, ⟨[], [2], [], Fct.val 27 (.pointer (some ⟨g347, 0, none⟩))⟩, ⟨[1], [], [], Fct.val 28 (.slice Ax1_0 x1.1.length cx1_0)⟩, ⟨[2], [], [], Fct.val 29 (.int .i64 (x1.1.length : Int))⟩, ⟨[0, 3], [], [], Fct.val 30 (.bool (decide (i383 < (x1.1.length : Int))))⟩] hz408 hd408 (by kernel_rfl) ?_ ?_
    · refine sc (fun _ _ _ _ s _ => px (or_move (s.1.trans e408_5))) ?_
      refine sc (fun _ _ _ _ s _ => px (or_field fo38_0 (s.1.trans e408_2) (by rfl))) ?_
      refine sc (fun _ _ _ f _ hE => px (or_load1 to36 f.1 (Blk.at_ (be_ hE b408_g347).2 0 rfl))) ?_
      refine sc (fun _ _ _ f _ _ => px (or_len tu36 f.1 rfl)) ?_
      refine sc (fun _ _ _ f _ _ => px (or_lss f.1 f.2.1 rfl)) ?_
      exact steps_nil
    intro own410 a410 w410 hd410 hz410 hk410 hf410 hE410
    have e410_2 := (hk410 2 rfl).trans e408_2
    have e410_3 := (hk410 3 rfl).trans e408_3
    have e410_5 := (hk410 5 rfl).trans e408_5
    obtain ⟨(e410_30 : a410.eval (.tmp 30) = .bool (decide (i383 < (x1.1.length : Int)))), -⟩ := hf410 [4] rfl
    have hX410 := es_ hE408 hE410
    have b410_g347 := be_ hE410 b408_g347
    have b410_Ax1_0 := RdO.evo rfl hE410 b408_Ax1_0
    have b410_Ax1_1 := RdO.evo rfl hE410 b408_Ax1_1
    have b410_g349 := be_ hE410 b408_g349
    have b410_Ab2_0 := RdO.evo rfl hE410 b408_Ab2_0
    have b410_Ab2_1 := RdO.evo rfl hE410 b408_Ab2_1
    refine fl_cond e410_30 hs (fun c411 hs => ?_) (fun c411 hs => ?_)
    · refine fl_skip ?_
      refine hn409 _ _ ?_
      refine fl_seq (fun Q412 hn412 hp412 => ?_)
      refine fl_block (fun Q413 hn413 hx413 hp413 => ?_)
      obtain ⟨x414, hx414, hs⟩ := obind hs
      obtain ⟨x416, hx416, hs⟩ := obind hs
      refine rg_draw_seq g_mixed (n := 111) (rs := []) (own0 := own410) (K := [419, 421]) (bs := [0, 1, 0, 7, 15, 0, 32, 0, 224, 480, 0, 0, 3103, 8191]) (ds := [⟨[], [2], [], Fct.val 33 (.pointer (some ⟨g347, 0, none⟩))⟩, ⟨[0], [], [], Fct.val 34 (.slice Ax1_0 x1.1.length cx1_0)⟩, ⟨[], [5], [], Fct.val 35 (.int .i64 i383)⟩, ⟨[1, 2], [], [], Fct.val 36 (.pointer (some ((adr Ax1_0).add ((i383 : Int).toNat * R78.s))))⟩, ⟨[3], [], [], Fct.nest X78 [0] 37 (fun (y : ((Option Addr × Nat) × Unit × Unit)) => .agg #[.slice y.1.1 x414.1.length y.1.2, .int .i64 x414.2.1, .int .i64 x414.2.2]) x414⟩, ⟨[], [3], [], Fct.val 38 (.pointer (some ⟨g349, 0, none⟩))⟩, ⟨[5], [], [], Fct.val 39 (.slice Ab2_0 b2.1.length cb2_0)⟩, ⟨[], [5], [], Fct.val 40 (.int .i64 i383)⟩, ⟨[6, 7], [], [], Fct.val 41 (.pointer (some ((adr Ab2_0).add ((i383 : Int).toNat * R78.s))))⟩, ⟨[8], [], [], Fct.nest X78 [0] 42 (fun (y : ((Option Addr × Nat) × Unit × Unit)) => .agg #[.slice y.1.1 x416.1.length y.1.2, .int .i64 x416.2.1, .int .i64 x416.2.2]) x416⟩, ⟨[], [], [], Fct.blk 419 6 (fun g => .pointer (some ⟨g, 0, none⟩)) 78 #[.slice none 0 0, .int .i64 0, .int .i64 0]⟩, ⟨[], [], [], Fct.blk 421 7 (fun g => .pointer (some ⟨g, 0, none⟩)) 78 #[.slice none 0 0, .int .i64 0, .int .i64 0]⟩, ⟨[10, 4], [], [419], Fct.by_ [422] [6, 37] (fun l own w => ∃ g418 : Nat, l.getD 0 undef = .pointer (some ⟨g418, 0, none⟩) ∧ (∀ (A415 : Option Addr) (cA415 : Nat), l.getD 1 undef = .agg #[.slice A415 x414.1.length cA415, .int .i64 x414.2.1, .int .i64 x414.2.2] → BlkO own 422 w g418 78 #[.slice A415 x414.1.length cA415, .int .i64 x414.2.1, .int .i64 x414.2.2])) (fun hk he h => by obtain ⟨g, e, h⟩ := h; exact ⟨g, e, fun _ _ h0' => BlkO.evo (not_hit hk (by decide)) he (h _ _ h0')⟩)⟩, ⟨[11, 9], [], [421], Fct.by_ [423] [7, 42] (fun l own w => ∃ g420 : Nat, l.getD 0 undef = .pointer (some ⟨g420, 0, none⟩) ∧ (∀ (A417 : Option Addr) (cA417 : Nat), l.getD 1 undef = .agg #[.slice A417 x416.1.length cA417, .int .i64 x416.2.1, .int .i64 x416.2.2] → BlkO own 423 w g420 78 #[.slice A417 x416.1.length cA417, .int .i64 x416.2.1, .int .i64 x416.2.2])) (fun hk he h => by obtain ⟨g, e, h⟩ := h; exact ⟨g, e, fun _ _ h0' => BlkO.evo (not_hit hk (by decide)) he (h _ _ h0')⟩)⟩]) (by kernel_rfl) hz410 hd410 nm_ ?_ ?_
      · refine sc (fun _ _ _ _ s _ => px (or_field fo38_0 (s.1.trans e410_2) (by rfl))) ?_
        refine sc (fun _ _ _ f _ hE => px (or_load1 to36 f.1 (Blk.at_ (be_ hE b410_g347).2 0 rfl))) ?_
        refine sc (fun _ _ _ _ s _ => px (or_move (s.1.trans e410_5))) ?_
        refine sc (fun _ _ _ f _ _ => px (or_index (R := R78) (l := x1.1) tl36 f.1 f.2.1 (RdO.some_ b410_Ax1_0 hx414) hx414)) ?_
        refine sc (fun _ _ _ f _ hE => px (or_loadN X78 0 3 ta78 f.1 (Addr.add_zero' _).symm (RdO.evo rfl hE b410_Ax1_0) hx414 (fun _ => rfl) (fun _ => rfl))) ?_
        refine sc (fun _ _ _ _ s _ => px (or_field fo38_0 (s.1.trans e410_3) (by rfl))) ?_
        refine sc (fun _ _ _ f _ hE => px (or_load1 to36 f.1 (Blk.at_ (be_ hE b410_g349).2 0 rfl))) ?_
        refine sc (fun _ _ _ _ s _ => px (or_move (s.1.trans e410_5))) ?_
        refine sc (fun _ _ _ f _ _ => px (or_index (R := R78) (l := b2.1) tl36 f.1 f.2.1 (RdO.some_ b410_Ab2_0 hx416) hx416)) ?_
        refine sc (fun _ _ _ f _ hE => px (or_loadN X78 0 3 ta78 f.1 (Addr.add_zero' _).symm (RdO.evo rfl hE b410_Ab2_0) hx416 (fun _ => rfl) (fun _ => rfl))) ?_
        refine sc (fun _ _ _ _ _ _ => px (or_new [] rfl rfl trivial (by kernel_rfl))) ?_
        refine sc (fun _ _ _ _ _ _ => px (or_new [] rfl rfl trivial (by kernel_rfl))) ?_
        refine sc (fun own a wx hf hsl hE => ?_) ?_
        · obtain ⟨⟨g418, f_6, b_g418⟩, ⟨⟨⟨A415, cA415⟩, _, _⟩, (f_37 : a.eval (.tmp 37) = .agg #[.slice A415 x414.1.length cA415, .int .i64 x414.2.1, .int .i64 x414.2.2]), ⟨b_A415, -, -⟩⟩, -⟩ := hf
          exact px (or_store (l := #[.slice A415 x414.1.length cA415, .int .i64 x414.2.1, .int .i64 x414.2.2]) (lab := 419) (lab2 := 422) ts78 f_6 f_37 b_g418 (by simp) (by kernel_rfl) (mem_of rfl) (by decide) (by kernel_rfl) (fun own' a' w' ha hb => ⟨_, (ha 6).trans f_6, fun _ _ h0' => by cases (f_37.symm.trans ((ha 37).symm.trans h0')); exact hb⟩))
        refine sc (fun own a wx hf hsl hE => ?_) ?_
        · obtain ⟨⟨g420, f_7, b_g420⟩, ⟨⟨⟨A417, cA417⟩, _, _⟩, (f_42 : a.eval (.tmp 42) = .agg #[.slice A417 x416.1.length cA417, .int .i64 x416.2.1, .int .i64 x416.2.2]), ⟨b_A417, -, -⟩⟩, -⟩ := hf
          exact px (or_store (l := #[.slice A417 x416.1.length cA417, .int .i64 x416.2.1, .int .i64 x416.2.2]) (lab := 421) (lab2 := 423) ts78 f_7 f_42 b_g420 (by simp) (by kernel_rfl) (mem_of rfl) (by decide) (by kernel_rfl) (fun own' a' w' ha hb => ⟨_, (ha 7).trans f_7, fun _ _ h0' => by cases (f_42.symm.trans ((ha 42).symm.trans h0')); exact hb⟩))
        exact steps_nil
      intro own424 a424 w424 hd424 hz424 hk424 hf424 hE424
      have e424_2 := (hk424 2 rfl).trans e410_2
      have e424_3 := (hk424 3 rfl).trans e410_3
      have e424_5 := (hk424 5 rfl).trans e410_5
      obtain ⟨⟨⟨⟨A415, cA415⟩, _, _⟩, (f_37 : a424.eval (.tmp 37) = .agg #[.slice A415 x414.1.length cA415, .int .i64 x414.2.1, .int .i64 x414.2.2]), ⟨(b424_A415 : RdO own424 [0] w424 R73 A415 cA415 x414.1), -, -⟩⟩, ⟨g418, (e424_6 : a424.eval (.tmp 6) = .pointer (some ⟨g418, 0, none⟩)), (bq_g418 : ∀ (A415 : Option Addr) (cA415 : Nat), a424.eval (.tmp 37) = .agg #[.slice A415 x414.1.length cA415, .int .i64 x414.2.1, .int .i64 x414.2.2] → BlkO own424 422 w424 g418 78 #[.slice A415 x414.1.length cA415, .int .i64 x414.2.1, .int .i64 x414.2.2])⟩, ⟨⟨⟨A417, cA417⟩, _, _⟩, (f_42 : a424.eval (.tmp 42) = .agg #[.slice A417 x416.1.length cA417, .int .i64 x416.2.1, .int .i64 x416.2.2]), ⟨(b424_A417 : RdO own424 [0] w424 R73 A417 cA417 x416.1), -, -⟩⟩, ⟨g420, (e424_7 : a424.eval (.tmp 7) = .pointer (some ⟨g420, 0, none⟩)), (bq_g420 : ∀ (A417 : Option Addr) (cA417 : Nat), a424.eval (.tmp 42) = .agg #[.slice A417 x416.1.length cA417, .int .i64 x416.2.1, .int .i64 x416.2.2] → BlkO own424 423 w424 g420 78 #[.slice A417 x416.1.length cA417, .int .i64 x416.2.1, .int .i64 x416.2.2])⟩, -⟩ := hf424 [4, 12, 9, 13] rfl
      have b424_g418 := bq_g418 _ _ f_37
      have b424_g420 := bq_g420 _ _ f_42
      have hX424 := es_ hX410 hE424
      have b424_g347 := be_ hE424 b410_g347
      have b424_Ax1_0 := RdO.evo rfl hE424 b410_Ax1_0
      have b424_Ax1_1 := RdO.evo rfl hE424 b410_Ax1_1
      have b424_g349 := be_ hE424 b410_g349
      have b424_Ab2_0 := RdO.evo rfl hE424 b410_Ab2_0
      have b424_Ab2_1 := RdO.evo rfl hE424 b410_Ab2_1
      obtain ⟨x425, hx425, hs⟩ := obind hs
      obtain ⟨r426, hr426, hs⟩ := obind hs
      refine rg0_seq 111 own424 [0, 1, 0, 4, 15, 31, 63, 127, 63, 319, 1023, 2047, 4095, 8191, 16383, 8191, 40959, 131071, 262143, 524287] [⟨[], [6], [], Fct.val 43 (.pointer (some ⟨g418, 1, none⟩))⟩, ⟨[0], [], [], Fct.val 44 (.int .i64 x414.2.1)⟩, ⟨[], [7], [], Fct.val 45 (.pointer (some ⟨g420, 1, none⟩))⟩, ⟨[2], [], [], Fct.val 46 (.int .i64 x416.2.1)⟩, ⟨[1, 3], [], [], Fct.val 47 (.bool (!decide (x414.2.1 = x416.2.1)))⟩, ⟨[4], [], [], Fct.val 48 (.bool (!decide (x414.2.1 = x416.2.1)))⟩, ⟨[5], [6], [], Fct.cond (!(!decide (x414.2.1 = x416.2.1))) (some 49) (Fct.val 49 (.pointer (some ⟨g418, 2, none⟩)))⟩, ⟨[5, 6], [], [], Fct.cond (!(!decide (x414.2.1 = x416.2.1))) (some 50) (Fct.val 50 (.int .i64 x414.2.2))⟩, ⟨[5], [7], [], Fct.cond (!(!decide (x414.2.1 = x416.2.1))) (some 51) (Fct.val 51 (.pointer (some ⟨g420, 2, none⟩)))⟩, ⟨[5, 8], [], [], Fct.cond (!(!decide (x414.2.1 = x416.2.1))) (some 52) (Fct.val 52 (.int .i64 x416.2.2))⟩, ⟨[5, 7, 9], [], [], Fct.cond (!(!decide (x414.2.1 = x416.2.1))) (some 53) (Fct.val 53 (.bool (!decide (x414.2.2 = x416.2.2))))⟩, ⟨[5, 10], [], [], Fct.val 54 (.bool x425)⟩, ⟨[11], [], [], Fct.val 55 (.bool x425)⟩, ⟨[12], [6], [], Fct.cond (!x425) (some 56) (Fct.val 56 (.pointer (some ⟨g418, 0, none⟩)))⟩, ⟨[12, 13], [], [], Fct.cond (!x425) (some 57) (Fct.val 57 (.slice A415 x414.1.length cA415))⟩, ⟨[12], [7], [], Fct.cond (!x425) (some 58) (Fct.val 58 (.pointer (some ⟨g420, 0, none⟩)))⟩, ⟨[12, 15], [], [], Fct.cond (!x425) (some 59) (Fct.val 59 (.slice A417 x416.1.length cA417))⟩, ⟨[12, 14, 16], [], [], Fct.cond (!x425) (some 60) (Fct.val 60 (.int .i64 r426))⟩, ⟨[12, 17], [], [], Fct.cond (!x425) (some 61) (Fct.val 61 (.bool (!decide (r426 = 0))))⟩, ⟨[12, 18], [], [], Fct.val 62 (.bool (x425 || (!decide (r426 = 0))))⟩] hz424 hd424 (by kernel_rfl) ?_ ?_
      · refine sc (fun _ _ _ _ s _ => px (or_field fo78_1 (s.1.trans e424_6) (by rfl))) ?_
        refine sc (fun _ _ _ f _ hE => px (or_load1 to3 f.1 (Blk.at_ (be_ hE b424_g418).2 1 rfl))) ?_
        refine sc (fun _ _ _ _ s _ => px (or_field fo78_1 (s.1.trans e424_7) (by rfl))) ?_
        refine sc (fun _ _ _ f _ hE => px (or_load1 to3 f.1 (Blk.at_ (be_ hE b424_g420).2 1 rfl))) ?_
        refine sc (fun _ _ _ f _ _ => px (or_neq f.1 f.2.1 rfl)) ?_
        refine sc (fun _ _ _ f _ _ => px (or_move f.1)) ?_
        refine sc (fun _ _ _ f s _ => sg_f rfl rfl rfl f.1 (fun hg => or_field fo78_2 (s.1.trans e424_6) (by rfl))) ?_
        refine sc (fun _ _ _ f _ hE => sg_f rfl rfl rfl f.1 (fun hg => or_load1 to3 (f.2.1.1 hg) (Blk.at_ (be_ hE b424_g418).2 2 rfl))) ?_
        refine sc (fun _ _ _ f s _ => sg_f rfl rfl rfl f.1 (fun hg => or_field fo78_2 (s.1.trans e424_7) (by rfl))) ?_
        refine sc (fun _ _ _ f _ hE => sg_f rfl rfl rfl f.1 (fun hg => or_load1 to3 (f.2.1.1 hg) (Blk.at_ (be_ hE b424_g420).2 2 rfl))) ?_
        refine sc (fun _ _ _ f _ _ => sg_f rfl rfl rfl f.1 (fun hg => or_neq (f.2.1.1 hg) (f.2.2.1.1 hg) rfl)) ?_
        refine sc (fun _ _ _ f _ _ => px (or_or f.1 rfl (fun hx => f.2.1.1 hx) (osome hx425).symm)) ?_
        refine sc (fun _ _ _ f _ _ => px (or_move f.1)) ?_
        refine sc (fun _ _ _ f s _ => sg_f rfl rfl rfl f.1 (fun hg => or_field fo78_0 (s.1.trans e424_6) (by rfl))) ?_
        refine sc (fun _ _ _ f _ hE => sg_f rfl rfl rfl f.1 (fun hg => or_load1 to76 (f.2.1.1 hg) (Blk.at_ (be_ hE b424_g418).2 0 rfl))) ?_
        refine sc (fun _ _ _ f s _ => sg_f rfl rfl rfl f.1 (fun hg => or_field fo78_0 (s.1.trans e424_7) (by rfl))) ?_
        refine sc (fun _ _ _ f _ hE => sg_f rfl rfl rfl f.1 (fun hg => or_load1 to76 (f.2.1.1 hg) (Blk.at_ (be_ hE b424_g420).2 0 rfl))) ?_
        refine sc (fun _ _ _ f _ hE => sg_f rfl rfl rfl f.1 (fun hg => or_call cf52 (args2 (f.2.1.1 hg) (f.2.2.1.1 hg)) (ref14_Compare_w _ x414.1 A415 cA415 x416.1 A417 cA417 (RdO.zero (RdO.evo rfl hE b424_A415)) (RdO.zero (RdO.evo rfl hE b424_A417)) r426 (gd_t hr426 hg)) post_val)) ?_
        refine sc (fun _ _ _ f _ _ => sg_f rfl rfl rfl f.1 (fun hg => or_neq (f.2.1.1 hg) rfl rfl)) ?_
        refine sc (fun _ _ _ f _ _ => px (or_or f.1 rfl (fun hx => f.2.1.1 hx) rfl)) ?_
        exact steps_nil
      intro own427 a427 w427 hd427 hz427 hk427 hf427 hE427
      have e427_2 := (hk427 2 rfl).trans e424_2
      have e427_3 := (hk427 3 rfl).trans e424_3
      have e427_5 := (hk427 5 rfl).trans e424_5
      obtain ⟨(e427_62 : a427.eval (.tmp 62) = .bool (x425 || (!decide (r426 = 0)))), -⟩ := hf427 [19] rfl
      have hX427 := es_ hX424 hE427
      have b427_g347 := be_ hE427 b424_g347
      have b427_Ax1_0 := RdO.evo rfl hE427 b424_Ax1_0
      have b427_Ax1_1 := RdO.evo rfl hE427 b424_Ax1_1
      have b427_g349 := be_ hE427 b424_g349
      have b427_Ab2_0 := RdO.evo rfl hE427 b424_Ab2_0
      have b427_Ab2_1 := RdO.evo rfl hE427 b424_Ab2_1
      refine fl_cond e427_62 hs (fun c428 hs => ?_) (fun c428 hs => ?_)
      · refine rg0_seq 111 own427 (bz 1) [⟨[], [], [], Fct.val 4 (.bool false)⟩] hz427 hd427 (by kernel_rfl) ?_ ?_
        · refine sc (fun _ _ _ _ _ _ => px (or_assign rfl)) ?_
          exact steps_nil
        intro own429 a429 w429 hd429 hz429 hk429 hf429 hE429
        obtain ⟨(e429_4 : a429.eval (.tmp 4) = .bool false), -⟩ := hf429 [0] rfl
        have hX429 := es_ hX427 hE429
        refine fl_ret ?_
        refine hp413 _ _ _ rfl ?_
        refine hp412 _ _ _ rfl ?_
        replace hs := hz407 _ hs
        refine hp407 _ _ _ rfl ?_
        refine hp359 _ _ _ rfl ?_
        refine hp357 _ _ _ rfl ?_
        obtain rfl := osome hs
        exact hret _ _ _ _ (.inl rfl) hd429 (results1_ rfl (RVal.tmp_ e429_4)) ⟨own429, rfl, hX429⟩
      refine fl_skip ?_
      refine hn413 _ _ ?_
      refine hn412 _ _ ?_
      refine rg0 111 own427 (bz 3) [⟨[], [5], [], Fct.val 31 (.int .i64 i383)⟩, ⟨[0], [], [], Fct.val 32 (.int .i64 (ad i383 1))⟩, ⟨[1], [], [], Fct.val 5 (.int .i64 (ad i383 1))⟩] hz427 hd427 (by kernel_rfl) ?_ ?_
      · refine sc (fun _ _ _ _ s _ => px (or_move (s.1.trans e427_5))) ?_
        refine sc (fun _ _ _ f _ _ => px (or_add f.1 rfl rfl)) ?_
        refine sc (fun _ _ _ f _ _ => px (or_assign f.1)) ?_
        exact steps_nil
      intro own430 a430 w430 hd430 hz430 hk430 hf430 hE430
      have e430_2 := (hk430 2 rfl).trans e427_2
      have e430_3 := (hk430 3 rfl).trans e427_3
      obtain ⟨(e430_5 : a430.eval (.tmp 5) = .int .i64 (ad i383 1)), -⟩ := hf430 [2] rfl
      have hX430 := es_ hX427 hE430
      have b430_g347 := be_ hE430 b427_g347
      have b430_Ax1_0 := RdO.evo rfl hE430 b427_Ax1_0
      have b430_Ax1_1 := RdO.evo rfl hE430 b427_Ax1_1
      have b430_g349 := be_ hE430 b427_g349
      have b430_Ab2_0 := RdO.evo rfl hE430 b427_Ab2_0
      have b430_Ab2_1 := RdO.evo rfl hE430 b427_Ab2_1
      exact hn407 _ _ _ hs ⟨own430, hd430, hz430, e430_2, e430_3, e430_5, hX430, b430_g347, b430_Ax1_0, b430_Ax1_1, b430_g349, b430_Ab2_0, b430_Ab2_1⟩
    refine fl_exit ?_
    refine hp409 _ _ _ rfl ?_
    replace hs := hz407 _ hs
    refine hp407 _ _ _ rfl ?_
    refine hx359 _ _ ?_
    refine hn357 _ _ ?_
    refine fl_seq (fun Q431 hn431 hp431 => ?_)
    refine rg0_seq 111 own410 (bz 1) [⟨[], [], [], Fct.val 8 (.int .i64 0)⟩] hz410 hd410 (by kernel_rfl) ?_ ?_
    · refine sc (fun _ _ _ _ _ _ => px (or_assign rfl)) ?_
      exact steps_nil
    intro own432 a432 w432 hd432 hz432 hk432 hf432 hE432
    have e432_2 := (hk432 2 rfl).trans e410_2
    have e432_3 := (hk432 3 rfl).trans e410_3
    obtain ⟨(e432_8 : a432.eval (.tmp 8) = .int .i64 0), -⟩ := hf432 [0] rfl
    have hX432 := es_ hX410 hE432
    have b432_g347 := be_ hE432 b410_g347
    have b432_Ax1_0 := RdO.evo rfl hE432 b410_Ax1_0
    have b432_Ax1_1 := RdO.evo rfl hE432 b410_Ax1_1
    have b432_g349 := be_ hE432 b410_g349
    have b432_Ab2_0 := RdO.evo rfl hE432 b410_Ab2_0
    have b432_Ab2_1 := RdO.evo rfl hE432 b410_Ab2_1
    refine fl_block (fun Q433 hn433 hx433 hp433 => ?_)
    refine fl_loop (body := (fun s => ref15_Same_b2 x1 b2 s)) (z := r) (show loopO _ _ = _ from hs) (fun (i516 : Int) a wx => ∃ (ox : Own), a.defers = [] ∧ a.tmps.size = 111 ∧ a.eval (.tmp 2) = .pointer (some ⟨g347, 0, none⟩) ∧ a.eval (.tmp 3) = .pointer (some ⟨g349, 0, none⟩) ∧ a.eval (.tmp 8) = .int .i64 i516 ∧ Evo [] (fun _ => 0) ox w wx ∧ BlkO ox 348 wx g347 38 #[.slice Ax1_0 x1.1.length cx1_0, .slice Ax1_1 x1.2.length cx1_1] ∧ RdO ox [0] wx R78 Ax1_0 cx1_0 x1.1 ∧ RdO ox [0] wx R27 Ax1_1 cx1_1 x1.2 ∧ BlkO ox 350 wx g349 38 #[.slice Ab2_0 b2.1.length cb2_0, .slice Ab2_1 b2.2.length cb2_1] ∧ RdO ox [0] wx R78 Ab2_0 cb2_0 b2.1 ∧ RdO ox [0] wx R27 Ab2_1 cb2_1 b2.2) ?_ ?_
    · exact ⟨own432, hd432, hz432, e432_2, e432_3, e432_8, hX432, b432_g347, b432_Ax1_0, b432_Ax1_1, b432_g349, b432_Ab2_0, b432_Ab2_1⟩
    · rintro i516 zz599 a599 w599 ⟨own599, hd600, hz600, e600_2, e600_3, e600_8, hE600, b600_g347, b600_Ax1_0, b600_Ax1_1, b600_g349, b600_Ab2_0, b600_Ab2_1⟩ hs Q599 hn599 hp599 hz599
      have hs : ref15_Same_b2 x1 b2 i516 = some zz599 := hs
      refine fl_seq (fun Q601 hn601 hp601 => ?_)
      refine rg0_seq 111 own599 [0, 0, 2, 6, 15] [⟨[], [8], [], Fct.val 63 (.int .i64 i516)⟩, ⟨[], [2], [], Fct.val 64 (.pointer (some ⟨g347, 1, none⟩))⟩, ⟨[1], [], [], Fct.val 65 (.slice Ax1_1 x1.2.length cx1_1)⟩, ⟨[2], [], [], Fct.val 66 (.int .i64 (x1.2.length : Int))⟩, ⟨[0, 3], [], [], Fct.val 67 (.bool (decide (i516 < (x1.2.length : Int))))⟩] hz600 hd600 (by kernel_rfl) ?_ ?_
      · refine sc (fun _ _ _ _ s _ => px (or_move (s.1.trans e600_8))) ?_
        refine sc (fun _ _ _ _ s _ => px (or_field fo38_1 (s.1.trans e600_2) (by rfl))) ?_
        refine sc (fun _ _ _ f _ hE => px (or_load1 to23 f.1 (Blk.at_ (be_ hE b600_g347).2 1 rfl))) ?_
        refine sc (fun _ _ _ f _ _ => px (or_len tu23 f.1 rfl)) ?_
        refine sc (fun _ _ _ f _ _ => px (or_lss f.1 f.2.1 rfl)) ?_
        exact steps_nil
      intro own602 a602 w602 hd602 hz602 hk602 hf602 hE602
      have e602_2 := (hk602 2 rfl).trans e600_2
      have e602_3 := (hk602 3 rfl).trans e600_3
      have e602_8 := (hk602 8 rfl).trans e600_8
      obtain ⟨(e602_67 : a602.eval (.tmp 67) = .bool (decide (i516 < (x1.2.length : Int)))), -⟩ := hf602 [4] rfl
      have hX602 := es_ hE600 hE602
      have b602_g347 := be_ hE602 b600_g347
      have b602_Ax1_0 := RdO.evo rfl hE602 b600_Ax1_0
      have b602_Ax1_1 := RdO.evo rfl hE602 b600_Ax1_1
      have b602_g349 := be_ hE602 b600_g349
      have b602_Ab2_0 := RdO.evo rfl hE602 b600_Ab2_0
      have b602_Ab2_1 := RdO.evo rfl hE602 b600_Ab2_1
      refine fl_cond e602_67 hs (fun c603 hs => ?_) (fun c603 hs => ?_)
      · refine fl_skip ?_
        refine hn601 _ _ ?_
        refine fl_seq (fun Q604 hn604 hp604 => ?_)
        refine fl_block (fun Q605 hn605 hx605 hp605 => ?_)
        refine fl_seq (fun Q606 hn606 hp606 => ?_)
        obtain ⟨x607, hx607, hs⟩ := obind hs
        obtain ⟨x609, hx609, hs⟩ := obind hs
        refine rg_draw_seq g_mixed (n := 111) (rs := []) (own0 := own602) (K := []) (bs := [0, 1, 0, 7, 15, 31, 0, 64, 0, 448, 960, 1984, 4095]) (ds := [⟨[], [2], [], Fct.val 70 (.pointer (some ⟨g347, 1, none⟩))⟩, ⟨[0], [], [], Fct.val 71 (.slice Ax1_1 x1.2.length cx1_1)⟩, ⟨[], [8], [], Fct.val 72 (.int .i64 i516)⟩, ⟨[1, 2], [], [], Fct.val 73 (.pointer (some ((adr Ax1_1).add ((i516 : Int).toNat * R27.s))))⟩, ⟨[3], [], [], Fct.nest X27 [0] 74 (fun (y : (Option Addr × Nat)) => .slice y.1 x607.length y.2) x607⟩, ⟨[4], [], [], Fct.val 75 (.int .i64 (x607.length : Int))⟩, ⟨[], [3], [], Fct.val 76 (.pointer (some ⟨g349, 1, none⟩))⟩, ⟨[6], [], [], Fct.val 77 (.slice Ab2_1 b2.2.length cb2_1)⟩, ⟨[], [8], [], Fct.val 78 (.int .i64 i516)⟩, ⟨[7, 8], [], [], Fct.val 79 (.pointer (some ((adr Ab2_1).add ((i516 : Int).toNat * R27.s))))⟩, ⟨[9], [], [], Fct.nest X27 [0] 80 (fun (y : (Option Addr × Nat)) => .slice y.1 x609.length y.2) x609⟩, ⟨[10], [], [], Fct.val 81 (.int .i64 (x609.length : Int))⟩, ⟨[5, 11], [], [], Fct.val 82 (.bool (!decide ((x607.length : Int) = (x609.length : Int))))⟩]) (by kernel_rfl) hz602 hd602 nm_ ?_ ?_
        · refine sc (fun _ _ _ _ s _ => px (or_field fo38_1 (s.1.trans e602_2) (by rfl))) ?_
          refine sc (fun _ _ _ f _ hE => px (or_load1 to23 f.1 (Blk.at_ (be_ hE b602_g347).2 1 rfl))) ?_
          refine sc (fun _ _ _ _ s _ => px (or_move (s.1.trans e602_8))) ?_
          refine sc (fun _ _ _ f _ _ => px (or_index (R := R27) (l := x1.2) tl23 f.1 f.2.1 (RdO.some_ b602_Ax1_1 hx607) hx607)) ?_
          refine sc (fun _ _ _ f _ hE => px (or_loadN1 X27 0 to27 f.1 (Addr.add_zero' _).symm (RdO.evo rfl hE b602_Ax1_1) hx607 (fun _ => rfl))) ?_
          refine sc (fun own a wx hf hsl hE => ?_) ?_
          · obtain ⟨⟨⟨A608, cA608⟩, f_74, b_A608⟩, -⟩ := hf
            exact px (or_len tu27 f_74 rfl)
          refine sc (fun _ _ _ _ s _ => px (or_field fo38_1 (s.1.trans e602_3) (by rfl))) ?_
          refine sc (fun _ _ _ f _ hE => px (or_load1 to23 f.1 (Blk.at_ (be_ hE b602_g349).2 1 rfl))) ?_
          refine sc (fun _ _ _ _ s _ => px (or_move (s.1.trans e602_8))) ?_
          refine sc (fun _ _ _ f _ _ => px (or_index (R := R27) (l := b2.2) tl23 f.1 f.2.1 (RdO.some_ b602_Ab2_1 hx609) hx609)) ?_
          refine sc (fun _ _ _ f _ hE => px (or_loadN1 X27 0 to27 f.1 (Addr.add_zero' _).symm (RdO.evo rfl hE b602_Ab2_1) hx609 (fun _ => rfl))) ?_
          refine sc (fun own a wx hf hsl hE => ?_) ?_
          · obtain ⟨⟨⟨A610, cA610⟩, f_80, b_A610⟩, -⟩ := hf
            exact px (or_len tu27 f_80 rfl)
          refine sc (fun _ _ _ f _ _ => px (or_neq f.1 f.2.1 rfl)) ?_
          exact steps_nil
        intro own611 a611 w611 hd611 hz611 hk611 hf611 hE611
        have e611_2 := (hk611 2 rfl).trans e602_2
        have e611_3 := (hk611 3 rfl).trans e602_3
        have e611_8 := (hk611 8 rfl).trans e602_8
        obtain ⟨(e611_82 : a611.eval (.tmp 82) = .bool (!decide ((x607.length : Int) = (x609.length : Int)))), -⟩ := hf611 [12] rfl
        have hX611 := es_ hX602 hE611
        have b611_g347 := be_ hE611 b602_g347
        have b611_Ax1_0 := RdO.evo rfl hE611 b602_Ax1_0
        have b611_Ax1_1 := RdO.evo rfl hE611 b602_Ax1_1
        have b611_g349 := be_ hE611 b602_g349
        have b611_Ab2_0 := RdO.evo rfl hE611 b602_Ab2_0
        have b611_Ab2_1 := RdO.evo rfl hE611 b602_Ab2_1
        refine fl_cond e611_82 hs (fun c612 hs => ?_) (fun c612 hs => ?_)
        · refine rg0_seq 111 own611 (bz 1) [⟨[], [], [], Fct.val 4 (.bool false)⟩] hz611 hd611 (by kernel_rfl) ?_ ?_
          · refine sc (fun _ _ _ _ _ _ => px (or_assign rfl)) ?_
            exact steps_nil
          intro own613 a613 w613 hd613 hz613 hk613 hf613 hE613
          obtain ⟨(e613_4 : a613.eval (.tmp 4) = .bool false), -⟩ := hf613 [0] rfl
          have hX613 := es_ hX611 hE613
          refine fl_ret ?_
          refine hp606 _ _ _ rfl ?_
          refine hp605 _ _ _ rfl ?_
          refine hp604 _ _ _ rfl ?_
          replace hs := hz599 _ hs
          refine hp599 _ _ _ rfl ?_
          refine hp433 _ _ _ rfl ?_
          refine hp431 _ _ _ rfl ?_
          obtain rfl := osome hs
          exact hret _ _ _ _ (.inl rfl) hd613 (results1_ rfl (RVal.tmp_ e613_4)) ⟨own613, rfl, hX613⟩
        refine fl_skip ?_
        refine hn606 _ _ ?_
        refine rg0_seq 111 own611 (bz 1) [⟨[], [], [], Fct.val 9 (.int .i64 0)⟩] hz611 hd611 (by kernel_rfl) ?_ ?_
        · refine sc (fun _ _ _ _ _ _ => px (or_assign rfl)) ?_
          exact steps_nil
        intro own614 a614 w614 hd614 hz614 hk614 hf614 hE614
        have e614_2 := (hk614 2 rfl).trans e611_2
        have e614_3 := (hk614 3 rfl).trans e611_3
        have e614_8 := (hk614 8 rfl).trans e611_8
        obtain ⟨(e614_9 : a614.eval (.tmp 9) = .int .i64 0), -⟩ := hf614 [0] rfl
        have hX614 := es_ hX611 hE614
        have b614_g347 := be_ hE614 b611_g347
        have b614_Ax1_0 := RdO.evo rfl hE614 b611_Ax1_0
        have b614_Ax1_1 := RdO.evo rfl hE614 b611_Ax1_1
        have b614_g349 := be_ hE614 b611_g349
        have b614_Ab2_0 := RdO.evo rfl hE614 b611_Ab2_0
        have b614_Ab2_1 := RdO.evo rfl hE614 b611_Ab2_1
        refine fl_block (fun Q615 hn615 hx615 hp615 => ?_)
        refine fl_loop (body := (fun s => ref15_Same_b3 x1 b2 i516 s)) (z := zz599) (show loopO _ _ = _ from hs) (fun (k637 : Int) a wx => ∃ (ox : Own), a.defers = [] ∧ a.tmps.size = 111 ∧ a.eval (.tmp 2) = .pointer (some ⟨g347, 0, none⟩) ∧ a.eval (.tmp 3) = .pointer (some ⟨g349, 0, none⟩) ∧ a.eval (.tmp 8) = .int .i64 i516 ∧ a.eval (.tmp 9) = .int .i64 k637 ∧ Evo [] (fun _ => 0) ox w wx ∧ BlkO ox 348 wx g347 38 #[.slice Ax1_0 x1.1.length cx1_0, .slice Ax1_1 x1.2.length cx1_1] ∧ RdO ox [0] wx R78 Ax1_0 cx1_0 x1.1 ∧ RdO ox [0] wx R27 Ax1_1 cx1_1 x1.2 ∧ BlkO ox 350 wx g349 38 #[.slice Ab2_0 b2.1.length cb2_0, .slice Ab2_1 b2.2.length cb2_1] ∧ RdO ox [0] wx R78 Ab2_0 cb2_0 b2.1 ∧ RdO ox [0] wx R27 Ab2_1 cb2_1 b2.2) ?_ ?_
        · exact ⟨own614, hd614, hz614, e614_2, e614_3, e614_8, e614_9, hX614, b614_g347, b614_Ax1_0, b614_Ax1_1, b614_g349, b614_Ab2_0, b614_Ab2_1⟩
        · rintro k637 zz659 a659 w659 ⟨own659, hd660, hz660, e660_2, e660_3, e660_8, e660_9, hE660, b660_g347, b660_Ax1_0, b660_Ax1_1, b660_g349, b660_Ab2_0, b660_Ab2_1⟩ hs Q659 hn659 hp659 hz659
          have hs : ref15_Same_b3 x1 b2 i516 k637 = some zz659 := hs
          refine fl_seq (fun Q661 hn661 hp661 => ?_)
          obtain ⟨x662, hx662, hs⟩ := obind hs
          refine rg0_seq 111 own659 [0, 0, 2, 0, 14, 30, 62, 127] [⟨[], [9], [], Fct.val 83 (.int .i64 k637)⟩, ⟨[], [2], [], Fct.val 84 (.pointer (some ⟨g347, 1, none⟩))⟩, ⟨[1], [], [], Fct.val 85 (.slice Ax1_1 x1.2.length cx1_1)⟩, ⟨[], [8], [], Fct.val 86 (.int .i64 i516)⟩, ⟨[2, 3], [], [], Fct.val 87 (.pointer (some ((adr Ax1_1).add ((i516 : Int).toNat * R27.s))))⟩, ⟨[4], [], [], Fct.nest X27 [0] 88 (fun (y : (Option Addr × Nat)) => .slice y.1 x662.length y.2) x662⟩, ⟨[5], [], [], Fct.val 89 (.int .i64 (x662.length : Int))⟩, ⟨[0, 6], [], [], Fct.val 90 (.bool (decide (k637 < (x662.length : Int))))⟩] hz660 hd660 (by kernel_rfl) ?_ ?_
          · refine sc (fun _ _ _ _ s _ => px (or_move (s.1.trans e660_9))) ?_
            refine sc (fun _ _ _ _ s _ => px (or_field fo38_1 (s.1.trans e660_2) (by rfl))) ?_
            refine sc (fun _ _ _ f _ hE => px (or_load1 to23 f.1 (Blk.at_ (be_ hE b660_g347).2 1 rfl))) ?_
            refine sc (fun _ _ _ _ s _ => px (or_move (s.1.trans e660_8))) ?_
            refine sc (fun _ _ _ f _ _ => px (or_index (R := R27) (l := x1.2) tl23 f.1 f.2.1 (RdO.some_ b660_Ax1_1 hx662) hx662)) ?_
            refine sc (fun _ _ _ f _ hE => px (or_loadN1 X27 0 to27 f.1 (Addr.add_zero' _).symm (RdO.evo rfl hE b660_Ax1_1) hx662 (fun _ => rfl))) ?_
            refine sc (fun own a wx hf hsl hE => ?_) ?_
            · obtain ⟨⟨⟨A663, cA663⟩, f_88, b_A663⟩, -⟩ := hf
              exact px (or_len tu27 f_88 rfl)
            refine sc (fun _ _ _ f _ _ => px (or_lss f.1 f.2.1 rfl)) ?_
            exact steps_nil
          intro own664 a664 w664 hd664 hz664 hk664 hf664 hE664
          have e664_2 := (hk664 2 rfl).trans e660_2
          have e664_3 := (hk664 3 rfl).trans e660_3
          have e664_8 := (hk664 8 rfl).trans e660_8
          have e664_9 := (hk664 9 rfl).trans e660_9
          obtain ⟨(e664_90 : a664.eval (.tmp 90) = .bool (decide (k637 < (x662.length : Int)))), -⟩ := hf664 [7] rfl
          have hX664 := es_ hE660 hE664
          have b664_g347 := be_ hE664 b660_g347
          have b664_Ax1_0 := RdO.evo rfl hE664 b660_Ax1_0
          have b664_Ax1_1 := RdO.evo rfl hE664 b660_Ax1_1
          have b664_g349 := be_ hE664 b660_g349
          have b664_Ab2_0 := RdO.evo rfl hE664 b660_Ab2_0
          have b664_Ab2_1 := RdO.evo rfl hE664 b660_Ab2_1
          refine fl_cond e664_90 hs (fun c665 hs => ?_) (fun c665 hs => ?_)
          · refine fl_skip ?_
            refine hn661 _ _ ?_
            refine fl_seq (fun Q666 hn666 hp666 => ?_)
            refine fl_block (fun Q667 hn667 hx667 hp667 => ?_)
            obtain ⟨x668, hx668, hs⟩ := obind hs
            obtain ⟨x670, hx670, hs⟩ := obind hs
            obtain ⟨x672, hx672, hs⟩ := obind hs
            obtain ⟨x674, hx674, hs⟩ := obind hs
            obtain ⟨r676, hr676, hs⟩ := obind hs
            refine rg_draw_seq g_mixed (n := 111) (rs := []) (own0 := own664) (K := []) (bs := [0, 1, 0, 7, 15, 0, 63, 127, 0, 256, 0, 1792, 3840, 0, 16128, 32512, 65535, 131071]) (ds := [⟨[], [2], [], Fct.val 93 (.pointer (some ⟨g347, 1, none⟩))⟩, ⟨[0], [], [], Fct.val 94 (.slice Ax1_1 x1.2.length cx1_1)⟩, ⟨[], [8], [], Fct.val 95 (.int .i64 i516)⟩, ⟨[1, 2], [], [], Fct.val 96 (.pointer (some ((adr Ax1_1).add ((i516 : Int).toNat * R27.s))))⟩, ⟨[3], [], [], Fct.nest X27 [0] 97 (fun (y : (Option Addr × Nat)) => .slice y.1 x668.length y.2) x668⟩, ⟨[], [9], [], Fct.val 98 (.int .i64 k637)⟩, ⟨[4, 5], [], [], Fct.rel [99, 97] (fun l => ∀ (A669 : Option Addr) (cA669 : Nat), l.getD 1 undef = .slice A669 x668.length cA669 → l.getD 0 undef = .pointer (some ((adr A669).add ((k637 : Int).toNat * R28.s))))⟩, ⟨[6, 4], [], [], Fct.nest X28 [0] 100 (fun (y : (Option Addr × Nat)) => .slice y.1 x670.length y.2) x670⟩, ⟨[], [3], [], Fct.val 101 (.pointer (some ⟨g349, 1, none⟩))⟩, ⟨[8], [], [], Fct.val 102 (.slice Ab2_1 b2.2.length cb2_1)⟩, ⟨[], [8], [], Fct.val 103 (.int .i64 i516)⟩, ⟨[9, 10], [], [], Fct.val 104 (.pointer (some ((adr Ab2_1).add ((i516 : Int).toNat * R27.s))))⟩, ⟨[11], [], [], Fct.nest X27 [0] 105 (fun (y : (Option Addr × Nat)) => .slice y.1 x672.length y.2) x672⟩, ⟨[], [9], [], Fct.val 106 (.int .i64 k637)⟩, ⟨[12, 13], [], [], Fct.rel [107, 105] (fun l => ∀ (A673 : Option Addr) (cA673 : Nat), l.getD 1 undef = .slice A673 x672.length cA673 → l.getD 0 undef = .pointer (some ((adr A673).add ((k637 : Int).toNat * R28.s))))⟩, ⟨[14, 12], [], [], Fct.nest X28 [0] 108 (fun (y : (Option Addr × Nat)) => .slice y.1 x674.length y.2) x674⟩, ⟨[7, 15], [], [], Fct.val 109 (.int .i64 r676)⟩, ⟨[16], [], [], Fct.val 110 (.bool (!decide (r676 = 0)))⟩]) (by kernel_rfl) hz664 hd664 nm_ ?_ ?_
            · refine sc (fun _ _ _ _ s _ => px (or_field fo38_1 (s.1.trans e664_2) (by rfl))) ?_
              refine sc (fun _ _ _ f _ hE => px (or_load1 to23 f.1 (Blk.at_ (be_ hE b664_g347).2 1 rfl))) ?_
              refine sc (fun _ _ _ _ s _ => px (or_move (s.1.trans e664_8))) ?_
              refine sc (fun _ _ _ f _ _ => px (or_index (R := R27) (l := x1.2) tl23 f.1 f.2.1 (RdO.some_ b664_Ax1_1 hx668) hx668)) ?_
              refine sc (fun _ _ _ f _ hE => px (or_loadN1 X27 0 to27 f.1 (Addr.add_zero' _).symm (RdO.evo rfl hE b664_Ax1_1) hx668 (fun _ => rfl))) ?_
              refine sc (fun _ _ _ _ s _ => px (or_move (s.1.trans e664_9))) ?_
              refine sc (fun own a wx hf hsl hE => ?_) ?_
              · obtain ⟨⟨⟨A669, cA669⟩, (f_97 : a.eval (.tmp 97) = .slice A669 x668.length cA669), b_A669⟩, f_98, -⟩ := hf
                exact px (or_mono (f := Fct.val 99 (.pointer (some ((adr A669).add ((k637 : Int).toNat * R28.s))))) (or_index (R := R28) (l := x668) tl27 f_97 f_98 (RdO.some_ b_A669 hx670) hx670) (fun own' a' w' v' hp h => fun _ _ h0' => by cases (f_97.symm.trans ((hp.2 97 (by decide)).symm.trans h0')); exact h))
              refine sc (fun own a wx hf hsl hE => ?_) ?_
              · obtain ⟨(q_99 : ∀ (A669 : Option Addr) (cA669 : Nat), a.eval (.tmp 97) = .slice A669 x668.length cA669 → a.eval (.tmp 99) = .pointer (some ((adr A669).add ((k637 : Int).toNat * R28.s)))), ⟨⟨A669, cA669⟩, f_97, b_A669⟩, -⟩ := hf
                have f_99 := q_99 _ _ f_97
                exact px (or_loadN1 X28 0 to28 f_99 (Addr.add_zero' _).symm b_A669 hx670 (fun _ => rfl))
              refine sc (fun _ _ _ _ s _ => px (or_field fo38_1 (s.1.trans e664_3) (by rfl))) ?_
              refine sc (fun _ _ _ f _ hE => px (or_load1 to23 f.1 (Blk.at_ (be_ hE b664_g349).2 1 rfl))) ?_
              refine sc (fun _ _ _ _ s _ => px (or_move (s.1.trans e664_8))) ?_
              refine sc (fun _ _ _ f _ _ => px (or_index (R := R27) (l := b2.2) tl23 f.1 f.2.1 (RdO.some_ b664_Ab2_1 hx672) hx672)) ?_
              refine sc (fun _ _ _ f _ hE => px (or_loadN1 X27 0 to27 f.1 (Addr.add_zero' _).symm (RdO.evo rfl hE b664_Ab2_1) hx672 (fun _ => rfl))) ?_
              refine sc (fun _ _ _ _ s _ => px (or_move (s.1.trans e664_9))) ?_
              refine sc (fun own a wx hf hsl hE => ?_) ?_
              · obtain ⟨⟨⟨A673, cA673⟩, (f_105 : a.eval (.tmp 105) = .slice A673 x672.length cA673), b_A673⟩, f_106, -⟩ := hf
                exact px (or_mono (f := Fct.val 107 (.pointer (some ((adr A673).add ((k637 : Int).toNat * R28.s))))) (or_index (R := R28) (l := x672) tl27 f_105 f_106 (RdO.some_ b_A673 hx674) hx674) (fun own' a' w' v' hp h => fun _ _ h0' => by cases (f_105.symm.trans ((hp.2 105 (by decide)).symm.trans h0')); exact h))
              refine sc (fun own a wx hf hsl hE => ?_) ?_
              · obtain ⟨(q_107 : ∀ (A673 : Option Addr) (cA673 : Nat), a.eval (.tmp 105) = .slice A673 x672.length cA673 → a.eval (.tmp 107) = .pointer (some ((adr A673).add ((k637 : Int).toNat * R28.s)))), ⟨⟨A673, cA673⟩, f_105, b_A673⟩, -⟩ := hf
                have f_107 := q_107 _ _ f_105
                exact px (or_loadN1 X28 0 to28 f_107 (Addr.add_zero' _).symm b_A673 hx674 (fun _ => rfl))
              refine sc (fun own a wx hf hsl hE => ?_) ?_
              · obtain ⟨⟨⟨A671, cA671⟩, f_100, b_A671⟩, ⟨⟨A675, cA675⟩, f_108, b_A675⟩, -⟩ := hf
                exact px (or_call cf53 (args2 f_100 f_108) (ref04_Compare_w _ x670 A671 cA671 x674 A675 cA675 (RdO.zero b_A671) (RdO.zero b_A675) r676 hr676) post_val)
              refine sc (fun _ _ _ f _ _ => px (or_neq f.1 rfl rfl)) ?_
              exact steps_nil
            intro own677 a677 w677 hd677 hz677 hk677 hf677 hE677
            have e677_2 := (hk677 2 rfl).trans e664_2
            have e677_3 := (hk677 3 rfl).trans e664_3
            have e677_8 := (hk677 8 rfl).trans e664_8
            have e677_9 := (hk677 9 rfl).trans e664_9
            obtain ⟨(e677_110 : a677.eval (.tmp 110) = .bool (!decide (r676 = 0))), -⟩ := hf677 [17] rfl
            have hX677 := es_ hX664 hE677
            have b677_g347 := be_ hE677 b664_g347
            have b677_Ax1_0 := RdO.evo rfl hE677 b664_Ax1_0
            have b677_Ax1_1 := RdO.evo rfl hE677 b664_Ax1_1
            have b677_g349 := be_ hE677 b664_g349
            have b677_Ab2_0 := RdO.evo rfl hE677 b664_Ab2_0
            have b677_Ab2_1 := RdO.evo rfl hE677 b664_Ab2_1
            refine fl_cond e677_110 hs (fun c678 hs => ?_) (fun c678 hs => ?_)
            · refine rg0_seq 111 own677 (bz 1) [⟨[], [], [], Fct.val 4 (.bool false)⟩] hz677 hd677 (by kernel_rfl) ?_ ?_
              · refine sc (fun _ _ _ _ _ _ => px (or_assign rfl)) ?_
                exact steps_nil
              intro own679 a679 w679 hd679 hz679 hk679 hf679 hE679
              obtain ⟨(e679_4 : a679.eval (.tmp 4) = .bool false), -⟩ := hf679 [0] rfl
              have hX679 := es_ hX677 hE679
              refine fl_ret ?_
              refine hp667 _ _ _ rfl ?_
              refine hp666 _ _ _ rfl ?_
              replace hs := hz659 _ hs
              refine hp659 _ _ _ rfl ?_
              refine hp615 _ _ _ rfl ?_
              refine hp605 _ _ _ rfl ?_
              refine hp604 _ _ _ rfl ?_
              replace hs := hz599 _ hs
              refine hp599 _ _ _ rfl ?_
              refine hp433 _ _ _ rfl ?_
              refine hp431 _ _ _ rfl ?_
              obtain rfl := osome hs
              exact hret _ _ _ _ (.inl rfl) hd679 (results1_ rfl (RVal.tmp_ e679_4)) ⟨own679, rfl, hX679⟩
            refine fl_skip ?_
            refine hn667 _ _ ?_
            refine hn666 _ _ ?_
            refine rg0 111 own677 (bz 3) [⟨[], [9], [], Fct.val 91 (.int .i64 k637)⟩, ⟨[0], [], [], Fct.val 92 (.int .i64 (ad k637 1))⟩, ⟨[1], [], [], Fct.val 9 (.int .i64 (ad k637 1))⟩] hz677 hd677 (by kernel_rfl) ?_ ?_
            · refine sc (fun _ _ _ _ s _ => px (or_move (s.1.trans e677_9))) ?_
              refine sc (fun _ _ _ f _ _ => px (or_add f.1 rfl rfl)) ?_
              refine sc (fun _ _ _ f _ _ => px (or_assign f.1)) ?_
              exact steps_nil
            intro own680 a680 w680 hd680 hz680 hk680 hf680 hE680
            have e680_2 := (hk680 2 rfl).trans e677_2
            have e680_3 := (hk680 3 rfl).trans e677_3
            have e680_8 := (hk680 8 rfl).trans e677_8
            obtain ⟨(e680_9 : a680.eval (.tmp 9) = .int .i64 (ad k637 1)), -⟩ := hf680 [2] rfl
            have hX680 := es_ hX677 hE680
            have b680_g347 := be_ hE680 b677_g347
            have b680_Ax1_0 := RdO.evo rfl hE680 b677_Ax1_0
            have b680_Ax1_1 := RdO.evo rfl hE680 b677_Ax1_1
            have b680_g349 := be_ hE680 b677_g349
            have b680_Ab2_0 := RdO.evo rfl hE680 b677_Ab2_0
            have b680_Ab2_1 := RdO.evo rfl hE680 b677_Ab2_1
            exact hn659 _ _ _ hs ⟨own680, hd680, hz680, e680_2, e680_3, e680_8, e680_9, hX680, b680_g347, b680_Ax1_0, b680_Ax1_1, b680_g349, b680_Ab2_0, b680_Ab2_1⟩
          refine fl_exit ?_
          refine hp661 _ _ _ rfl ?_
          replace hs := hz659 _ hs
          refine hp659 _ _ _ rfl ?_
          refine hx615 _ _ ?_
          refine hn605 _ _ ?_
          refine hn604 _ _ ?_
          refine rg0 111 own664 (bz 3) [⟨[], [8], [], Fct.val 68 (.int .i64 i516)⟩, ⟨[0], [], [], Fct.val 69 (.int .i64 (ad i516 1))⟩, ⟨[1], [], [], Fct.val 8 (.int .i64 (ad i516 1))⟩] hz664 hd664 (by kernel_rfl) ?_ ?_
          · refine sc (fun _ _ _ _ s _ => px (or_move (s.1.trans e664_8))) ?_
            refine sc (fun _ _ _ f _ _ => px (or_add f.1 rfl rfl)) ?_
            refine sc (fun _ _ _ f _ _ => px (or_assign f.1)) ?_
            exact steps_nil
          intro own681 a681 w681 hd681 hz681 hk681 hf681 hE681
          have e681_2 := (hk681 2 rfl).trans e664_2
          have e681_3 := (hk681 3 rfl).trans e664_3
          obtain ⟨(e681_8 : a681.eval (.tmp 8) = .int .i64 (ad i516 1)), -⟩ := hf681 [2] rfl
          have hX681 := es_ hX664 hE681
          have b681_g347 := be_ hE681 b664_g347
          have b681_Ax1_0 := RdO.evo rfl hE681 b664_Ax1_0
          have b681_Ax1_1 := RdO.evo rfl hE681 b664_Ax1_1
          have b681_g349 := be_ hE681 b664_g349
          have b681_Ab2_0 := RdO.evo rfl hE681 b664_Ab2_0
          have b681_Ab2_1 := RdO.evo rfl hE681 b664_Ab2_1
          exact hn599 _ _ _ hs ⟨own681, hd681, hz681, e681_2, e681_3, e681_8, hX681, b681_g347, b681_Ax1_0, b681_Ax1_1, b681_g349, b681_Ab2_0, b681_Ab2_1⟩
      refine fl_exit ?_
      refine hp601 _ _ _ rfl ?_
      replace hs := hz599 _ hs
      refine hp599 _ _ _ rfl ?_
      refine hx433 _ _ ?_
      refine hn431 _ _ ?_
      refine rg0_seq 111 own602 (bz 1) [⟨[], [], [], Fct.val 4 (.bool true)⟩] hz602 hd602 (by kernel_rfl) ?_ ?_
      · refine sc (fun _ _ _ _ _ _ => px (or_assign rfl)) ?_
        exact steps_nil
      intro own682 a682 w682 hd682 hz682 hk682 hf682 hE682
      obtain ⟨(e682_4 : a682.eval (.tmp 4) = .bool true), -⟩ := hf682 [0] rfl
      have hX682 := es_ hX602 hE682
      refine fl_ret ?_
      obtain rfl := osome hs
      exact hret _ _ _ _ (.inl rfl) hd682 (results1_ rfl (RVal.tmp_ e682_4)) ⟨own682, rfl, hX682⟩
theorem law15_Same_w (w : World) (n1 : (List ((List (Int × Int)) × Int × Int)) × (List (List (List Int)))) (An1_0 : Option Addr) (cn1_0 : Nat) (An1_1 : Option Addr) (cn1_1 : Nat) (x2 : (List ((List (Int × Int)) × Int × Int)) × (List (List (List Int)))) (Ax2_0 : Option Addr) (cx2_0 : Nat) (Ax2_1 : Option Addr) (cx2_1 : Nat) (hAn1_0 : RdO (fun _ => 0) [0] w R59 An1_0 cn1_0 n1.1) (hAn1_1 : RdO (fun _ => 0) [0] w R27 An1_1 cn1_1 n1.2) (hAx2_0 : RdO (fun _ => 0) [0] w R78 Ax2_0 cx2_0 x2.1) (hAx2_1 : RdO (fun _ => 0) [0] w R27 Ax2_1 cx2_1 x2.2) (r : Bool) (hs : law15_Same n1 x2 = some r) :
    Calls Try.prog 11 #[.agg #[.slice An1_0 n1.1.length cn1_0, .slice An1_1 n1.2.length cn1_1], .agg #[.slice Ax2_0 x2.1.length cx2_0, .slice Ax2_1 x2.2.length cx2_1]] w fun e w' => ∃ own' : Own, e = .returned (.bool r) ∧ Evo [] (fun _ => 0) own' w w' := by
  refine fl_enter (n := 9) rfl rfl rfl (Nat.le_of_ble_eq_true rfl) ?_
  intro a0 Q hd0 hz0 harg hret
  have ha0 := harg 0 _ rfl
  have ha1 := harg 1 _ rfl
  clear harg
  have hE0 : Evo [] (fun _ => 0) (fun _ => 0) w w := Evo.refl _ _ _
  refine rg0_seq 9 (fun _ => 0) [0, 0, 0] [⟨[], [0], [], Fct.blk 26 2 (fun g => .pointer (some ⟨g, 0, none⟩)) 25 #[.slice An1_0 n1.1.length cn1_0, .slice An1_1 n1.2.length cn1_1]⟩, ⟨[], [1], [], Fct.blk 28 3 (fun g => .pointer (some ⟨g, 0, none⟩)) 38 #[.slice Ax2_0 x2.1.length cx2_0, .slice Ax2_1 x2.2.length cx2_1]⟩, ⟨[], [], [], Fct.val 4 (.bool false)⟩] hz0 hd0 (by kernel_rfl) ?_ ?_
  · refine sc (fun _ _ _ _ s _ => px (or_new [(0, .agg #[.slice An1_0 n1.1.length cn1_0, .slice An1_1 n1.2.length cn1_1])] rfl rfl ⟨(s.1.trans ha0), trivial⟩ (by kernel_rfl))) ?_
    refine sc (fun _ _ _ _ s _ => px (or_new [(1, .agg #[.slice Ax2_0 x2.1.length cx2_0, .slice Ax2_1 x2.2.length cx2_1])] rfl rfl ⟨(s.1.trans ha1), trivial⟩ (by kernel_rfl))) ?_
    refine sc (fun _ _ _ _ _ _ => px (or_assign rfl)) ?_
    exact steps_nil
  intro own29 a29 w29 hd29 hz29 hk29 hf29 hE29
  obtain ⟨⟨g25, (e29_2 : a29.eval (.tmp 2) = .pointer (some ⟨g25, 0, none⟩)), (b29_g25 : BlkO own29 26 w29 g25 25 #[.slice An1_0 n1.1.length cn1_0, .slice An1_1 n1.2.length cn1_1])⟩, ⟨g27, (e29_3 : a29.eval (.tmp 3) = .pointer (some ⟨g27, 0, none⟩)), (b29_g27 : BlkO own29 28 w29 g27 38 #[.slice Ax2_0 x2.1.length cx2_0, .slice Ax2_1 x2.2.length cx2_1])⟩, -⟩ := hf29 [0, 1] rfl
  have hX29 := es_ hE0 hE29
  have b29_An1_0 := RdO.evo rfl hE29 hAn1_0
  have b29_An1_1 := RdO.evo rfl hE29 hAn1_1
  have b29_Ax2_0 := RdO.evo rfl hE29 hAx2_0
  have b29_Ax2_1 := RdO.evo rfl hE29 hAx2_1
  obtain ⟨r30, hr30, hs⟩ := obind hs
  obtain ⟨r37, hr37, hs⟩ := obind hs
  refine rg_draw_seq g_mixed (n := 9) (rs := []) (own0 := own29) (K := []) (bs := [0, 1, 0, 7, 15]) (ds := [⟨[], [2], [], Fct.val 5 (.agg #[.slice An1_0 n1.1.length cn1_0, .slice An1_1 n1.2.length cn1_1])⟩, ⟨[0], [], [], Fct.mems [33, 34, 35, 0, 36] 6 (fun (x : (Option Addr × Nat) × (Option Addr × Nat)) => .agg #[.slice x.1.1 r30.1.length x.1.2, .slice x.2.1 r30.2.length x.2.2]) (fun (x : (Option Addr × Nat) × (Option Addr × Nat)) own w => RwO own 33 [34, 35, 0] w 78 R78 x.1.1 x.1.2 r30.1 ∧ RdO own [34, 36, 0] w R27 x.2.1 x.2.2 r30.2) (fun hk he h => ⟨RwO.evo (hits_sub hk (by decide)) he h.1, RdO.evo (hits_sub hk (by decide)) he h.2⟩)⟩, ⟨[], [3], [], Fct.val 7 (.agg #[.slice Ax2_0 x2.1.length cx2_0, .slice Ax2_1 x2.2.length cx2_1])⟩, ⟨[1, 2], [], [], Fct.val 8 (.bool r37)⟩, ⟨[3], [], [], Fct.val 4 (.bool r37)⟩]) (by kernel_rfl) hz29 hd29 nm_ ?_ ?_
  · refine sc (fun _ _ _ _ s hE => px (or_load (l := [.slice An1_0 n1.1.length cn1_0, .slice An1_1 n1.2.length cn1_1]) ta25 (s.1.trans e29_2) (Blk.cellsFrom (be_ hE b29_g25).2 0 rfl) rfl)) ?_
    refine sc (fun own _ _ f _ hE => px (or_call cf17 (args1 f.1) (law15_Of_w _ (forth own (inL [0])) n1 An1_0 cn1_0 An1_1 cn1_1 inL_le (RdO.alias_ (La := [0]) (RdO.evo rfl hE b29_An1_0) (by decide)) (RdO.alias_ (La := [0]) (RdO.evo rfl hE b29_An1_1) (by decide)) r30 hr30) (post_alias (La := [0]) (m' := (look0 [(1, 34), (2, 33), (3, 35), (4, 36)])) (fun own' w' a' x ho hsz h1 h => ⟨x, h1, ⟨RwO.backM_ ho h.1 (by decide) (by decide) (by decide) (by decide), RdO.backN_ ho hsz h.2 (by decide) (by decide) (by decide)⟩⟩)))) ?_
    refine sc (fun _ _ _ _ s hE => px (or_load (l := [.slice Ax2_0 x2.1.length cx2_0, .slice Ax2_1 x2.2.length cx2_1]) ta38 (s.1.trans e29_3) (Blk.cellsFrom (be_ hE b29_g27).2 0 rfl) rfl)) ?_
    refine sc (fun own a wx hf hsl hE => ?_) ?_
    · obtain ⟨⟨⟨⟨A31, cA31⟩, ⟨A32, cA32⟩⟩, f_6, b_A31, b_A32⟩, f_7, -⟩ := hf
      exact px (or_call cf28 (args2 f_6 f_7) (ref15_Same_w _ r30 A31 cA31 A32 cA32 x2 Ax2_0 cx2_0 Ax2_1 cx2_1 (RdO.zero (RwO.rd b_A31)) (RdO.zero b_A32) (RdO.zero (RdO.evo rfl hE b29_Ax2_0)) (RdO.zero (RdO.evo rfl hE b29_Ax2_1)) r37 hr37) post_val)
    refine sc (fun _ _ _ f _ _ => px (or_assign f.1)) ?_
    exact steps_nil
  intro own38 a38 w38 hd38 hz38 hk38 hf38 hE38
  obtain ⟨(e38_4 : a38.eval (.tmp 4) = .bool r37), -⟩ := hf38 [4] rfl
  have hX38 := es_ hX29 hE38
  refine fl_ret ?_
  obtain rfl := (osome hs).symm
  exact hret _ _ _ _ (.inl rfl) hd38 (results1_ rfl (RVal.tmp_ e38_4)) ⟨own38, rfl, hX38⟩
theorem law26_BlockReads_w (w : World) (b1 : List Int) (Ab1 : Option Addr) (cb1 : Nat) (hb1 : RdO (fun _ => 0) [0] w R5 Ab1 cb1 b1) (r : Bool) (hs : law26_BlockReads b1 = some r) :
    Calls Try.prog 4 #[.slice Ab1 b1.length cb1] w fun e w' => ∃ own' : Own, e = .returned (.bool r) ∧ Evo [] (fun _ => 0) own' w w' := by
  refine fl_enter (n := 87) rfl rfl rfl (Nat.le_of_ble_eq_true rfl) ?_
  intro a0 Q hd0 hz0 harg hret
  have ha0 := harg 0 _ rfl
  clear harg
  have hE0 : Evo [] (fun _ => 0) (fun _ => 0) w w := Evo.refl _ _ _
  refine rg0_seq 87 (fun _ => 0) (bz 1) [⟨[], [], [], Fct.val 2 (.bool false)⟩] hz0 hd0 (by kernel_rfl) ?_ ?_
  · refine sc (fun _ _ _ _ _ _ => px (or_assign rfl)) ?_
    exact steps_nil
  intro own104 a104 w104 hd104 hz104 hk104 hf104 hE104
  have e104_0 := (hk104 0 rfl).trans ha0
  have hX104 := es_ hE0 hE104
  have b104_Ab1 := RdO.evo rfl hE104 hb1
  obtain ⟨x105, hx105, hs⟩ := obind hs
  refine rg0_seq 87 own104 [0, 0, 2, 6, 15, 31] [⟨[], [0], [], Fct.val 13 (.slice Ab1 b1.length cb1)⟩, ⟨[], [0], [], Fct.val 14 (.slice Ab1 b1.length cb1)⟩, ⟨[1], [], [], Fct.val 15 (.int .i64 (b1.length : Int))⟩, ⟨[2], [], [], Fct.val 16 (.int .i64 (mn (b1.length : Int) 500))⟩, ⟨[0, 3], [], [], Fct.view [0] 17 R5 x105⟩, ⟨[4], [], [], Fct.rel [0, 17] (fun l => ∀ (A106 : Option Addr) (cA106 : Nat), l.getD 1 undef = .slice A106 x105.length cA106 → l.getD 0 undef = .slice A106 x105.length cA106)⟩] hz104 hd104 (by kernel_rfl) ?_ ?_
  · refine sc (fun _ _ _ _ s _ => px (or_move (s.1.trans e104_0))) ?_
    refine sc (fun _ _ _ _ s _ => px (or_move (s.1.trans e104_0))) ?_
    refine sc (fun _ _ _ f _ _ => px (or_len tu33 f.1 rfl)) ?_
    refine sc (fun _ _ _ f _ _ => px (or_min f.1 rfl)) ?_
    refine sc (fun _ _ _ f _ hE => px (or_view (R := R5) (l := b1) (L := [0]) tu33 ts5 f.1 Bnd.none_ (Bnd.some_ f.2.1) Bnd.none_ (RdO.evo rfl hE b104_Ab1) hx105 (.inl rfl) (by simp))) ?_
    refine sc (fun own a wx hf hsl hE => ?_) ?_
    · obtain ⟨⟨⟨A106, cA106⟩, (f_17 : a.eval (.tmp 17) = .slice A106 x105.length cA106), b_A106⟩, -⟩ := hf
      exact px (or_mono (f := Fct.val 0 (.slice A106 x105.length cA106)) (or_assign f_17) (fun own' a' w' v' hp h => fun _ _ h0' => by cases (f_17.symm.trans ((hp.2 17 (by decide)).symm.trans h0')); exact h))
    exact steps_nil
  intro own107 a107 w107 hd107 hz107 hk107 hf107 hE107
  obtain ⟨⟨⟨A106, cA106⟩, (f_17 : a107.eval (.tmp 17) = .slice A106 x105.length cA106), (b107_A106 : RdO own107 [0] w107 R5 A106 cA106 x105)⟩, (q_0 : ∀ (A106 : Option Addr) (cA106 : Nat), a107.eval (.tmp 17) = .slice A106 x105.length cA106 → a107.eval (.tmp 0) = .slice A106 x105.length cA106), -⟩ := hf107 [4, 5] rfl
  have e107_0 := q_0 _ _ f_17
  have hX107 := es_ hX104 hE107
  obtain ⟨r108, hr108, hs⟩ := obind hs
  refine rg_plain_seq (n := 87) (rs := []) (own0 := own107) (K := [116]) (bs := [0, 1, 3, 7, 7, 7, 0, 79, 223, 511]) (ds := [⟨[], [0], [], Fct.val 19 (.slice A106 x105.length cA106)⟩, ⟨[0], [], [], Fct.mems [111, 112, 113, 114] 20 (fun (x : (Option Addr × Nat) × (Option Addr × Nat)) => .tuple #[.agg #[.slice x.1.1 r108.1.1.length x.1.2, .slice x.2.1 r108.1.2.length x.2.2], .int .i64 r108.2.1, .int .i64 r108.2.2]) (fun (x : (Option Addr × Nat) × (Option Addr × Nat)) own w => RwO own 111 [112] w 59 R59 x.1.1 x.1.2 r108.1.1 ∧ RwO own 113 [114] w 27 R27 x.2.1 x.2.2 r108.1.2) (fun hk he h => ⟨RwO.evo (hits_sub hk (by decide)) he h.1, RwO.evo (hits_sub hk (by decide)) he h.2⟩)⟩, ⟨[1], [], [], Fct.rel [18, 20] (fun l => ∀ (A109 : Option Addr) (cA109 : Nat) (A110 : Option Addr) (cA110 : Nat), l.getD 1 undef = .tuple #[.agg #[.slice A109 r108.1.1.length cA109, .slice A110 r108.1.2.length cA110], .int .i64 r108.2.1, .int .i64 r108.2.2] → l.getD 0 undef = .tuple #[.agg #[.slice A109 r108.1.1.length cA109, .slice A110 r108.1.2.length cA110], .int .i64 r108.2.1, .int .i64 r108.2.2])⟩, ⟨[2, 1], [], [], Fct.rel [21, 20] (fun l => ∀ (A109 : Option Addr) (cA109 : Nat) (A110 : Option Addr) (cA110 : Nat), l.getD 1 undef = .tuple #[.agg #[.slice A109 r108.1.1.length cA109, .slice A110 r108.1.2.length cA110], .int .i64 r108.2.1, .int .i64 r108.2.2] → l.getD 0 undef = .agg #[.slice A109 r108.1.1.length cA109, .slice A110 r108.1.2.length cA110])⟩, ⟨[2, 1], [], [], Fct.val 22 (.int .i64 r108.2.1)⟩, ⟨[2, 1], [], [], Fct.val 23 (.int .i64 r108.2.2)⟩, ⟨[], [], [], Fct.blk 116 3 (fun g => .pointer (some ⟨g, 0, none⟩)) 25 #[.slice none 0 0, .slice none 0 0]⟩, ⟨[6, 3, 1], [], [116], Fct.by_ [117] [3, 20] (fun l own w => ∃ g115 : Nat, l.getD 0 undef = .pointer (some ⟨g115, 0, none⟩) ∧ (∀ (A109 : Option Addr) (cA109 : Nat) (A110 : Option Addr) (cA110 : Nat), l.getD 1 undef = .tuple #[.agg #[.slice A109 r108.1.1.length cA109, .slice A110 r108.1.2.length cA110], .int .i64 r108.2.1, .int .i64 r108.2.2] → BlkO own 117 w g115 25 #[.slice A109 r108.1.1.length cA109, .slice A110 r108.1.2.length cA110])) (fun hk he h => by obtain ⟨g, e, h⟩ := h; exact ⟨g, e, fun _ _ _ _ h0' => BlkO.evo (not_hit hk (by decide)) he (h _ _ _ _ h0')⟩)⟩, ⟨[4], [], [], Fct.val 4 (.int .i64 r108.2.1)⟩, ⟨[5], [], [], Fct.val 5 (.int .i64 r108.2.2)⟩]) (by kernel_rfl) hz107 hd107 nm_ ?_ ?_
  · refine sc (fun _ _ _ _ s _ => px (or_move (s.1.trans e107_0))) ?_
    refine sc (fun _ _ _ f _ hE => px (or_call cf9 (args1 f.1) (block_Read_w _ x105 A106 cA106 (RdO.zero (RdO.evo rfl hE b107_A106)) r108 hr108) (post_mems (m := (fun _ => 0)) (m' := (look0 [(1, 111), (2, 112), (3, 113), (4, 114)])) (fun _ _ => .inl rfl) (fun own' w' a' x h1 h => ⟨x, h1, ⟨RwO.back_ h.1 (by decide) (.inr (by decide)), RwO.back_ h.2 (by decide) (.inr (by decide))⟩⟩)))) ?_
    refine sc (fun own a wx hf hsl hE => ?_) ?_
    · obtain ⟨⟨⟨⟨A109, cA109⟩, ⟨A110, cA110⟩⟩, (f_20 : a.eval (.tmp 20) = .tuple #[.agg #[.slice A109 r108.1.1.length cA109, .slice A110 r108.1.2.length cA110], .int .i64 r108.2.1, .int .i64 r108.2.2]), b_A109, b_A110⟩, -⟩ := hf
      exact px (or_mono (f := Fct.val 18 (.tuple #[.agg #[.slice A109 r108.1.1.length cA109, .slice A110 r108.1.2.length cA110], .int .i64 r108.2.1, .int .i64 r108.2.2])) (or_move f_20) (fun own' a' w' v' hp h => fun _ _ _ _ h0' => by cases (f_20.symm.trans ((hp.2 20 (by decide)).symm.trans h0')); exact h))
    refine sc (fun own a wx hf hsl hE => ?_) ?_
    · obtain ⟨(q_18 : ∀ (A109 : Option Addr) (cA109 : Nat) (A110 : Option Addr) (cA110 : Nat), a.eval (.tmp 20) = .tuple #[.agg #[.slice A109 r108.1.1.length cA109, .slice A110 r108.1.2.length cA110], .int .i64 r108.2.1, .int .i64 r108.2.2] → a.eval (.tmp 18) = .tuple #[.agg #[.slice A109 r108.1.1.length cA109, .slice A110 r108.1.2.length cA110], .int .i64 r108.2.1, .int .i64 r108.2.2]), ⟨⟨⟨A109, cA109⟩, ⟨A110, cA110⟩⟩, (f_20 : a.eval (.tmp 20) = .tuple #[.agg #[.slice A109 r108.1.1.length cA109, .slice A110 r108.1.2.length cA110], .int .i64 r108.2.1, .int .i64 r108.2.2]), b_A109, b_A110⟩, -⟩ := hf
      have f_18 := q_18 _ _ _ _ f_20
      exact px (or_mono (f := Fct.val 21 (.agg #[.slice A109 r108.1.1.length cA109, .slice A110 r108.1.2.length cA110])) (or_k [(18, .tuple #[.agg #[.slice A109 r108.1.1.length cA109, .slice A110 r108.1.2.length cA110], .int .i64 r108.2.1, .int .i64 r108.2.2])] rfl rfl ⟨f_18, trivial⟩ (by kernel_rfl)) (fun own' a' w' v' hp h => fun _ _ _ _ h0' => by cases (f_20.symm.trans ((hp.2 20 (by decide)).symm.trans h0')); exact h))
    refine sc (fun own a wx hf hsl hE => ?_) ?_
    · obtain ⟨(q_18 : ∀ (A109 : Option Addr) (cA109 : Nat) (A110 : Option Addr) (cA110 : Nat), a.eval (.tmp 20) = .tuple #[.agg #[.slice A109 r108.1.1.length cA109, .slice A110 r108.1.2.length cA110], .int .i64 r108.2.1, .int .i64 r108.2.2] → a.eval (.tmp 18) = .tuple #[.agg #[.slice A109 r108.1.1.length cA109, .slice A110 r108.1.2.length cA110], .int .i64 r108.2.1, .int .i64 r108.2.2]), ⟨⟨⟨A109, cA109⟩, ⟨A110, cA110⟩⟩, f_20, b_A109, b_A110⟩, -⟩ := hf
      have f_18 := q_18 _ _ _ _ f_20
      exact px (or_k [(18, .tuple #[.agg #[.slice A109 r108.1.1.length cA109, .slice A110 r108.1.2.length cA110], .int .i64 r108.2.1, .int .i64 r108.2.2])] rfl rfl ⟨f_18, trivial⟩ (by kernel_rfl))
    refine sc (fun own a wx hf hsl hE => ?_) ?_
    · obtain ⟨(q_18 : ∀ (A109 : Option Addr) (cA109 : Nat) (A110 : Option Addr) (cA110 : Nat), a.eval (.tmp 20) = .tuple #[.agg #[.slice A109 r108.1.1.length cA109, .slice A110 r108.1.2.length cA110], .int .i64 r108.2.1, .int .i64 r108.2.2] → a.eval (.tmp 18) = .tuple #[.agg #[.slice A109 r108.1.1.length cA109, .slice A110 r108.1.2.length cA110], .int .i64 r108.2.1, .int .i64 r108.2.2]), ⟨⟨⟨A109, cA109⟩, ⟨A110, cA110⟩⟩, f_20, b_A109, b_A110⟩, -⟩ := hf
      have f_18 := q_18 _ _ _ _ f_20
      exact px (or_k [(18, .tuple #[.agg #[.slice A109 r108.1.1.length cA109, .slice A110 r108.1.2.length cA110], .int .i64 r108.2.1, .int .i64 r108.2.2])] rfl rfl ⟨f_18, trivial⟩ (by kernel_rfl))
    refine sc (fun _ _ _ _ _ _ => px (or_new [] rfl rfl trivial (by kernel_rfl))) ?_
    refine sc (fun own a wx hf hsl hE => ?_) ?_
    · obtain ⟨⟨g115, f_3, b_g115⟩, (q_21 : ∀ (A109 : Option Addr) (cA109 : Nat) (A110 : Option Addr) (cA110 : Nat), a.eval (.tmp 20) = .tuple #[.agg #[.slice A109 r108.1.1.length cA109, .slice A110 r108.1.2.length cA110], .int .i64 r108.2.1, .int .i64 r108.2.2] → a.eval (.tmp 21) = .agg #[.slice A109 r108.1.1.length cA109, .slice A110 r108.1.2.length cA110]), ⟨⟨⟨A109, cA109⟩, ⟨A110, cA110⟩⟩, (f_20 : a.eval (.tmp 20) = .tuple #[.agg #[.slice A109 r108.1.1.length cA109, .slice A110 r108.1.2.length cA110], .int .i64 r108.2.1, .int .i64 r108.2.2]), b_A109, b_A110⟩, -⟩ := hf
      have f_21 := q_21 _ _ _ _ f_20
      exact px (or_store (l := #[.slice A109 r108.1.1.length cA109, .slice A110 r108.1.2.length cA110]) (lab := 116) (lab2 := 117) ts25 f_3 f_21 b_g115 (by simp) (by kernel_rfl) (mem_of rfl) (by decide) (by kernel_rfl) (fun own' a' w' ha hb => ⟨_, (ha 3).trans f_3, fun _ _ _ _ h0' => by cases (f_20.symm.trans ((ha 20).symm.trans h0')); exact hb⟩))
    refine sc (fun _ _ _ f _ _ => px (or_assign f.1)) ?_
    refine sc (fun _ _ _ f _ _ => px (or_assign f.1)) ?_
    exact steps_nil
  intro own118 a118 w118 hd118 hz118 hk118 hf118 hE118
  have e118_0 := (hk118 0 rfl).trans e107_0
  obtain ⟨⟨⟨⟨A109, cA109⟩, ⟨A110, cA110⟩⟩, (f_20 : a118.eval (.tmp 20) = .tuple #[.agg #[.slice A109 r108.1.1.length cA109, .slice A110 r108.1.2.length cA110], .int .i64 r108.2.1, .int .i64 r108.2.2]), (b118_A109 : RwO own118 111 [112] w118 59 R59 A109 cA109 r108.1.1), (b118_A110 : RwO own118 113 [114] w118 27 R27 A110 cA110 r108.1.2)⟩, ⟨g115, (e118_3 : a118.eval (.tmp 3) = .pointer (some ⟨g115, 0, none⟩)), (bq_g115 : ∀ (A109 : Option Addr) (cA109 : Nat) (A110 : Option Addr) (cA110 : Nat), a118.eval (.tmp 20) = .tuple #[.agg #[.slice A109 r108.1.1.length cA109, .slice A110 r108.1.2.length cA110], .int .i64 r108.2.1, .int .i64 r108.2.2] → BlkO own118 117 w118 g115 25 #[.slice A109 r108.1.1.length cA109, .slice A110 r108.1.2.length cA110])⟩, (e118_4 : a118.eval (.tmp 4) = .int .i64 r108.2.1), (e118_5 : a118.eval (.tmp 5) = .int .i64 r108.2.2), -⟩ := hf118 [1, 7, 8, 9] rfl
  have b118_g115 := bq_g115 _ _ _ _ f_20
  have hX118 := es_ hX107 hE118
  have b118_A106 := RdO.evo rfl hE118 b107_A106
  obtain ⟨r119, hr119, hs⟩ := obind hs
  refine rg_plain_seq (n := 87) (rs := []) (own0 := own118) (K := [127]) (bs := [0, 1, 3, 7, 7, 7, 0, 79, 223, 511]) (ds := [⟨[], [0], [], Fct.val 25 (.slice A106 x105.length cA106)⟩, ⟨[0], [], [], Fct.mems [122, 123, 124, 125] 26 (fun (x : (Option Addr × Nat) × (Option Addr × Nat)) => .tuple #[.agg #[.slice x.1.1 r119.1.1.length x.1.2, .slice x.2.1 r119.1.2.length x.2.2], .int .i64 r119.2.1, .int .i64 r119.2.2]) (fun (x : (Option Addr × Nat) × (Option Addr × Nat)) own w => RwO own 122 [123] w 78 R78 x.1.1 x.1.2 r119.1.1 ∧ RwO own 124 [125] w 27 R27 x.2.1 x.2.2 r119.1.2) (fun hk he h => ⟨RwO.evo (hits_sub hk (by decide)) he h.1, RwO.evo (hits_sub hk (by decide)) he h.2⟩)⟩, ⟨[1], [], [], Fct.rel [24, 26] (fun l => ∀ (A120 : Option Addr) (cA120 : Nat) (A121 : Option Addr) (cA121 : Nat), l.getD 1 undef = .tuple #[.agg #[.slice A120 r119.1.1.length cA120, .slice A121 r119.1.2.length cA121], .int .i64 r119.2.1, .int .i64 r119.2.2] → l.getD 0 undef = .tuple #[.agg #[.slice A120 r119.1.1.length cA120, .slice A121 r119.1.2.length cA121], .int .i64 r119.2.1, .int .i64 r119.2.2])⟩, ⟨[2, 1], [], [], Fct.rel [27, 26] (fun l => ∀ (A120 : Option Addr) (cA120 : Nat) (A121 : Option Addr) (cA121 : Nat), l.getD 1 undef = .tuple #[.agg #[.slice A120 r119.1.1.length cA120, .slice A121 r119.1.2.length cA121], .int .i64 r119.2.1, .int .i64 r119.2.2] → l.getD 0 undef = .agg #[.slice A120 r119.1.1.length cA120, .slice A121 r119.1.2.length cA121])⟩, ⟨[2, 1], [], [], Fct.val 28 (.int .i64 r119.2.1)⟩, ⟨[2, 1], [], [], Fct.val 29 (.int .i64 r119.2.2)⟩, ⟨[], [], [], Fct.blk 127 6 (fun g => .pointer (some ⟨g, 0, none⟩)) 38 #[.slice none 0 0, .slice none 0 0]⟩, ⟨[6, 3, 1], [], [127], Fct.by_ [128] [6, 26] (fun l own w => ∃ g126 : Nat, l.getD 0 undef = .pointer (some ⟨g126, 0, none⟩) ∧ (∀ (A120 : Option Addr) (cA120 : Nat) (A121 : Option Addr) (cA121 : Nat), l.getD 1 undef = .tuple #[.agg #[.slice A120 r119.1.1.length cA120, .slice A121 r119.1.2.length cA121], .int .i64 r119.2.1, .int .i64 r119.2.2] → BlkO own 128 w g126 38 #[.slice A120 r119.1.1.length cA120, .slice A121 r119.1.2.length cA121])) (fun hk he h => by obtain ⟨g, e, h⟩ := h; exact ⟨g, e, fun _ _ _ _ h0' => BlkO.evo (not_hit hk (by decide)) he (h _ _ _ _ h0')⟩)⟩, ⟨[4], [], [], Fct.val 7 (.int .i64 r119.2.1)⟩, ⟨[5], [], [], Fct.val 8 (.int .i64 r119.2.2)⟩]) (by kernel_rfl) hz118 hd118 nm_ ?_ ?_
  · refine sc (fun _ _ _ _ s _ => px (or_move (s.1.trans e118_0))) ?_
    refine sc (fun _ _ _ f _ hE => px (or_call cf10 (args1 f.1) (ref26_Read_w _ x105 A106 cA106 (RdO.zero (RdO.evo rfl hE b118_A106)) r119 hr119) (post_mems (m := (fun _ => 0)) (m' := (look0 [(1, 122), (2, 123), (3, 124), (4, 125)])) (fun _ _ => .inl rfl) (fun own' w' a' x h1 h => ⟨x, h1, ⟨RwO.back_ h.1 (by decide) (.inr (by decide)), RwO.back_ h.2 (by decide) (.inr (by decide))⟩⟩)))) ?_
    refine sc (fun own a wx hf hsl hE => ?_) ?_
    · obtain ⟨⟨⟨⟨A120, cA120⟩, ⟨A121, cA121⟩⟩, (f_26 : a.eval (.tmp 26) = .tuple #[.agg #[.slice A120 r119.1.1.length cA120, .slice A121 r119.1.2.length cA121], .int .i64 r119.2.1, .int .i64 r119.2.2]), b_A120, b_A121⟩, -⟩ := hf
      exact px (or_mono (f := Fct.val 24 (.tuple #[.agg #[.slice A120 r119.1.1.length cA120, .slice A121 r119.1.2.length cA121], .int .i64 r119.2.1, .int .i64 r119.2.2])) (or_move f_26) (fun own' a' w' v' hp h => fun _ _ _ _ h0' => by cases (f_26.symm.trans ((hp.2 26 (by decide)).symm.trans h0')); exact h))
    refine sc (fun own a wx hf hsl hE => ?_) ?_
    · obtain ⟨(q_24 : ∀ (A120 : Option Addr) (cA120 : Nat) (A121 : Option Addr) (cA121 : Nat), a.eval (.tmp 26) = .tuple #[.agg #[.slice A120 r119.1.1.length cA120, .slice A121 r119.1.2.length cA121], .int .i64 r119.2.1, .int .i64 r119.2.2] → a.eval (.tmp 24) = .tuple #[.agg #[.slice A120 r119.1.1.length cA120, .slice A121 r119.1.2.length cA121], .int .i64 r119.2.1, .int .i64 r119.2.2]), ⟨⟨⟨A120, cA120⟩, ⟨A121, cA121⟩⟩, (f_26 : a.eval (.tmp 26) = .tuple #[.agg #[.slice A120 r119.1.1.length cA120, .slice A121 r119.1.2.length cA121], .int .i64 r119.2.1, .int .i64 r119.2.2]), b_A120, b_A121⟩, -⟩ := hf
      have f_24 := q_24 _ _ _ _ f_26
      exact px (or_mono (f := Fct.val 27 (.agg #[.slice A120 r119.1.1.length cA120, .slice A121 r119.1.2.length cA121])) (or_k [(24, .tuple #[.agg #[.slice A120 r119.1.1.length cA120, .slice A121 r119.1.2.length cA121], .int .i64 r119.2.1, .int .i64 r119.2.2])] rfl rfl ⟨f_24, trivial⟩ (by kernel_rfl)) (fun own' a' w' v' hp h => fun _ _ _ _ h0' => by cases (f_26.symm.trans ((hp.2 26 (by decide)).symm.trans h0')); exact h))
    refine sc (fun own a wx hf hsl hE => ?_) ?_
    · obtain ⟨(q_24 : ∀ (A120 : Option Addr) (cA120 : Nat) (A121 : Option Addr) (cA121 : Nat), a.eval (.tmp 26) = .tuple #[.agg #[.slice A120 r119.1.1.length cA120, .slice A121 r119.1.2.length cA121], .int .i64 r119.2.1, .int .i64 r119.2.2] → a.eval (.tmp 24) = .tuple #[.agg #[.slice A120 r119.1.1.length cA120, .slice A121 r119.1.2.length cA121], .int .i64 r119.2.1, .int .i64 r119.2.2]), ⟨⟨⟨A120, cA120⟩, ⟨A121, cA121⟩⟩, f_26, b_A120, b_A121⟩, -⟩ := hf
      have f_24 := q_24 _ _ _ _ f_26
      exact px (or_k [(24, .tuple #[.agg #[.slice A120 r119.1.1.length cA120, .slice A121 r119.1.2.length cA121], .int .i64 r119.2.1, .int .i64 r119.2.2])] rfl rfl ⟨f_24, trivial⟩ (by kernel_rfl))
    refine sc (fun own a wx hf hsl hE => ?_) ?_
    · obtain ⟨(q_24 : ∀ (A120 : Option Addr) (cA120 : Nat) (A121 : Option Addr) (cA121 : Nat), a.eval (.tmp 26) = .tuple #[.agg #[.slice A120 r119.1.1.length cA120, .slice A121 r119.1.2.length cA121], .int .i64 r119.2.1, .int .i64 r119.2.2] → a.eval (.tmp 24) = .tuple #[.agg #[.slice A120 r119.1.1.length cA120, .slice A121 r119.1.2.length cA121], .int .i64 r119.2.1, .int .i64 r119.2.2]), ⟨⟨⟨A120, cA120⟩, ⟨A121, cA121⟩⟩, f_26, b_A120, b_A121⟩, -⟩ := hf
      have f_24 := q_24 _ _ _ _ f_26
      exact px (or_k [(24, .tuple #[.agg #[.slice A120 r119.1.1.length cA120, .slice A121 r119.1.2.length cA121], .int .i64 r119.2.1, .int .i64 r119.2.2])] rfl rfl ⟨f_24, trivial⟩ (by kernel_rfl))
    refine sc (fun _ _ _ _ _ _ => px (or_new [] rfl rfl trivial (by kernel_rfl))) ?_
    refine sc (fun own a wx hf hsl hE => ?_) ?_
    · obtain ⟨⟨g126, f_6, b_g126⟩, (q_27 : ∀ (A120 : Option Addr) (cA120 : Nat) (A121 : Option Addr) (cA121 : Nat), a.eval (.tmp 26) = .tuple #[.agg #[.slice A120 r119.1.1.length cA120, .slice A121 r119.1.2.length cA121], .int .i64 r119.2.1, .int .i64 r119.2.2] → a.eval (.tmp 27) = .agg #[.slice A120 r119.1.1.length cA120, .slice A121 r119.1.2.length cA121]), ⟨⟨⟨A120, cA120⟩, ⟨A121, cA121⟩⟩, (f_26 : a.eval (.tmp 26) = .tuple #[.agg #[.slice A120 r119.1.1.length cA120, .slice A121 r119.1.2.length cA121], .int .i64 r119.2.1, .int .i64 r119.2.2]), b_A120, b_A121⟩, -⟩ := hf
      have f_27 := q_27 _ _ _ _ f_26
      exact px (or_store (l := #[.slice A120 r119.1.1.length cA120, .slice A121 r119.1.2.length cA121]) (lab := 127) (lab2 := 128) ts38 f_6 f_27 b_g126 (by simp) (by kernel_rfl) (mem_of rfl) (by decide) (by kernel_rfl) (fun own' a' w' ha hb => ⟨_, (ha 6).trans f_6, fun _ _ _ _ h0' => by cases (f_26.symm.trans ((ha 26).symm.trans h0')); exact hb⟩))
    refine sc (fun _ _ _ f _ _ => px (or_assign f.1)) ?_
    refine sc (fun _ _ _ f _ _ => px (or_assign f.1)) ?_
    exact steps_nil
  intro own129 a129 w129 hd129 hz129 hk129 hf129 hE129
  have e129_0 := (hk129 0 rfl).trans e118_0
  have e129_3 := (hk129 3 rfl).trans e118_3
  have e129_4 := (hk129 4 rfl).trans e118_4
  have e129_5 := (hk129 5 rfl).trans e118_5
  obtain ⟨⟨⟨⟨A120, cA120⟩, ⟨A121, cA121⟩⟩, (f_26 : a129.eval (.tmp 26) = .tuple #[.agg #[.slice A120 r119.1.1.length cA120, .slice A121 r119.1.2.length cA121], .int .i64 r119.2.1, .int .i64 r119.2.2]), (b129_A120 : RwO own129 122 [123] w129 78 R78 A120 cA120 r119.1.1), (b129_A121 : RwO own129 124 [125] w129 27 R27 A121 cA121 r119.1.2)⟩, ⟨g126, (e129_6 : a129.eval (.tmp 6) = .pointer (some ⟨g126, 0, none⟩)), (bq_g126 : ∀ (A120 : Option Addr) (cA120 : Nat) (A121 : Option Addr) (cA121 : Nat), a129.eval (.tmp 26) = .tuple #[.agg #[.slice A120 r119.1.1.length cA120, .slice A121 r119.1.2.length cA121], .int .i64 r119.2.1, .int .i64 r119.2.2] → BlkO own129 128 w129 g126 38 #[.slice A120 r119.1.1.length cA120, .slice A121 r119.1.2.length cA121])⟩, (e129_7 : a129.eval (.tmp 7) = .int .i64 r119.2.1), (e129_8 : a129.eval (.tmp 8) = .int .i64 r119.2.2), -⟩ := hf129 [1, 7, 8, 9] rfl
  have b129_g126 := bq_g126 _ _ _ _ f_26
  have hX129 := es_ hX118 hE129
  have b129_A106 := RdO.evo rfl hE129 b118_A106
  have b129_A109 := re_ hE129 b118_A109
  have b129_A110 := re_ hE129 b118_A110
  have b129_g115 := be_ hE129 b118_g115
  refine fl_seq (fun Q130 hn130 hp130 => ?_)
  obtain ⟨x131, hx131, hs⟩ := obind hs
  obtain ⟨r132, hr132, hs⟩ := obind hs
  refine rg0_seq 87 own129 [0, 0, 3, 7, 15, 15, 63, 127, 255, 511, 511, 2047, 4095, 8191] [⟨[], [5], [], Fct.val 30 (.int .i64 r108.2.2)⟩, ⟨[], [8], [], Fct.val 31 (.int .i64 r119.2.2)⟩, ⟨[0, 1], [], [], Fct.val 32 (.bool (!decide (r108.2.2 = r119.2.2)))⟩, ⟨[2], [], [], Fct.val 33 (.bool (!decide (r108.2.2 = r119.2.2)))⟩, ⟨[3], [4], [], Fct.cond (!(!decide (r108.2.2 = r119.2.2))) (some 34) (Fct.val 34 (.int .i64 r108.2.1))⟩, ⟨[3], [7], [], Fct.cond (!(!decide (r108.2.2 = r119.2.2))) (some 35) (Fct.val 35 (.int .i64 r119.2.1))⟩, ⟨[3, 4, 5], [], [], Fct.cond (!(!decide (r108.2.2 = r119.2.2))) (some 36) (Fct.val 36 (.bool (!decide (r108.2.1 = r119.2.1))))⟩, ⟨[3, 6], [], [], Fct.val 37 (.bool x131)⟩, ⟨[7], [], [], Fct.val 38 (.bool x131)⟩, ⟨[8], [3], [], Fct.cond (!x131) (some 39) (Fct.val 39 (.agg #[.slice A109 r108.1.1.length cA109, .slice A110 r108.1.2.length cA110]))⟩, ⟨[8], [6], [], Fct.cond (!x131) (some 40) (Fct.val 40 (.agg #[.slice A120 r119.1.1.length cA120, .slice A121 r119.1.2.length cA121]))⟩, ⟨[8, 9, 10], [], [], Fct.cond (!x131) (some 41) (Fct.val 41 (.bool r132))⟩, ⟨[8, 11], [], [], Fct.cond (!x131) (some 42) (Fct.val 42 (.bool (!r132)))⟩, ⟨[8, 12], [], [], Fct.val 43 (.bool (x131 || (!r132)))⟩] hz129 hd129 (by kernel_rfl) ?_ ?_
  · refine sc (fun _ _ _ _ s _ => px (or_move (s.1.trans e129_5))) ?_
    refine sc (fun _ _ _ _ s _ => px (or_move (s.1.trans e129_8))) ?_
    refine sc (fun _ _ _ f _ _ => px (or_neq f.1 f.2.1 rfl)) ?_
    refine sc (fun _ _ _ f _ _ => px (or_move f.1)) ?_
    refine sc (fun _ _ _ f s _ => sg_f rfl rfl rfl f.1 (fun hg => or_move (s.1.trans e129_4))) ?_
    refine sc (fun _ _ _ f s _ => sg_f rfl rfl rfl f.1 (fun hg => or_move (s.1.trans e129_7))) ?_
    refine sc (fun _ _ _ f _ _ => sg_f rfl rfl rfl f.1 (fun hg => or_neq (f.2.1.1 hg) (f.2.2.1.1 hg) rfl)) ?_
    refine sc (fun _ _ _ f _ _ => px (or_or f.1 rfl (fun hx => f.2.1.1 hx) (osome hx131).symm)) ?_
    refine sc (fun _ _ _ f _ _ => px (or_move f.1)) ?_
    refine sc (fun _ _ _ f s hE => sg_f rfl rfl rfl f.1 (fun hg => or_load (l := [.slice A109 r108.1.1.length cA109, .slice A110 r108.1.2.length cA110]) ta25 (s.1.trans e129_3) (Blk.cellsFrom (be_ hE b129_g115).2 0 rfl) rfl)) ?_
    refine sc (fun _ _ _ f s hE => sg_f rfl rfl rfl f.1 (fun hg => or_load (l := [.slice A120 r119.1.1.length cA120, .slice A121 r119.1.2.length cA121]) ta38 (s.1.trans e129_6) (Blk.cellsFrom (be_ hE b129_g126).2 0 rfl) rfl)) ?_
    refine sc (fun _ _ _ f _ hE => sg_f rfl rfl rfl f.1 (fun hg => or_call cf11 (args2 (f.2.1.1 hg) (f.2.2.1.1 hg)) (law15_Same_w _ r108.1 A109 cA109 A110 cA110 r119.1 A120 cA120 A121 cA121 (RdO.zero (RwO.rd (re_ hE b129_A109))) (RdO.zero (RwO.rd (re_ hE b129_A110))) (RdO.zero (RwO.rd (re_ hE b129_A120))) (RdO.zero (RwO.rd (re_ hE b129_A121))) r132 (gd_t hr132 hg)) post_val)) ?_
    refine sc (fun _ _ _ f _ _ => sg_f rfl rfl rfl f.1 (fun hg => or_not (f.2.1.1 hg) rfl)) ?_
    refine sc (fun _ _ _ f _ _ => px (or_or f.1 rfl (fun hx => f.2.1.1 hx) rfl)) ?_
    exact steps_nil
  intro own133 a133 w133 hd133 hz133 hk133 hf133 hE133
  have e133_0 := (hk133 0 rfl).trans e129_0
  have e133_3 := (hk133 3 rfl).trans e129_3
  have e133_5 := (hk133 5 rfl).trans e129_5
  have e133_6 := (hk133 6 rfl).trans e129_6
  have e133_7 := (hk133 7 rfl).trans e129_7
  have e133_8 := (hk133 8 rfl).trans e129_8
  obtain ⟨(e133_43 : a133.eval (.tmp 43) = .bool (x131 || (!r132))), -⟩ := hf133 [13] rfl
  have hX133 := es_ hX129 hE133
  have b133_A106 := RdO.evo rfl hE133 b129_A106
  have b133_A109 := re_ hE133 b129_A109
  have b133_A110 := re_ hE133 b129_A110
  have b133_g115 := be_ hE133 b129_g115
  have b133_A120 := re_ hE133 b129_A120
  have b133_A121 := re_ hE133 b129_A121
  have b133_g126 := be_ hE133 b129_g126
  refine fl_cond e133_43 hs (fun c134 hs => ?_) (fun c134 hs => ?_)
  · refine rg0_seq 87 own133 (bz 1) [⟨[], [], [], Fct.val 2 (.bool false)⟩] hz133 hd133 (by kernel_rfl) ?_ ?_
    · refine sc (fun _ _ _ _ _ _ => px (or_assign rfl)) ?_
      exact steps_nil
    intro own135 a135 w135 hd135 hz135 hk135 hf135 hE135
    obtain ⟨(e135_2 : a135.eval (.tmp 2) = .bool false), -⟩ := hf135 [0] rfl
    have hX135 := es_ hX133 hE135
    refine fl_ret ?_
    refine hp130 _ _ _ rfl ?_
    obtain rfl := osome hs
    exact hret _ _ _ _ (.inl rfl) hd135 (results1_ rfl (RVal.tmp_ e135_2)) ⟨own135, rfl, hX135⟩
  refine fl_skip ?_
  refine hn130 _ _ ?_
  obtain ⟨r136, hr136, hs⟩ := obind hs
  refine rg_plain_seq (n := 87) (rs := []) (own0 := own133) (K := [144]) (bs := [0, 1, 3, 7, 7, 0, 47, 127]) (ds := [⟨[], [0], [], Fct.val 45 (.slice A106 x105.length cA106)⟩, ⟨[0], [], [], Fct.mems [139, 140, 141, 142] 46 (fun (x : (Option Addr × Nat) × (Option Addr × Nat)) => .tuple #[.agg #[.slice x.1.1 r136.1.1.length x.1.2, .slice x.2.1 r136.1.2.length x.2.2], .int .i64 r136.2]) (fun (x : (Option Addr × Nat) × (Option Addr × Nat)) own w => RwO own 139 [140] w 59 R59 x.1.1 x.1.2 r136.1.1 ∧ RwO own 141 [142] w 27 R27 x.2.1 x.2.2 r136.1.2) (fun hk he h => ⟨RwO.evo (hits_sub hk (by decide)) he h.1, RwO.evo (hits_sub hk (by decide)) he h.2⟩)⟩, ⟨[1], [], [], Fct.rel [44, 46] (fun l => ∀ (A137 : Option Addr) (cA137 : Nat) (A138 : Option Addr) (cA138 : Nat), l.getD 1 undef = .tuple #[.agg #[.slice A137 r136.1.1.length cA137, .slice A138 r136.1.2.length cA138], .int .i64 r136.2] → l.getD 0 undef = .tuple #[.agg #[.slice A137 r136.1.1.length cA137, .slice A138 r136.1.2.length cA138], .int .i64 r136.2])⟩, ⟨[2, 1], [], [], Fct.rel [47, 46] (fun l => ∀ (A137 : Option Addr) (cA137 : Nat) (A138 : Option Addr) (cA138 : Nat), l.getD 1 undef = .tuple #[.agg #[.slice A137 r136.1.1.length cA137, .slice A138 r136.1.2.length cA138], .int .i64 r136.2] → l.getD 0 undef = .agg #[.slice A137 r136.1.1.length cA137, .slice A138 r136.1.2.length cA138])⟩, ⟨[2, 1], [], [], Fct.val 48 (.int .i64 r136.2)⟩, ⟨[], [], [], Fct.blk 144 9 (fun g => .pointer (some ⟨g, 0, none⟩)) 25 #[.slice none 0 0, .slice none 0 0]⟩, ⟨[5, 3, 1], [], [144], Fct.by_ [145] [9, 46] (fun l own w => ∃ g143 : Nat, l.getD 0 undef = .pointer (some ⟨g143, 0, none⟩) ∧ (∀ (A137 : Option Addr) (cA137 : Nat) (A138 : Option Addr) (cA138 : Nat), l.getD 1 undef = .tuple #[.agg #[.slice A137 r136.1.1.length cA137, .slice A138 r136.1.2.length cA138], .int .i64 r136.2] → BlkO own 145 w g143 25 #[.slice A137 r136.1.1.length cA137, .slice A138 r136.1.2.length cA138])) (fun hk he h => by obtain ⟨g, e, h⟩ := h; exact ⟨g, e, fun _ _ _ _ h0' => BlkO.evo (not_hit hk (by decide)) he (h _ _ _ _ h0')⟩)⟩, ⟨[4], [], [], Fct.val 10 (.int .i64 r136.2)⟩]) (by kernel_rfl) hz133 hd133 nm_ ?_ ?_
  · refine sc (fun _ _ _ _ s _ => px (or_move (s.1.trans e133_0))) ?_
    refine sc (fun _ _ _ f _ hE => px (or_call cf12 (args1 f.1) (block_Parse_w _ x105 A106 cA106 (RdO.zero (RdO.evo rfl hE b133_A106)) r136 hr136) (post_mems (m := (fun _ => 0)) (m' := (look0 [(1, 139), (2, 140), (3, 141), (4, 142)])) (fun _ _ => .inl rfl) (fun own' w' a' x h1 h => ⟨x, h1, ⟨RwO.back_ h.1 (by decide) (.inr (by decide)), RwO.back_ h.2 (by decide) (.inr (by decide))⟩⟩)))) ?_
    refine sc (fun own a wx hf hsl hE => ?_) ?_
    · obtain ⟨⟨⟨⟨A137, cA137⟩, ⟨A138, cA138⟩⟩, (f_46 : a.eval (.tmp 46) = .tuple #[.agg #[.slice A137 r136.1.1.length cA137, .slice A138 r136.1.2.length cA138], .int .i64 r136.2]), b_A137, b_A138⟩, -⟩ := hf
      exact px (or_mono (f := Fct.val 44 (.tuple #[.agg #[.slice A137 r136.1.1.length cA137, .slice A138 r136.1.2.length cA138], .int .i64 r136.2])) (or_move f_46) (fun own' a' w' v' hp h => fun _ _ _ _ h0' => by cases (f_46.symm.trans ((hp.2 46 (by decide)).symm.trans h0')); exact h))
    refine sc (fun own a wx hf hsl hE => ?_) ?_
    · obtain ⟨(q_44 : ∀ (A137 : Option Addr) (cA137 : Nat) (A138 : Option Addr) (cA138 : Nat), a.eval (.tmp 46) = .tuple #[.agg #[.slice A137 r136.1.1.length cA137, .slice A138 r136.1.2.length cA138], .int .i64 r136.2] → a.eval (.tmp 44) = .tuple #[.agg #[.slice A137 r136.1.1.length cA137, .slice A138 r136.1.2.length cA138], .int .i64 r136.2]), ⟨⟨⟨A137, cA137⟩, ⟨A138, cA138⟩⟩, (f_46 : a.eval (.tmp 46) = .tuple #[.agg #[.slice A137 r136.1.1.length cA137, .slice A138 r136.1.2.length cA138], .int .i64 r136.2]), b_A137, b_A138⟩, -⟩ := hf
      have f_44 := q_44 _ _ _ _ f_46
      exact px (or_mono (f := Fct.val 47 (.agg #[.slice A137 r136.1.1.length cA137, .slice A138 r136.1.2.length cA138])) (or_k [(44, .tuple #[.agg #[.slice A137 r136.1.1.length cA137, .slice A138 r136.1.2.length cA138], .int .i64 r136.2])] rfl rfl ⟨f_44, trivial⟩ (by kernel_rfl)) (fun own' a' w' v' hp h => fun _ _ _ _ h0' => by cases (f_46.symm.trans ((hp.2 46 (by decide)).symm.trans h0')); exact h))
    refine sc (fun own a wx hf hsl hE => ?_) ?_
    · obtain ⟨(q_44 : ∀ (A137 : Option Addr) (cA137 : Nat) (A138 : Option Addr) (cA138 : Nat), a.eval (.tmp 46) = .tuple #[.agg #[.slice A137 r136.1.1.length cA137, .slice A138 r136.1.2.length cA138], .int .i64 r136.2] → a.eval (.tmp 44) = .tuple #[.agg #[.slice A137 r136.1.1.length cA137, .slice A138 r136.1.2.length cA138], .int .i64 r136.2]), ⟨⟨⟨A137, cA137⟩, ⟨A138, cA138⟩⟩, f_46, b_A137, b_A138⟩, -⟩ := hf
      have f_44 := q_44 _ _ _ _ f_46
      exact px (or_k [(44, .tuple #[.agg #[.slice A137 r136.1.1.length cA137, .slice A138 r136.1.2.length cA138], .int .i64 r136.2])] rfl rfl ⟨f_44, trivial⟩ (by kernel_rfl))
    refine sc (fun _ _ _ _ _ _ => px (or_new [] rfl rfl trivial (by kernel_rfl))) ?_
    refine sc (fun own a wx hf hsl hE => ?_) ?_
    · obtain ⟨⟨g143, f_9, b_g143⟩, (q_47 : ∀ (A137 : Option Addr) (cA137 : Nat) (A138 : Option Addr) (cA138 : Nat), a.eval (.tmp 46) = .tuple #[.agg #[.slice A137 r136.1.1.length cA137, .slice A138 r136.1.2.length cA138], .int .i64 r136.2] → a.eval (.tmp 47) = .agg #[.slice A137 r136.1.1.length cA137, .slice A138 r136.1.2.length cA138]), ⟨⟨⟨A137, cA137⟩, ⟨A138, cA138⟩⟩, (f_46 : a.eval (.tmp 46) = .tuple #[.agg #[.slice A137 r136.1.1.length cA137, .slice A138 r136.1.2.length cA138], .int .i64 r136.2]), b_A137, b_A138⟩, -⟩ := hf
      have f_47 := q_47 _ _ _ _ f_46
      exact px (or_store (l := #[.slice A137 r136.1.1.length cA137, .slice A138 r136.1.2.length cA138]) (lab := 144) (lab2 := 145) ts25 f_9 f_47 b_g143 (by simp) (by kernel_rfl) (mem_of rfl) (by decide) (by kernel_rfl) (fun own' a' w' ha hb => ⟨_, (ha 9).trans f_9, fun _ _ _ _ h0' => by cases (f_46.symm.trans ((ha 46).symm.trans h0')); exact hb⟩))
    refine sc (fun _ _ _ f _ _ => px (or_assign f.1)) ?_
    exact steps_nil
  intro own146 a146 w146 hd146 hz146 hk146 hf146 hE146
  have e146_0 := (hk146 0 rfl).trans e133_0
  have e146_3 := (hk146 3 rfl).trans e133_3
  have e146_5 := (hk146 5 rfl).trans e133_5
  have e146_6 := (hk146 6 rfl).trans e133_6
  have e146_7 := (hk146 7 rfl).trans e133_7
  have e146_8 := (hk146 8 rfl).trans e133_8
  obtain ⟨⟨⟨⟨A137, cA137⟩, ⟨A138, cA138⟩⟩, (f_46 : a146.eval (.tmp 46) = .tuple #[.agg #[.slice A137 r136.1.1.length cA137, .slice A138 r136.1.2.length cA138], .int .i64 r136.2]), (b146_A137 : RwO own146 139 [140] w146 59 R59 A137 cA137 r136.1.1), (b146_A138 : RwO own146 141 [142] w146 27 R27 A138 cA138 r136.1.2)⟩, ⟨g143, (e146_9 : a146.eval (.tmp 9) = .pointer (some ⟨g143, 0, none⟩)), (bq_g143 : ∀ (A137 : Option Addr) (cA137 : Nat) (A138 : Option Addr) (cA138 : Nat), a146.eval (.tmp 46) = .tuple #[.agg #[.slice A137 r136.1.1.length cA137, .slice A138 r136.1.2.length cA138], .int .i64 r136.2] → BlkO own146 145 w146 g143 25 #[.slice A137 r136.1.1.length cA137, .slice A138 r136.1.2.length cA138])⟩, (e146_10 : a146.eval (.tmp 10) = .int .i64 r136.2), -⟩ := hf146 [1, 6, 7] rfl
  have b146_g143 := bq_g143 _ _ _ _ f_46
  have hX146 := es_ hX133 hE146
  have b146_A106 := RdO.evo rfl hE146 b133_A106
  have b146_A109 := re_ hE146 b133_A109
  have b146_A110 := re_ hE146 b133_A110
  have b146_g115 := be_ hE146 b133_g115
  have b146_A120 := re_ hE146 b133_A120
  have b146_A121 := re_ hE146 b133_A121
  have b146_g126 := be_ hE146 b133_g126
  refine fl_seq (fun Q147 hn147 hp147 => ?_)
  have K169 : ∀ (a169 : Act) (w169 : World) (own169 : Own) (x158 : List ((List (Int × Int)) × Int × Int)) (x163 : List (List (List Int))) (want166 : Int) (A156 : Option Addr) (c157 : Nat) (A161 : Option Addr) (c162 : Nat), a169.defers = [] → a169.tmps.size = 87 → a169.eval (.tmp 0) = .slice A106 x105.length cA106 → a169.eval (.tmp 3) = .pointer (some ⟨g115, 0, none⟩) → a169.eval (.tmp 5) = .int .i64 r108.2.2 → a169.eval (.tmp 6) = .pointer (some ⟨g126, 0, none⟩) → a169.eval (.tmp 7) = .int .i64 r119.2.1 → a169.eval (.tmp 8) = .int .i64 want166 → a169.eval (.tmp 9) = .pointer (some ⟨g143, 0, none⟩) → a169.eval (.tmp 10) = .int .i64 r136.2 → Evo [] (fun _ => 0) own169 w w169 → RdO own169 [0] w169 R5 A106 cA106 x105 → BlkO own169 117 w169 g115 25 #[.slice A109 r108.1.1.length cA109, .slice A110 r108.1.2.length cA110] → RwO own169 111 [153] w169 59 R59 A109 cA109 r108.1.1 → RwO own169 113 [154] w169 27 R27 A110 cA110 r108.1.2 → BlkO own169 155 w169 g126 38 #[.slice A156 x158.length c157, .slice A161 x163.length c162] → RwO own169 159 [160] w169 78 R78 A156 c157 x158 → RwO own169 164 [165] w169 27 R27 A161 c162 x163 → BlkO own169 145 w169 g143 25 #[.slice A137 r136.1.1.length cA137, .slice A138 r136.1.2.length cA138] → RwO own169 139 [167] w169 59 R59 A137 cA137 r136.1.1 → RwO own169 141 [168] w169 27 R27 A138 cA138 r136.1.2 → law26_BlockReads_k1 x105 r108 r119 r136 x158 x163 want166 = some r → Q147 .normal a169 w169 := by
    intro a169 w169 own169 x158 x163 want166 A156 c157 A161 c162 hd170 hz170 e170_0 e170_3 e170_5 e170_6 e170_7 e170_8 e170_9 e170_10 hE170 b170_A106 b170_g115 b170_A109 b170_A110 b170_g126 b170_A156 b170_A161 b170_g143 b170_A137 b170_A138 hs
    refine hn147 _ _ ?_
    refine fl_seq (fun Q171 hn171 hp171 => ?_)
    obtain ⟨r172, hr172, hs⟩ := obind hs
    obtain ⟨x173, hx173, hs⟩ := obind hs
    refine rg0_seq 87 own169 [0, 0, 3, 7, 15, 15, 63, 127, 255] [⟨[], [10], [], Fct.val 58 (.int .i64 r136.2)⟩, ⟨[], [8], [], Fct.val 59 (.int .i64 want166)⟩, ⟨[0, 1], [], [], Fct.val 60 (.bool (!decide (r136.2 = want166)))⟩, ⟨[2], [], [], Fct.val 61 (.bool (!decide (r136.2 = want166)))⟩, ⟨[3], [9], [], Fct.cond (!(!decide (r136.2 = want166))) (some 62) (Fct.val 62 (.agg #[.slice A137 r136.1.1.length cA137, .slice A138 r136.1.2.length cA138]))⟩, ⟨[3], [6], [], Fct.cond (!(!decide (r136.2 = want166))) (some 63) (Fct.val 63 (.agg #[.slice A156 x158.length c157, .slice A161 x163.length c162]))⟩, ⟨[3, 4, 5], [], [], Fct.cond (!(!decide (r136.2 = want166))) (some 64) (Fct.val 64 (.bool r172))⟩, ⟨[3, 6], [], [], Fct.cond (!(!decide (r136.2 = want166))) (some 65) (Fct.val 65 (.bool (!r172)))⟩, ⟨[3, 7], [], [], Fct.val 66 (.bool x173)⟩] hz170 hd170 (by kernel_rfl) ?_ ?_
    · refine sc (fun _ _ _ _ s _ => px (or_move (s.1.trans e170_10))) ?_
      refine sc (fun _ _ _ _ s _ => px (or_move (s.1.trans e170_8))) ?_
      refine sc (fun _ _ _ f _ _ => px (or_neq f.1 f.2.1 rfl)) ?_
      refine sc (fun _ _ _ f _ _ => px (or_move f.1)) ?_
      refine sc (fun _ _ _ f s hE => sg_f rfl rfl rfl f.1 (fun hg => or_load (l := [.slice A137 r136.1.1.length cA137, .slice A138 r136.1.2.length cA138]) ta25 (s.1.trans e170_9) (Blk.cellsFrom (be_ hE b170_g143).2 0 rfl) rfl)) ?_
      refine sc (fun _ _ _ f s hE => sg_f rfl rfl rfl f.1 (fun hg => or_load (l := [.slice A156 x158.length c157, .slice A161 x163.length c162]) ta38 (s.1.trans e170_6) (Blk.cellsFrom (be_ hE b170_g126).2 0 rfl) rfl)) ?_
      refine sc (fun _ _ _ f _ hE => sg_f rfl rfl rfl f.1 (fun hg => or_call cf11 (args2 (f.2.1.1 hg) (f.2.2.1.1 hg)) (law15_Same_w _ r136.1 A137 cA137 A138 cA138 (x158, x163) A156 c157 A161 c162 (RdO.zero (RwO.rd (re_ hE b170_A137))) (RdO.zero (RwO.rd (re_ hE b170_A138))) (RdO.zero (RwO.rd (re_ hE b170_A156))) (RdO.zero (RwO.rd (re_ hE b170_A161))) r172 (gd_t hr172 hg)) post_val)) ?_
      refine sc (fun _ _ _ f _ _ => sg_f rfl rfl rfl f.1 (fun hg => or_not (f.2.1.1 hg) rfl)) ?_
      refine sc (fun _ _ _ f _ _ => px (or_or f.1 rfl (fun hx => f.2.1.1 hx) (osome hx173).symm)) ?_
      exact steps_nil
    intro own174 a174 w174 hd174 hz174 hk174 hf174 hE174
    have e174_0 := (hk174 0 rfl).trans e170_0
    have e174_3 := (hk174 3 rfl).trans e170_3
    have e174_5 := (hk174 5 rfl).trans e170_5
    have e174_7 := (hk174 7 rfl).trans e170_7
    obtain ⟨(e174_66 : a174.eval (.tmp 66) = .bool x173), -⟩ := hf174 [8] rfl
    have hX174 := es_ hE170 hE174
    have b174_A106 := RdO.evo rfl hE174 b170_A106
    have b174_g115 := be_ hE174 b170_g115
    have b174_A109 := re_ hE174 b170_A109
    have b174_A110 := re_ hE174 b170_A110
    refine fl_cond e174_66 hs (fun c175 hs => ?_) (fun c175 hs => ?_)
    · refine rg0_seq 87 own174 (bz 1) [⟨[], [], [], Fct.val 2 (.bool false)⟩] hz174 hd174 (by kernel_rfl) ?_ ?_
      · refine sc (fun _ _ _ _ _ _ => px (or_assign rfl)) ?_
        exact steps_nil
      intro own176 a176 w176 hd176 hz176 hk176 hf176 hE176
      obtain ⟨(e176_2 : a176.eval (.tmp 2) = .bool false), -⟩ := hf176 [0] rfl
      have hX176 := es_ hX174 hE176
      refine fl_ret ?_
      refine hp171 _ _ _ rfl ?_
      obtain rfl := osome hs
      exact hret _ _ _ _ (.inl rfl) hd176 (results1_ rfl (RVal.tmp_ e176_2)) ⟨own176, rfl, hX176⟩
    refine fl_skip ?_
    refine hn171 _ _ ?_
    refine fl_seq (fun Q177 hn177 hp177 => ?_)
    refine rg0_seq 87 own174 (bz 2) [⟨[], [5], [], Fct.val 67 (.int .i64 r108.2.2)⟩, ⟨[0], [], [], Fct.val 68 (.bool (!decide (r108.2.2 = 0)))⟩] hz174 hd174 (by kernel_rfl) ?_ ?_
    · refine sc (fun _ _ _ _ s _ => px (or_move (s.1.trans e174_5))) ?_
      refine sc (fun _ _ _ f _ _ => px (or_neq f.1 rfl rfl)) ?_
      exact steps_nil
    intro own178 a178 w178 hd178 hz178 hk178 hf178 hE178
    have e178_0 := (hk178 0 rfl).trans e174_0
    have e178_3 := (hk178 3 rfl).trans e174_3
    have e178_7 := (hk178 7 rfl).trans e174_7
    obtain ⟨(e178_68 : a178.eval (.tmp 68) = .bool (!decide (r108.2.2 = 0))), -⟩ := hf178 [1] rfl
    have hX178 := es_ hX174 hE178
    have b178_A106 := RdO.evo rfl hE178 b174_A106
    have b178_g115 := be_ hE178 b174_g115
    have b178_A109 := re_ hE178 b174_A109
    have b178_A110 := re_ hE178 b174_A110
    refine fl_cond e178_68 hs (fun c179 hs => ?_) (fun c179 hs => ?_)
    · obtain ⟨r180, hr180, hs⟩ := obind hs
      refine rg0_seq 87 own178 (bz 2) [⟨[], [], [], Fct.val 69 (.bool r180)⟩, ⟨[0], [], [], Fct.val 2 (.bool r180)⟩] hz178 hd178 (by kernel_rfl) ?_ ?_
      · refine sc (fun _ _ _ _ _ _ => px (or_call cf7 (args0) (law26_known_w _   r180 hr180) post_val)) ?_
        refine sc (fun _ _ _ f _ _ => px (or_assign f.1)) ?_
        exact steps_nil
      intro own181 a181 w181 hd181 hz181 hk181 hf181 hE181
      obtain ⟨(e181_2 : a181.eval (.tmp 2) = .bool r180), -⟩ := hf181 [1] rfl
      have hX181 := es_ hX178 hE181
      refine fl_ret ?_
      refine hp177 _ _ _ rfl ?_
      obtain rfl := (osome hs).symm
      exact hret _ _ _ _ (.inl rfl) hd181 (results1_ rfl (RVal.tmp_ e181_2)) ⟨own181, rfl, hX181⟩
    refine fl_skip ?_
    refine hn177 _ _ ?_
    obtain ⟨r182, hr182, hs⟩ := obind hs
    refine rg0_seq 87 own178 [0, 1, 3, 7, 7, 15, 63] [⟨[], [3], [], Fct.val 71 (.agg #[.slice A109 r108.1.1.length cA109, .slice A110 r108.1.2.length cA110])⟩, ⟨[0], [], [], Fct.mems [184] 72 (fun (x : Option Addr × Nat) => .tuple #[.slice x.1 r182.1.length x.2, .int .i64 r182.2]) (fun (x : Option Addr × Nat) own w => RwO own 184 [] w 5 R5 x.1 x.2 r182.1) (fun hk he h => RwO.evo (hits_sub hk (by decide)) he h)⟩, ⟨[1], [], [], Fct.rel [70, 72] (fun l => ∀ (A183 : Option Addr) (cA183 : Nat), l.getD 1 undef = .tuple #[.slice A183 r182.1.length cA183, .int .i64 r182.2] → l.getD 0 undef = .tuple #[.slice A183 r182.1.length cA183, .int .i64 r182.2])⟩, ⟨[2, 1], [], [], Fct.rel [73, 72] (fun l => ∀ (A183 : Option Addr) (cA183 : Nat), l.getD 1 undef = .tuple #[.slice A183 r182.1.length cA183, .int .i64 r182.2] → l.getD 0 undef = .slice A183 r182.1.length cA183)⟩, ⟨[2, 1], [], [], Fct.val 74 (.int .i64 r182.2)⟩, ⟨[3, 1], [], [], Fct.rel [11, 72] (fun l => ∀ (A183 : Option Addr) (cA183 : Nat), l.getD 1 undef = .tuple #[.slice A183 r182.1.length cA183, .int .i64 r182.2] → l.getD 0 undef = .slice A183 r182.1.length cA183)⟩, ⟨[4], [], [], Fct.val 12 (.int .i64 r182.2)⟩] hz178 hd178 (by kernel_rfl) ?_ ?_
    · refine sc (fun _ _ _ _ s hE => px (or_load (l := [.slice A109 r108.1.1.length cA109, .slice A110 r108.1.2.length cA110]) ta25 (s.1.trans e178_3) (Blk.cellsFrom (be_ hE b178_g115).2 0 rfl) rfl)) ?_
      refine sc (fun _ _ _ f _ hE => px (or_call cf13 (args1 f.1) (block_Bytes_w _ r108.1 A109 cA109 A110 cA110 (RdO.zero (RwO.rd (re_ hE b178_A109))) (RdO.zero (RwO.rd (re_ hE b178_A110))) r182 hr182) (post_mems (m := (fun _ => 0)) (m' := (look0 [(1, 184)])) (fun _ _ => .inl rfl) (fun own' w' a' x h1 h => ⟨x, h1, RwO.back_ h (by decide) (.inl (Rep.fl_flat _))⟩)))) ?_
      refine sc (fun own a wx hf hsl hE => ?_) ?_
      · obtain ⟨⟨⟨A183, cA183⟩, (f_72 : a.eval (.tmp 72) = .tuple #[.slice A183 r182.1.length cA183, .int .i64 r182.2]), b_A183⟩, -⟩ := hf
        exact px (or_mono (f := Fct.val 70 (.tuple #[.slice A183 r182.1.length cA183, .int .i64 r182.2])) (or_move f_72) (fun own' a' w' v' hp h => fun _ _ h0' => by cases (f_72.symm.trans ((hp.2 72 (by decide)).symm.trans h0')); exact h))
      refine sc (fun own a wx hf hsl hE => ?_) ?_
      · obtain ⟨(q_70 : ∀ (A183 : Option Addr) (cA183 : Nat), a.eval (.tmp 72) = .tuple #[.slice A183 r182.1.length cA183, .int .i64 r182.2] → a.eval (.tmp 70) = .tuple #[.slice A183 r182.1.length cA183, .int .i64 r182.2]), ⟨⟨A183, cA183⟩, (f_72 : a.eval (.tmp 72) = .tuple #[.slice A183 r182.1.length cA183, .int .i64 r182.2]), b_A183⟩, -⟩ := hf
        have f_70 := q_70 _ _ f_72
        exact px (or_mono (f := Fct.val 73 (.slice A183 r182.1.length cA183)) (or_k [(70, .tuple #[.slice A183 r182.1.length cA183, .int .i64 r182.2])] rfl rfl ⟨f_70, trivial⟩ (by kernel_rfl)) (fun own' a' w' v' hp h => fun _ _ h0' => by cases (f_72.symm.trans ((hp.2 72 (by decide)).symm.trans h0')); exact h))
      refine sc (fun own a wx hf hsl hE => ?_) ?_
      · obtain ⟨(q_70 : ∀ (A183 : Option Addr) (cA183 : Nat), a.eval (.tmp 72) = .tuple #[.slice A183 r182.1.length cA183, .int .i64 r182.2] → a.eval (.tmp 70) = .tuple #[.slice A183 r182.1.length cA183, .int .i64 r182.2]), ⟨⟨A183, cA183⟩, f_72, b_A183⟩, -⟩ := hf
        have f_70 := q_70 _ _ f_72
        exact px (or_k [(70, .tuple #[.slice A183 r182.1.length cA183, .int .i64 r182.2])] rfl rfl ⟨f_70, trivial⟩ (by kernel_rfl))
      refine sc (fun own a wx hf hsl hE => ?_) ?_
      · obtain ⟨(q_73 : ∀ (A183 : Option Addr) (cA183 : Nat), a.eval (.tmp 72) = .tuple #[.slice A183 r182.1.length cA183, .int .i64 r182.2] → a.eval (.tmp 73) = .slice A183 r182.1.length cA183), ⟨⟨A183, cA183⟩, (f_72 : a.eval (.tmp 72) = .tuple #[.slice A183 r182.1.length cA183, .int .i64 r182.2]), b_A183⟩, -⟩ := hf
        have f_73 := q_73 _ _ f_72
        exact px (or_mono (f := Fct.val 11 (.slice A183 r182.1.length cA183)) (or_assign f_73) (fun own' a' w' v' hp h => fun _ _ h0' => by cases (f_72.symm.trans ((hp.2 72 (by decide)).symm.trans h0')); exact h))
      refine sc (fun _ _ _ f _ _ => px (or_assign f.1)) ?_
      exact steps_nil
    intro own185 a185 w185 hd185 hz185 hk185 hf185 hE185
    have e185_0 := (hk185 0 rfl).trans e178_0
    have e185_7 := (hk185 7 rfl).trans e178_7
    obtain ⟨⟨⟨A183, cA183⟩, (f_72 : a185.eval (.tmp 72) = .tuple #[.slice A183 r182.1.length cA183, .int .i64 r182.2]), (b185_A183 : RwO own185 184 [] w185 5 R5 A183 cA183 r182.1)⟩, (q_11 : ∀ (A183 : Option Addr) (cA183 : Nat), a185.eval (.tmp 72) = .tuple #[.slice A183 r182.1.length cA183, .int .i64 r182.2] → a185.eval (.tmp 11) = .slice A183 r182.1.length cA183), (e185_12 : a185.eval (.tmp 12) = .int .i64 r182.2), -⟩ := hf185 [1, 5, 6] rfl
    have e185_11 := q_11 _ _ f_72
    have hX185 := es_ hX178 hE185
    have b185_A106 := RdO.evo rfl hE185 b178_A106
    obtain ⟨r186, hr186, hs⟩ := obind hs
    obtain ⟨x187, hx187, hs⟩ := obind hs
    obtain ⟨r189, hr189, hs⟩ := obind hs
    obtain ⟨x190, hx190, hs⟩ := obind hs
    refine rg0_seq 87 own185 [0, 1, 3, 7, 15, 31, 63, 63, 63, 447, 1023, 2047, 4095] [⟨[], [], [], Fct.val 75 (.bool r186)⟩, ⟨[0], [], [], Fct.val 76 (.bool r186)⟩, ⟨[1], [12], [], Fct.cond r186 (some 77) (Fct.val 77 (.int .i64 r182.2))⟩, ⟨[1, 2], [], [], Fct.cond r186 (some 78) (Fct.val 78 (.bool (decide (r182.2 = 0))))⟩, ⟨[1, 3], [], [], Fct.val 79 (.bool (r186 && (decide (r182.2 = 0))))⟩, ⟨[4], [], [], Fct.val 80 (.bool (r186 && (decide (r182.2 = 0))))⟩, ⟨[5], [11], [], Fct.cond (r186 && (decide (r182.2 = 0))) (some 81) (Fct.val 81 (.slice A183 r182.1.length cA183))⟩, ⟨[5], [0], [], Fct.cond (r186 && (decide (r182.2 = 0))) (some 82) (Fct.val 82 (.slice A106 x105.length cA106))⟩, ⟨[5], [7], [], Fct.cond (r186 && (decide (r182.2 = 0))) (some 83) (Fct.val 83 (.int .i64 r119.2.1))⟩, ⟨[5, 7, 8], [], [], Fct.cond (r186 && (decide (r182.2 = 0))) (some 84) (Fct.view [0] 84 R5 x187)⟩, ⟨[5, 6, 9], [], [], Fct.cond (r186 && (decide (r182.2 = 0))) (some 85) (Fct.val 85 (.bool r189))⟩, ⟨[5, 10], [], [], Fct.val 86 (.bool x190)⟩, ⟨[11], [], [], Fct.val 2 (.bool x190)⟩] hz185 hd185 (by kernel_rfl) ?_ ?_
    · refine sc (fun _ _ _ _ _ _ => px (or_call cf7 (args0) (law26_known_w _   r186 hr186) post_val)) ?_
      refine sc (fun _ _ _ f _ _ => px (or_move f.1)) ?_
      refine sc (fun _ _ _ f s _ => sg_t rfl rfl rfl f.1 (fun hg => or_move (s.1.trans e185_12))) ?_
      refine sc (fun _ _ _ f _ _ => sg_t rfl rfl rfl f.1 (fun hg => or_eql (f.2.1.1 hg) rfl rfl)) ?_
      refine sc (fun _ _ _ f _ _ => px (or_and f.1 (fun hx => f.2.1.1 hx) rfl rfl)) ?_
      refine sc (fun _ _ _ f _ _ => px (or_move f.1)) ?_
      refine sc (fun _ _ _ f s _ => sg_t rfl rfl rfl f.1 (fun hg => or_move (s.1.trans e185_11))) ?_
      refine sc (fun _ _ _ f s _ => sg_t rfl rfl rfl f.1 (fun hg => or_move (s.1.trans e185_0))) ?_
      refine sc (fun _ _ _ f s _ => sg_t rfl rfl rfl f.1 (fun hg => or_move (s.1.trans e185_7))) ?_
      refine sc (fun _ _ _ f _ hE => sg_t rfl rfl rfl f.1 (fun hg => or_view (R := R5) (l := x105) (L := [0]) tu33 ts5 (f.2.1.1 hg) Bnd.none_ (Bnd.some_ (f.2.2.1.1 hg)) Bnd.none_ (RdO.evo rfl hE b185_A106) (gd_t hx187 hg) (.inl rfl) (by simp))) ?_
      refine sc (fun own a wx hf hsl hE => ?_) ?_
      · obtain ⟨f_80, c_81, c_84, -⟩ := hf
        refine sg_t rfl rfl rfl f_80 (fun hg => ?_)
        have f_81 := c_81.1 hg
        obtain ⟨⟨A188, cA188⟩, f_84, b_A188⟩ := c_84.1 hg
        exact or_call cf14 (args2 f_81 f_84) (ref07_Same_w _ r182.1 A183 cA183 x187 A188 cA188 (RdO.zero (RwO.rd (re_ hE b185_A183))) (RdO.zero b_A188) r189 (gd_t hr189 hg)) post_val
      refine sc (fun _ _ _ f _ _ => px (or_and f.1 (fun hx => f.2.1.1 hx) rfl (osome hx190).symm)) ?_
      refine sc (fun _ _ _ f _ _ => px (or_assign f.1)) ?_
      exact steps_nil
    intro own191 a191 w191 hd191 hz191 hk191 hf191 hE191
    obtain ⟨(e191_2 : a191.eval (.tmp 2) = .bool x190), -⟩ := hf191 [12] rfl
    have hX191 := es_ hX185 hE191
    refine fl_ret ?_
    obtain rfl := (osome hs).symm
    exact hret _ _ _ _ (.inl rfl) hd191 (results1_ rfl (RVal.tmp_ e191_2)) ⟨own191, rfl, hX191⟩
  obtain ⟨x192, hx192, hs⟩ := obind hs
  refine rg0_seq 87 own146 [0, 1, 3, 7, 7, 23, 63, 127] [⟨[], [8], [], Fct.val 49 (.int .i64 r119.2.2)⟩, ⟨[0], [], [], Fct.val 50 (.bool (decide (r119.2.2 = 0)))⟩, ⟨[1], [], [], Fct.val 51 (.bool (decide (r119.2.2 = 0)))⟩, ⟨[2], [7], [], Fct.cond (decide (r119.2.2 = 0)) (some 52) (Fct.val 52 (.int .i64 r119.2.1))⟩, ⟨[2], [0], [], Fct.cond (decide (r119.2.2 = 0)) (some 53) (Fct.val 53 (.slice A106 x105.length cA106))⟩, ⟨[2, 4], [], [], Fct.cond (decide (r119.2.2 = 0)) (some 54) (Fct.val 54 (.int .i64 (x105.length : Int)))⟩, ⟨[2, 3, 5], [], [], Fct.cond (decide (r119.2.2 = 0)) (some 55) (Fct.val 55 (.bool (decide (r119.2.1 < (x105.length : Int)))))⟩, ⟨[2, 6], [], [], Fct.val 56 (.bool x192)⟩] hz146 hd146 (by kernel_rfl) ?_ ?_
  · refine sc (fun _ _ _ _ s _ => px (or_move (s.1.trans e146_8))) ?_
    refine sc (fun _ _ _ f _ _ => px (or_eql f.1 rfl rfl)) ?_
    refine sc (fun _ _ _ f _ _ => px (or_move f.1)) ?_
    refine sc (fun _ _ _ f s _ => sg_t rfl rfl rfl f.1 (fun hg => or_move (s.1.trans e146_7))) ?_
    refine sc (fun _ _ _ f s _ => sg_t rfl rfl rfl f.1 (fun hg => or_move (s.1.trans e146_0))) ?_
    refine sc (fun _ _ _ f _ _ => sg_t rfl rfl rfl f.1 (fun hg => or_len tu33 (f.2.1.1 hg) rfl)) ?_
    refine sc (fun _ _ _ f _ _ => sg_t rfl rfl rfl f.1 (fun hg => or_lss (f.2.1.1 hg) (f.2.2.1.1 hg) rfl)) ?_
    refine sc (fun _ _ _ f _ _ => px (or_and f.1 (fun hx => f.2.1.1 hx) rfl (osome hx192).symm)) ?_
    exact steps_nil
  intro own193 a193 w193 hd193 hz193 hk193 hf193 hE193
  have e193_0 := (hk193 0 rfl).trans e146_0
  have e193_3 := (hk193 3 rfl).trans e146_3
  have e193_5 := (hk193 5 rfl).trans e146_5
  have e193_6 := (hk193 6 rfl).trans e146_6
  have e193_7 := (hk193 7 rfl).trans e146_7
  have e193_8 := (hk193 8 rfl).trans e146_8
  have e193_9 := (hk193 9 rfl).trans e146_9
  have e193_10 := (hk193 10 rfl).trans e146_10
  obtain ⟨(e193_56 : a193.eval (.tmp 56) = .bool x192), -⟩ := hf193 [7] rfl
  have hX193 := es_ hX146 hE193
  have b193_A106 := RdO.evo rfl hE193 b146_A106
  have b193_A109 := re_ hE193 b146_A109
  have b193_A110 := re_ hE193 b146_A110
  have b193_g115 := be_ hE193 b146_g115
  have b193_A120 := re_ hE193 b146_A120
  have b193_A121 := re_ hE193 b146_A121
  have b193_g126 := be_ hE193 b146_g126
  have b193_A137 := re_ hE193 b146_A137
  have b193_A138 := re_ hE193 b146_A138
  have b193_g143 := be_ hE193 b146_g143
  refine fl_cond e193_56 hs (fun c194 hs => ?_) (fun c194 hs => ?_)
  · refine rg_plain (n := 87) (rs := [Fct.at_ 128 g126 38 #[.slice A120 r119.1.1.length cA120, .slice A121 r119.1.2.length cA121]]) (own0 := own193) (K := [128]) (bs := [0, 0, 3]) (ds := [⟨[], [], [], Fct.val 57 (.agg #[.slice none 0 0, .slice none 0 0])⟩, ⟨[], [], [], Fct.val 8 (.int .i64 3)⟩, ⟨[0, 3], [6], [128], Fct.at_ 195 g126 38 #[.slice none 0 0, .slice none 0 0]⟩]) (by kernel_rfl) hz193 hd193 (by simp only [List.forall_mem_cons]; exact ⟨b193_g126, fun _ h => nomatch h⟩) ?_ ?_
    · refine sc (fun _ _ _ _ _ _ => px (or_k [] rfl rfl trivial (by kernel_rfl))) ?_
      refine sc (fun _ _ _ _ _ _ => px (or_assign rfl)) ?_
      refine sc (fun own a wx hf hsl hE => ?_) ?_
      · obtain ⟨f_57, b_g126, -⟩ := hf
        obtain ⟨s_6, -⟩ := hsl
        exact px (or_store (l := #[.slice none 0 0, .slice none 0 0]) (lab := 128) (lab2 := 195) ts38 (s_6.trans e193_6) f_57 b_g126 (by simp) (by kernel_rfl) (mem_of rfl) (by decide) (by kernel_rfl) (fun own' a' w' ha hb => hb))
      exact steps_nil
    intro own196 a196 w196 hd196 hz196 hk196 hf196 hE196
    have e196_0 := (hk196 0 rfl).trans e193_0
    have e196_3 := (hk196 3 rfl).trans e193_3
    have e196_5 := (hk196 5 rfl).trans e193_5
    have e196_6 := (hk196 6 rfl).trans e193_6
    have e196_7 := (hk196 7 rfl).trans e193_7
    have e196_9 := (hk196 9 rfl).trans e193_9
    have e196_10 := (hk196 10 rfl).trans e193_10
    obtain ⟨(e196_8 : a196.eval (.tmp 8) = .int .i64 3), (b196_g126 : BlkO own196 195 w196 g126 38 #[.slice none 0 0, .slice none 0 0]), -⟩ := hf196 [1, 2] rfl
    have hX196 := es_ hX193 hE196
    have b196_A106 := RdO.evo rfl hE196 b193_A106
    have b196_A109 := re_ hE196 b193_A109
    have b196_A110 := re_ hE196 b193_A110
    have b196_g115 := be_ hE196 b193_g115
    have b196_A137 := re_ hE196 b193_A137
    have b196_A138 := re_ hE196 b193_A138
    have b196_g143 := be_ hE196 b193_g143
    exact (K169 _ _ (rl [(112, 153), (114, 154), (140, 167), (142, 168), (195, 155)] own196) ([] : List ((List (Int × Int)) × Int × Int)) ([] : List (List (List Int))) _ none 0 none 0 hd196 hz196 e196_0 e196_3 e196_5 e196_6 e196_7 e196_8 e196_9 e196_10 (Evo.rl_ hX196 (fun _ => Nat.le_refl 0) rfl) (RdO.rl_ (mm := [(112, 153), (114, 154), (140, 167), (142, 168), (195, 155)]) b196_A106) (BlkO.rl_ (mm := [(112, 153), (114, 154), (140, 167), (142, 168), (195, 155)]) b196_g115) (RwO.rl_ (mm := [(112, 153), (114, 154), (140, 167), (142, 168), (195, 155)]) b196_A109) (RwO.rl_ (mm := [(112, 153), (114, 154), (140, 167), (142, 168), (195, 155)]) b196_A110) (BlkO.rl_ (mm := [(112, 153), (114, 154), (140, 167), (142, 168), (195, 155)]) b196_g126) RwO.nil_ RwO.nil_ (BlkO.rl_ (mm := [(112, 153), (114, 154), (140, 167), (142, 168), (195, 155)]) b196_g143) (RwO.rl_ (mm := [(112, 153), (114, 154), (140, 167), (142, 168), (195, 155)]) b196_A137) (RwO.rl_ (mm := [(112, 153), (114, 154), (140, 167), (142, 168), (195, 155)]) b196_A138) hs)
  refine fl_skip ?_
  exact (K169 _ _ (rl [(112, 153), (114, 154), (122, 159), (123, 160), (124, 164), (125, 165), (128, 155), (140, 167), (142, 168)] own193) _ _ _ A120 cA120 A121 cA121 hd193 hz193 e193_0 e193_3 e193_5 e193_6 e193_7 e193_8 e193_9 e193_10 (Evo.rl_ hX193 (fun _ => Nat.le_refl 0) rfl) (RdO.rl_ (mm := [(112, 153), (114, 154), (122, 159), (123, 160), (124, 164), (125, 165), (128, 155), (140, 167), (142, 168)]) b193_A106) (BlkO.rl_ (mm := [(112, 153), (114, 154), (122, 159), (123, 160), (124, 164), (125, 165), (128, 155), (140, 167), (142, 168)]) b193_g115) (RwO.rl_ (mm := [(112, 153), (114, 154), (122, 159), (123, 160), (124, 164), (125, 165), (128, 155), (140, 167), (142, 168)]) b193_A109) (RwO.rl_ (mm := [(112, 153), (114, 154), (122, 159), (123, 160), (124, 164), (125, 165), (128, 155), (140, 167), (142, 168)]) b193_A110) (BlkO.rl_ (mm := [(112, 153), (114, 154), (122, 159), (123, 160), (124, 164), (125, 165), (128, 155), (140, 167), (142, 168)]) b193_g126) (RwO.rl_ (mm := [(112, 153), (114, 154), (122, 159), (123, 160), (124, 164), (125, 165), (128, 155), (140, 167), (142, 168)]) b193_A120) (RwO.rl_ (mm := [(112, 153), (114, 154), (122, 159), (123, 160), (124, 164), (125, 165), (128, 155), (140, 167), (142, 168)]) b193_A121) (BlkO.rl_ (mm := [(112, 153), (114, 154), (122, 159), (123, 160), (124, 164), (125, 165), (128, 155), (140, 167), (142, 168)]) b193_g143) (RwO.rl_ (mm := [(112, 153), (114, 154), (122, 159), (123, 160), (124, 164), (125, 165), (128, 155), (140, 167), (142, 168)]) b193_A137) (RwO.rl_ (mm := [(112, 153), (114, 154), (122, 159), (123, 160), (124, 164), (125, 165), (128, 155), (140, 167), (142, 168)]) b193_A138) hs)
end Go.Proofs.Ytaobbaohelpdgaa
