import Derived.Test.YtaobbaohelpdgaaWp3
import Derived.Test.YtaobbaohelpdgaaWp5
import Derived.Test.YtaobbaohelpdgaaSp8
namespace Go.Proofs.Ytaobbaohelpdgaa
open Go.RowKit
set_option linter.unusedVariables false
set_option maxRecDepth 10000
theorem ref07_Read_w (w : World) (b1 : List Int) (Ab1 : Option Addr) (cb1 : Nat) (hb1 : RdO (fun _ => 0) [0] w R5 Ab1 cb1 b1) (r : Int × Int × Int) (hs : ref07_Read b1 = some r) :
    Calls Try.prog 62 #[.slice Ab1 b1.length cb1] w fun e w' => ∃ own' : Own, e = .returned (.tuple #[.int .u64 r.1, .int .i64 r.2.1, .int .i64 r.2.2]) ∧ Evo [] (fun _ => 0) own' w w' := by
  refine fl_enter (n := 61) rfl rfl rfl (Nat.le_of_ble_eq_true rfl) ?_
  intro a0 Q hd0 hz0 harg hret
  have ha0 := harg 0 _ rfl
  clear harg
  have hE0 : Evo [] (fun _ => 0) (fun _ => 0) w w := Evo.refl _ _ _
  refine rg0_seq 61 (fun _ => 0) (bz 3) [⟨[], [], [], Fct.val 2 (.int .u64 0)⟩, ⟨[], [], [], Fct.val 3 (.int .i64 0)⟩, ⟨[], [], [], Fct.val 4 (.int .i64 0)⟩] hz0 hd0 (by kernel_rfl) ?_ ?_
  · refine sc (fun _ _ _ _ _ _ => px (or_assign rfl)) ?_
    refine sc (fun _ _ _ _ _ _ => px (or_assign rfl)) ?_
    refine sc (fun _ _ _ _ _ _ => px (or_assign rfl)) ?_
    exact steps_nil
  intro own101 a101 w101 hd101 hz101 hk101 hf101 hE101
  have e101_0 := (hk101 0 rfl).trans ha0
  have hX101 := es_ hE0 hE101
  have b101_Ab1 := RdO.evo rfl hE101 hb1
  refine rg0_seq 61 own101 (bz 1) [⟨[], [], [], Fct.val 5 (.int .i64 0)⟩] hz101 hd101 (by kernel_rfl) ?_ ?_
  · refine sc (fun _ _ _ _ _ _ => px (or_assign rfl)) ?_
    exact steps_nil
  intro own102 a102 w102 hd102 hz102 hk102 hf102 hE102
  have e102_0 := (hk102 0 rfl).trans e101_0
  obtain ⟨(e102_5 : a102.eval (.tmp 5) = .int .i64 0), -⟩ := hf102 [0] rfl
  have hX102 := es_ hX101 hE102
  have b102_Ab1 := RdO.evo rfl hE102 b101_Ab1
  refine fl_seq (fun Q103 hn103 hp103 => ?_)
  refine fl_block (fun Q104 hn104 hx104 hp104 => ?_)
  refine fl_loop (body := (fun s => ref07_Read_b1 b1 s)) (z := r) (show loopO _ _ = _ from hs) (fun (k113 : Int) a wx => ∃ (ox : Own), a.defers = [] ∧ a.tmps.size = 61 ∧ a.eval (.tmp 0) = .slice Ab1 b1.length cb1 ∧ a.eval (.tmp 5) = .int .i64 k113 ∧ Evo [] (fun _ => 0) ox w wx ∧ RdO ox [0] wx R5 Ab1 cb1 b1) ?_ ?_
  · exact ⟨own102, hd102, hz102, e102_0, e102_5, hX102, b102_Ab1⟩
  · rintro k113 zz122 a122 w122 ⟨own122, hd123, hz123, e123_0, e123_5, hE123, b123_Ab1⟩ hs Q122 hn122 hp122 hz122
    have hs : ref07_Read_b1 b1 k113 = some zz122 := hs
    refine fl_seq (fun Q124 hn124 hp124 => ?_)
    obtain ⟨x125, hx125, hs⟩ := obind hs
    obtain ⟨x126, hx126, hs⟩ := obind hs
    refine rg0_seq 61 own122 [0, 0, 2, 7, 15, 31, 31, 127, 255, 511, 1023] [⟨[], [5], [], Fct.val 8 (.int .i64 k113)⟩, ⟨[], [0], [], Fct.val 9 (.slice Ab1 b1.length cb1)⟩, ⟨[1], [], [], Fct.val 10 (.int .i64 (b1.length : Int))⟩, ⟨[0, 2], [], [], Fct.val 11 (.bool (decide (k113 < (b1.length : Int))))⟩, ⟨[3], [], [], Fct.val 12 (.bool (decide (k113 < (b1.length : Int))))⟩, ⟨[4], [0], [], Fct.cond (decide (k113 < (b1.length : Int))) (some 13) (Fct.val 13 (.slice Ab1 b1.length cb1))⟩, ⟨[4], [5], [], Fct.cond (decide (k113 < (b1.length : Int))) (some 14) (Fct.val 14 (.int .i64 k113))⟩, ⟨[4, 5, 6], [], [], Fct.cond (decide (k113 < (b1.length : Int))) (some 15) (Fct.val 15 (.pointer (some ((adr Ab1).add ((k113 : Int).toNat * R5.s)))))⟩, ⟨[4, 7], [], [], Fct.cond (decide (k113 < (b1.length : Int))) (some 16) (Fct.val 16 (.int .u8 x125))⟩, ⟨[4, 8], [], [], Fct.cond (decide (k113 < (b1.length : Int))) (some 17) (Fct.val 17 (.bool (decide (128 ≤ x125))))⟩, ⟨[4, 9], [], [], Fct.val 18 (.bool x126)⟩] hz123 hd123 (by kernel_rfl) ?_ ?_
    · refine sc (fun _ _ _ _ s _ => px (or_move (s.1.trans e123_5))) ?_
      refine sc (fun _ _ _ _ s _ => px (or_move (s.1.trans e123_0))) ?_
      refine sc (fun _ _ _ f _ _ => px (or_len tu33 f.1 rfl)) ?_
      refine sc (fun _ _ _ f _ _ => px (or_lss f.1 f.2.1 rfl)) ?_
      refine sc (fun _ _ _ f _ _ => px (or_move f.1)) ?_
      refine sc (fun _ _ _ f s _ => sg_t rfl rfl rfl f.1 (fun hg => or_move (s.1.trans e123_0))) ?_
      refine sc (fun _ _ _ f s _ => sg_t rfl rfl rfl f.1 (fun hg => or_move (s.1.trans e123_5))) ?_
      refine sc (fun _ _ _ f _ _ => sg_t rfl rfl rfl f.1 (fun hg => or_index (R := R5) (l := b1) tl33 (f.2.1.1 hg) (f.2.2.1.1 hg) (RdO.some_ b123_Ab1 (gd_t hx125 hg)) (gd_t hx125 hg))) ?_
      refine sc (fun _ _ _ f _ hE => sg_t rfl rfl rfl f.1 (fun hg => or_load1 to5 (f.2.1.1 hg) (CellsAt.zero (RdO.cells (F := E5) (RdO.evo rfl hE b123_Ab1) (gd_t hx125 hg)) rfl))) ?_
      refine sc (fun _ _ _ f _ _ => sg_t rfl rfl rfl f.1 (fun hg => or_geq (f.2.1.1 hg) rfl rfl)) ?_
      refine sc (fun _ _ _ f _ _ => px (or_and f.1 (fun hx => f.2.1.1 hx) rfl (osome hx126).symm)) ?_
      exact steps_nil
    intro own127 a127 w127 hd127 hz127 hk127 hf127 hE127
    have e127_0 := (hk127 0 rfl).trans e123_0
    have e127_5 := (hk127 5 rfl).trans e123_5
    obtain ⟨(e127_18 : a127.eval (.tmp 18) = .bool x126), -⟩ := hf127 [10] rfl
    have hX127 := es_ hE123 hE127
    have b127_Ab1 := RdO.evo rfl hE127 b123_Ab1
    refine fl_cond e127_18 hs (fun c128 hs => ?_) (fun c128 hs => ?_)
    · refine fl_skip ?_
      refine hn124 _ _ ?_
      refine fl_block (fun Q129 hn129 hx129 hp129 => ?_)
      refine rg0 61 own127 (bz 3) [⟨[], [5], [], Fct.val 19 (.int .i64 k113)⟩, ⟨[0], [], [], Fct.val 20 (.int .i64 (ad k113 1))⟩, ⟨[1], [], [], Fct.val 5 (.int .i64 (ad k113 1))⟩] hz127 hd127 (by kernel_rfl) ?_ ?_
      · refine sc (fun _ _ _ _ s _ => px (or_move (s.1.trans e127_5))) ?_
        refine sc (fun _ _ _ f _ _ => px (or_add f.1 rfl rfl)) ?_
        refine sc (fun _ _ _ f _ _ => px (or_assign f.1)) ?_
        exact steps_nil
      intro own130 a130 w130 hd130 hz130 hk130 hf130 hE130
      have e130_0 := (hk130 0 rfl).trans e127_0
      obtain ⟨(e130_5 : a130.eval (.tmp 5) = .int .i64 (ad k113 1)), -⟩ := hf130 [2] rfl
      have hX130 := es_ hX127 hE130
      have b130_Ab1 := RdO.evo rfl hE130 b127_Ab1
      refine hn129 _ _ ?_
      exact hn122 _ _ _ hs ⟨own130, hd130, hz130, e130_0, e130_5, hX130, b130_Ab1⟩
    refine fl_exit ?_
    refine hp124 _ _ _ rfl ?_
    replace hs := hz122 _ hs
    refine hp122 _ _ _ rfl ?_
    refine hx104 _ _ ?_
    refine hn103 _ _ ?_
    refine fl_seq (fun Q131 hn131 hp131 => ?_)
    refine rg0_seq 61 own127 (bz 2) [⟨[], [5], [], Fct.val 21 (.int .i64 k113)⟩, ⟨[0], [], [], Fct.val 22 (.bool (decide (10 ≤ k113)))⟩] hz127 hd127 (by kernel_rfl) ?_ ?_
    · refine sc (fun _ _ _ _ s _ => px (or_move (s.1.trans e127_5))) ?_
      refine sc (fun _ _ _ f _ _ => px (or_geq f.1 rfl rfl)) ?_
      exact steps_nil
    intro own132 a132 w132 hd132 hz132 hk132 hf132 hE132
    have e132_0 := (hk132 0 rfl).trans e127_0
    have e132_5 := (hk132 5 rfl).trans e127_5
    obtain ⟨(e132_22 : a132.eval (.tmp 22) = .bool (decide (10 ≤ k113))), -⟩ := hf132 [1] rfl
    have hX132 := es_ hX127 hE132
    have b132_Ab1 := RdO.evo rfl hE132 b127_Ab1
    refine fl_cond e132_22 hs (fun c133 hs => ?_) (fun c133 hs => ?_)
    · refine rg0_seq 61 own132 (bz 3) [⟨[], [], [], Fct.val 2 (.int .u64 0)⟩, ⟨[], [], [], Fct.val 3 (.int .i64 0)⟩, ⟨[], [], [], Fct.val 4 (.int .i64 5)⟩] hz132 hd132 (by kernel_rfl) ?_ ?_
      · refine sc (fun _ _ _ _ _ _ => px (or_assign rfl)) ?_
        refine sc (fun _ _ _ _ _ _ => px (or_assign rfl)) ?_
        refine sc (fun _ _ _ _ _ _ => px (or_assign rfl)) ?_
        exact steps_nil
      intro own134 a134 w134 hd134 hz134 hk134 hf134 hE134
      obtain ⟨(e134_2 : a134.eval (.tmp 2) = .int .u64 0), (e134_3 : a134.eval (.tmp 3) = .int .i64 0), (e134_4 : a134.eval (.tmp 4) = .int .i64 5), -⟩ := hf134 [0, 1, 2] rfl
      have hX134 := es_ hX132 hE134
      refine fl_ret ?_
      refine hp131 _ _ _ rfl ?_
      obtain rfl := osome hs
      exact hret _ _ _ _ (.inl rfl) hd134 (results3_ rfl (RVal.tmp_ e134_2) (RVal.tmp_ e134_3) (RVal.tmp_ e134_4)) ⟨own134, rfl, hX134⟩
    refine fl_skip ?_
    refine hn131 _ _ ?_
    refine fl_seq (fun Q135 hn135 hp135 => ?_)
    refine rg0_seq 61 own132 [0, 0, 2, 7] [⟨[], [5], [], Fct.val 23 (.int .i64 k113)⟩, ⟨[], [0], [], Fct.val 24 (.slice Ab1 b1.length cb1)⟩, ⟨[1], [], [], Fct.val 25 (.int .i64 (b1.length : Int))⟩, ⟨[0, 2], [], [], Fct.val 26 (.bool (decide (k113 = (b1.length : Int))))⟩] hz132 hd132 (by kernel_rfl) ?_ ?_
    · refine sc (fun _ _ _ _ s _ => px (or_move (s.1.trans e132_5))) ?_
      refine sc (fun _ _ _ _ s _ => px (or_move (s.1.trans e132_0))) ?_
      refine sc (fun _ _ _ f _ _ => px (or_len tu33 f.1 rfl)) ?_
      refine sc (fun _ _ _ f _ _ => px (or_eql f.1 f.2.1 rfl)) ?_
      exact steps_nil
    intro own136 a136 w136 hd136 hz136 hk136 hf136 hE136
    have e136_0 := (hk136 0 rfl).trans e132_0
    have e136_5 := (hk136 5 rfl).trans e132_5
    obtain ⟨(e136_26 : a136.eval (.tmp 26) = .bool (decide (k113 = (b1.length : Int)))), -⟩ := hf136 [3] rfl
    have hX136 := es_ hX132 hE136
    have b136_Ab1 := RdO.evo rfl hE136 b132_Ab1
    refine fl_cond e136_26 hs (fun c137 hs => ?_) (fun c137 hs => ?_)
    · refine rg0_seq 61 own136 (bz 3) [⟨[], [], [], Fct.val 2 (.int .u64 0)⟩, ⟨[], [], [], Fct.val 3 (.int .i64 0)⟩, ⟨[], [], [], Fct.val 4 (.int .i64 4)⟩] hz136 hd136 (by kernel_rfl) ?_ ?_
      · refine sc (fun _ _ _ _ _ _ => px (or_assign rfl)) ?_
        refine sc (fun _ _ _ _ _ _ => px (or_assign rfl)) ?_
        refine sc (fun _ _ _ _ _ _ => px (or_assign rfl)) ?_
        exact steps_nil
      intro own138 a138 w138 hd138 hz138 hk138 hf138 hE138
      obtain ⟨(e138_2 : a138.eval (.tmp 2) = .int .u64 0), (e138_3 : a138.eval (.tmp 3) = .int .i64 0), (e138_4 : a138.eval (.tmp 4) = .int .i64 4), -⟩ := hf138 [0, 1, 2] rfl
      have hX138 := es_ hX136 hE138
      refine fl_ret ?_
      refine hp135 _ _ _ rfl ?_
      obtain rfl := osome hs
      exact hret _ _ _ _ (.inl rfl) hd138 (results3_ rfl (RVal.tmp_ e138_2) (RVal.tmp_ e138_3) (RVal.tmp_ e138_4)) ⟨own138, rfl, hX138⟩
    refine fl_skip ?_
    refine hn135 _ _ ?_
    refine fl_seq (fun Q139 hn139 hp139 => ?_)
    obtain ⟨x140, hx140, hs⟩ := obind hs
    obtain ⟨x141, hx141, hs⟩ := obind hs
    refine rg0_seq 61 own136 (bz 8) [⟨[], [5], [], Fct.val 27 (.int .i64 k113)⟩, ⟨[0], [], [], Fct.val 28 (.bool (decide (k113 = 9)))⟩, ⟨[1], [], [], Fct.val 29 (.bool (decide (k113 = 9)))⟩, ⟨[2], [0], [], Fct.cond (decide (k113 = 9)) (some 30) (Fct.val 30 (.slice Ab1 b1.length cb1))⟩, ⟨[2, 3], [], [], Fct.cond (decide (k113 = 9)) (some 31) (Fct.val 31 (.pointer (some ((adr Ab1).add ((9 : Int).toNat * R5.s)))))⟩, ⟨[2, 4], [], [], Fct.cond (decide (k113 = 9)) (some 32) (Fct.val 32 (.int .u8 x140))⟩, ⟨[2, 5], [], [], Fct.cond (decide (k113 = 9)) (some 33) (Fct.val 33 (.bool (decide (1 < x140))))⟩, ⟨[2, 6], [], [], Fct.val 34 (.bool x141)⟩] hz136 hd136 (by kernel_rfl) ?_ ?_
    · refine sc (fun _ _ _ _ s _ => px (or_move (s.1.trans e136_5))) ?_
      refine sc (fun _ _ _ f _ _ => px (or_eql f.1 rfl rfl)) ?_
      refine sc (fun _ _ _ f _ _ => px (or_move f.1)) ?_
      refine sc (fun _ _ _ f s _ => sg_t rfl rfl rfl f.1 (fun hg => or_move (s.1.trans e136_0))) ?_
      refine sc (fun _ _ _ f _ _ => sg_t rfl rfl rfl f.1 (fun hg => or_index (R := R5) (l := b1) tl33 (f.2.1.1 hg) rfl (RdO.some_ b136_Ab1 (gd_t hx140 hg)) (gd_t hx140 hg))) ?_
      refine sc (fun _ _ _ f _ hE => sg_t rfl rfl rfl f.1 (fun hg => or_load1 to5 (f.2.1.1 hg) (CellsAt.zero (RdO.cells (F := E5) (RdO.evo rfl hE b136_Ab1) (gd_t hx140 hg)) rfl))) ?_
      refine sc (fun _ _ _ f _ _ => sg_t rfl rfl rfl f.1 (fun hg => or_gtr (f.2.1.1 hg) rfl rfl)) ?_
      refine sc (fun _ _ _ f _ _ => px (or_and f.1 (fun hx => f.2.1.1 hx) rfl (osome hx141).symm)) ?_
      exact steps_nil
    intro own142 a142 w142 hd142 hz142 hk142 hf142 hE142
    have e142_0 := (hk142 0 rfl).trans e136_0
    have e142_5 := (hk142 5 rfl).trans e136_5
    obtain ⟨(e142_34 : a142.eval (.tmp 34) = .bool x141), -⟩ := hf142 [7] rfl
    have hX142 := es_ hX136 hE142
    have b142_Ab1 := RdO.evo rfl hE142 b136_Ab1
    refine fl_cond e142_34 hs (fun c143 hs => ?_) (fun c143 hs => ?_)
    · refine rg0_seq 61 own142 (bz 3) [⟨[], [], [], Fct.val 2 (.int .u64 0)⟩, ⟨[], [], [], Fct.val 3 (.int .i64 0)⟩, ⟨[], [], [], Fct.val 4 (.int .i64 5)⟩] hz142 hd142 (by kernel_rfl) ?_ ?_
      · refine sc (fun _ _ _ _ _ _ => px (or_assign rfl)) ?_
        refine sc (fun _ _ _ _ _ _ => px (or_assign rfl)) ?_
        refine sc (fun _ _ _ _ _ _ => px (or_assign rfl)) ?_
        exact steps_nil
      intro own144 a144 w144 hd144 hz144 hk144 hf144 hE144
      obtain ⟨(e144_2 : a144.eval (.tmp 2) = .int .u64 0), (e144_3 : a144.eval (.tmp 3) = .int .i64 0), (e144_4 : a144.eval (.tmp 4) = .int .i64 5), -⟩ := hf144 [0, 1, 2] rfl
      have hX144 := es_ hX142 hE144
      refine fl_ret ?_
      refine hp139 _ _ _ rfl ?_
      obtain rfl := osome hs
      exact hret _ _ _ _ (.inl rfl) hd144 (results3_ rfl (RVal.tmp_ e144_2) (RVal.tmp_ e144_3) (RVal.tmp_ e144_4)) ⟨own144, rfl, hX144⟩
    refine fl_skip ?_
    refine hn139 _ _ ?_
    refine fl_seq (fun Q145 hn145 hp145 => ?_)
    obtain ⟨x146, hx146, hs⟩ := obind hs
    obtain ⟨x147, hx147, hs⟩ := obind hs
    refine rg0_seq 61 own142 [0, 1, 3, 7, 7, 31, 63, 127, 255] [⟨[], [5], [], Fct.val 35 (.int .i64 k113)⟩, ⟨[0], [], [], Fct.val 36 (.bool (decide (0 < k113)))⟩, ⟨[1], [], [], Fct.val 37 (.bool (decide (0 < k113)))⟩, ⟨[2], [0], [], Fct.cond (decide (0 < k113)) (some 38) (Fct.val 38 (.slice Ab1 b1.length cb1))⟩, ⟨[2], [5], [], Fct.cond (decide (0 < k113)) (some 39) (Fct.val 39 (.int .i64 k113))⟩, ⟨[2, 3, 4], [], [], Fct.cond (decide (0 < k113)) (some 40) (Fct.val 40 (.pointer (some ((adr Ab1).add ((k113 : Int).toNat * R5.s)))))⟩, ⟨[2, 5], [], [], Fct.cond (decide (0 < k113)) (some 41) (Fct.val 41 (.int .u8 x146))⟩, ⟨[2, 6], [], [], Fct.cond (decide (0 < k113)) (some 42) (Fct.val 42 (.bool (decide (x146 = 0))))⟩, ⟨[2, 7], [], [], Fct.val 43 (.bool x147)⟩] hz142 hd142 (by kernel_rfl) ?_ ?_
    · refine sc (fun _ _ _ _ s _ => px (or_move (s.1.trans e142_5))) ?_
      refine sc (fun _ _ _ f _ _ => px (or_gtr f.1 rfl rfl)) ?_
      refine sc (fun _ _ _ f _ _ => px (or_move f.1)) ?_
      refine sc (fun _ _ _ f s _ => sg_t rfl rfl rfl f.1 (fun hg => or_move (s.1.trans e142_0))) ?_
      refine sc (fun _ _ _ f s _ => sg_t rfl rfl rfl f.1 (fun hg => or_move (s.1.trans e142_5))) ?_
      refine sc (fun _ _ _ f _ _ => sg_t rfl rfl rfl f.1 (fun hg => or_index (R := R5) (l := b1) tl33 (f.2.1.1 hg) (f.2.2.1.1 hg) (RdO.some_ b142_Ab1 (gd_t hx146 hg)) (gd_t hx146 hg))) ?_
      refine sc (fun _ _ _ f _ hE => sg_t rfl rfl rfl f.1 (fun hg => or_load1 to5 (f.2.1.1 hg) (CellsAt.zero (RdO.cells (F := E5) (RdO.evo rfl hE b142_Ab1) (gd_t hx146 hg)) rfl))) ?_
      refine sc (fun _ _ _ f _ _ => sg_t rfl rfl rfl f.1 (fun hg => or_eql (f.2.1.1 hg) rfl rfl)) ?_
      refine sc (fun _ _ _ f _ _ => px (or_and f.1 (fun hx => f.2.1.1 hx) rfl (osome hx147).symm)) ?_
      exact steps_nil
    intro own148 a148 w148 hd148 hz148 hk148 hf148 hE148
    have e148_0 := (hk148 0 rfl).trans e142_0
    have e148_5 := (hk148 5 rfl).trans e142_5
    obtain ⟨(e148_43 : a148.eval (.tmp 43) = .bool x147), -⟩ := hf148 [8] rfl
    have hX148 := es_ hX142 hE148
    have b148_Ab1 := RdO.evo rfl hE148 b142_Ab1
    refine fl_cond e148_43 hs (fun c149 hs => ?_) (fun c149 hs => ?_)
    · refine rg0_seq 61 own148 (bz 3) [⟨[], [], [], Fct.val 2 (.int .u64 0)⟩, ⟨[], [], [], Fct.val 3 (.int .i64 0)⟩, ⟨[], [], [], Fct.val 4 (.int .i64 3)⟩] hz148 hd148 (by kernel_rfl) ?_ ?_
      · refine sc (fun _ _ _ _ _ _ => px (or_assign rfl)) ?_
        refine sc (fun _ _ _ _ _ _ => px (or_assign rfl)) ?_
        refine sc (fun _ _ _ _ _ _ => px (or_assign rfl)) ?_
        exact steps_nil
      intro own150 a150 w150 hd150 hz150 hk150 hf150 hE150
      obtain ⟨(e150_2 : a150.eval (.tmp 2) = .int .u64 0), (e150_3 : a150.eval (.tmp 3) = .int .i64 0), (e150_4 : a150.eval (.tmp 4) = .int .i64 3), -⟩ := hf150 [0, 1, 2] rfl
      have hX150 := es_ hX148 hE150
      refine fl_ret ?_
      refine hp145 _ _ _ rfl ?_
      obtain rfl := osome hs
      exact hret _ _ _ _ (.inl rfl) hd150 (results3_ rfl (RVal.tmp_ e150_2) (RVal.tmp_ e150_3) (RVal.tmp_ e150_4)) ⟨own150, rfl, hX150⟩
    refine fl_skip ?_
    refine hn145 _ _ ?_
    refine rg0_seq 61 own148 (bz 1) [⟨[], [], [], Fct.val 6 (.int .u64 0)⟩] hz148 hd148 (by kernel_rfl) ?_ ?_
    · refine sc (fun _ _ _ _ _ _ => px (or_assign rfl)) ?_
      exact steps_nil
    intro own151 a151 w151 hd151 hz151 hk151 hf151 hE151
    have e151_0 := (hk151 0 rfl).trans e148_0
    have e151_5 := (hk151 5 rfl).trans e148_5
    obtain ⟨(e151_6 : a151.eval (.tmp 6) = .int .u64 0), -⟩ := hf151 [0] rfl
    have hX151 := es_ hX148 hE151
    have b151_Ab1 := RdO.evo rfl hE151 b148_Ab1
    refine fl_seq (fun Q152 hn152 hp152 => ?_)
    refine rg0_seq 61 own151 (bz 2) [⟨[], [5], [], Fct.val 44 (.int .i64 k113)⟩, ⟨[0], [], [], Fct.val 7 (.int .i64 k113)⟩] hz151 hd151 (by kernel_rfl) ?_ ?_
    · refine sc (fun _ _ _ _ s _ => px (or_move (s.1.trans e151_5))) ?_
      refine sc (fun _ _ _ f _ _ => px (or_assign f.1)) ?_
      exact steps_nil
    intro own153 a153 w153 hd153 hz153 hk153 hf153 hE153
    have e153_0 := (hk153 0 rfl).trans e151_0
    have e153_5 := (hk153 5 rfl).trans e151_5
    have e153_6 := (hk153 6 rfl).trans e151_6
    obtain ⟨(e153_7 : a153.eval (.tmp 7) = .int .i64 k113), -⟩ := hf153 [1] rfl
    have hX153 := es_ hX151 hE153
    have b153_Ab1 := RdO.evo rfl hE153 b151_Ab1
    refine fl_block (fun Q154 hn154 hx154 hp154 => ?_)
    refine fl_loop (body := (fun s => ref07_Read_b2 b1 k113 s.1 s.2)) (z := r) (show loopO _ _ = _ from hs) (fun (s : Int × Int) a wx => match s with | (n165, i166) => ∃ (ox : Own), a.defers = [] ∧ a.tmps.size = 61 ∧ a.eval (.tmp 0) = .slice Ab1 b1.length cb1 ∧ a.eval (.tmp 5) = .int .i64 k113 ∧ a.eval (.tmp 6) = .int .u64 n165 ∧ a.eval (.tmp 7) = .int .i64 i166 ∧ Evo [] (fun _ => 0) ox w wx ∧ RdO ox [0] wx R5 Ab1 cb1 b1) ?_ ?_
    · exact ⟨own153, hd153, hz153, e153_0, e153_5, e153_6, e153_7, hX153, b153_Ab1⟩
    · rintro ⟨n165, i166⟩ zz178 a178 w178 ⟨own178, hd179, hz179, e179_0, e179_5, e179_6, e179_7, hE179, b179_Ab1⟩ hs Q178 hn178 hp178 hz178
      have hs : ref07_Read_b2 b1 k113 n165 i166 = some zz178 := hs
      refine fl_seq (fun Q180 hn180 hp180 => ?_)
      refine rg0_seq 61 own178 (bz 2) [⟨[], [7], [], Fct.val 45 (.int .i64 i166)⟩, ⟨[0], [], [], Fct.val 46 (.bool (decide (0 ≤ i166)))⟩] hz179 hd179 (by kernel_rfl) ?_ ?_
      · refine sc (fun _ _ _ _ s _ => px (or_move (s.1.trans e179_7))) ?_
        refine sc (fun _ _ _ f _ _ => px (or_geq f.1 rfl rfl)) ?_
        exact steps_nil
      intro own181 a181 w181 hd181 hz181 hk181 hf181 hE181
      have e181_0 := (hk181 0 rfl).trans e179_0
      have e181_5 := (hk181 5 rfl).trans e179_5
      have e181_6 := (hk181 6 rfl).trans e179_6
      have e181_7 := (hk181 7 rfl).trans e179_7
      obtain ⟨(e181_46 : a181.eval (.tmp 46) = .bool (decide (0 ≤ i166))), -⟩ := hf181 [1] rfl
      have hX181 := es_ hE179 hE181
      have b181_Ab1 := RdO.evo rfl hE181 b179_Ab1
      refine fl_cond e181_46 hs (fun c182 hs => ?_) (fun c182 hs => ?_)
      · refine fl_skip ?_
        refine hn180 _ _ ?_
        refine fl_seq (fun Q183 hn183 hp183 => ?_)
        refine fl_block (fun Q184 hn184 hx184 hp184 => ?_)
        obtain ⟨x185, hx185, hs⟩ := obind hs
        obtain ⟨x186, hx186, hs⟩ := obind hs
        obtain ⟨x187, hx187, hs⟩ := obind hs
        refine rg0 61 own181 [0, 1, 0, 0, 12, 28, 60, 124, 255, 511] [⟨[], [6], [], Fct.val 49 (.int .u64 n165)⟩, ⟨[0], [], [], Fct.val 50 (.int .u64 (mlK .u64 128 n165))⟩, ⟨[], [0], [], Fct.val 51 (.slice Ab1 b1.length cb1)⟩, ⟨[], [7], [], Fct.val 52 (.int .i64 i166)⟩, ⟨[2, 3], [], [], Fct.val 53 (.pointer (some ((adr Ab1).add ((i166 : Int).toNat * R5.s))))⟩, ⟨[4], [], [], Fct.val 54 (.int .u8 x185)⟩, ⟨[5], [], [], Fct.val 55 (.int .u8 x186)⟩, ⟨[6], [], [], Fct.val 56 (.int .u64 (IntKind.u64.wrap x186))⟩, ⟨[1, 7], [], [], Fct.val 57 (.int .u64 x187)⟩, ⟨[8], [], [], Fct.val 6 (.int .u64 x187)⟩] hz181 hd181 (by kernel_rfl) ?_ ?_
        · refine sc (fun _ _ _ _ s _ => px (or_move (s.1.trans e181_6))) ?_
          refine sc (fun _ _ _ f _ _ => px (or_mul rfl f.1 rfl)) ?_
          refine sc (fun _ _ _ _ s _ => px (or_move (s.1.trans e181_0))) ?_
          refine sc (fun _ _ _ _ s _ => px (or_move (s.1.trans e181_7))) ?_
          refine sc (fun _ _ _ f _ _ => px (or_index (R := R5) (l := b1) tl33 f.1 f.2.1 (RdO.some_ b181_Ab1 hx185) hx185)) ?_
          refine sc (fun _ _ _ f _ hE => px (or_load1 to5 f.1 (CellsAt.zero (RdO.cells (F := E5) (RdO.evo rfl hE b181_Ab1) hx185) rfl))) ?_
          refine sc (fun _ _ _ f _ _ => px (or_rem f.1 rfl hx186)) ?_
          refine sc (fun _ _ _ f _ _ => px (or_conv f.1 tn5 tn26 rfl)) ?_
          refine sc (fun _ _ _ f _ _ => px (or_add f.1 f.2.1 (osome hx187).symm)) ?_
          refine sc (fun _ _ _ f _ _ => px (or_assign f.1)) ?_
          exact steps_nil
        intro own188 a188 w188 hd188 hz188 hk188 hf188 hE188
        have e188_0 := (hk188 0 rfl).trans e181_0
        have e188_5 := (hk188 5 rfl).trans e181_5
        have e188_7 := (hk188 7 rfl).trans e181_7
        obtain ⟨(e188_6 : a188.eval (.tmp 6) = .int .u64 x187), -⟩ := hf188 [9] rfl
        have hX188 := es_ hX181 hE188
        have b188_Ab1 := RdO.evo rfl hE188 b181_Ab1
        refine hn184 _ _ ?_
        refine hn183 _ _ ?_
        refine rg0 61 own188 (bz 3) [⟨[], [7], [], Fct.val 47 (.int .i64 i166)⟩, ⟨[0], [], [], Fct.val 48 (.int .i64 (sb i166 1))⟩, ⟨[1], [], [], Fct.val 7 (.int .i64 (sb i166 1))⟩] hz188 hd188 (by kernel_rfl) ?_ ?_
        · refine sc (fun _ _ _ _ s _ => px (or_move (s.1.trans e188_7))) ?_
          refine sc (fun _ _ _ f _ _ => px (or_sub f.1 rfl rfl)) ?_
          refine sc (fun _ _ _ f _ _ => px (or_assign f.1)) ?_
          exact steps_nil
        intro own189 a189 w189 hd189 hz189 hk189 hf189 hE189
        have e189_0 := (hk189 0 rfl).trans e188_0
        have e189_5 := (hk189 5 rfl).trans e188_5
        have e189_6 := (hk189 6 rfl).trans e188_6
        obtain ⟨(e189_7 : a189.eval (.tmp 7) = .int .i64 (sb i166 1)), -⟩ := hf189 [2] rfl
        have hX189 := es_ hX188 hE189
        have b189_Ab1 := RdO.evo rfl hE189 b188_Ab1
        exact hn178 _ _ _ hs ⟨own189, hd189, hz189, e189_0, e189_5, e189_6, e189_7, hX189, b189_Ab1⟩
      refine fl_exit ?_
      refine hp180 _ _ _ rfl ?_
      replace hs := hz178 _ hs
      refine hp178 _ _ _ rfl ?_
      refine hx154 _ _ ?_
      refine hn152 _ _ ?_
      refine rg0_seq 61 own181 [0, 0, 2, 1, 15, 31] [⟨[], [6], [], Fct.val 58 (.int .u64 n165)⟩, ⟨[], [5], [], Fct.val 59 (.int .i64 k113)⟩, ⟨[1], [], [], Fct.val 60 (.int .i64 (ad k113 1))⟩, ⟨[0], [], [], Fct.val 2 (.int .u64 n165)⟩, ⟨[2], [], [], Fct.val 3 (.int .i64 (ad k113 1))⟩, ⟨[], [], [], Fct.val 4 (.int .i64 0)⟩] hz181 hd181 (by kernel_rfl) ?_ ?_
      · refine sc (fun _ _ _ _ s _ => px (or_move (s.1.trans e181_6))) ?_
        refine sc (fun _ _ _ _ s _ => px (or_move (s.1.trans e181_5))) ?_
        refine sc (fun _ _ _ f _ _ => px (or_add f.1 rfl rfl)) ?_
        refine sc (fun _ _ _ f _ _ => px (or_assign f.1)) ?_
        refine sc (fun _ _ _ f _ _ => px (or_assign f.1)) ?_
        refine sc (fun _ _ _ _ _ _ => px (or_assign rfl)) ?_
        exact steps_nil
      intro own190 a190 w190 hd190 hz190 hk190 hf190 hE190
      obtain ⟨(e190_2 : a190.eval (.tmp 2) = .int .u64 n165), (e190_3 : a190.eval (.tmp 3) = .int .i64 (ad k113 1)), (e190_4 : a190.eval (.tmp 4) = .int .i64 0), -⟩ := hf190 [3, 4, 5] rfl
      have hX190 := es_ hX181 hE190
      refine fl_ret ?_
      obtain rfl := osome hs
      exact hret _ _ _ _ (.inl rfl) hd190 (results3_ rfl (RVal.tmp_ e190_2) (RVal.tmp_ e190_3) (RVal.tmp_ e190_4)) ⟨own190, rfl, hX190⟩
theorem ref26_Take_w (w : World) (own : Own) (c1 : (List Int) × Int × Int) (Ac1_0 : Option Addr) (cc1_0 : Nat) (hown : ∀ b, own b ≤ 1) (hAc1_0 : RdO own [1] w R5 Ac1_0 cc1_0 c1.1) (r : ((List Int) × Int × Int) × Int) (hs : ref26_Take c1 = some r) :
    Calls Try.prog 50 #[.agg #[.slice Ac1_0 c1.1.length cc1_0, .int .i64 c1.2.1, .int .i64 c1.2.2]] w fun e w' => ∃ (own' : Own) (x : Option Addr × Nat), e = .returned (.tuple #[.agg #[.slice x.1 r.1.1.length x.2, .int .i64 r.1.2.1, .int .i64 r.1.2.2], .int .u64 r.2]) ∧ Evo [] own own' w w' ∧ RdO own' [1, 2] w' R5 x.1 x.2 r.1.1 := by
  refine fl_enter (n := 30) rfl rfl rfl (Nat.le_of_ble_eq_true rfl) ?_
  intro a0 Q hd0 hz0 harg hret
  have ha0 := harg 0 _ rfl
  clear harg
  have hE0 : Evo [] own own w w := Evo.refl _ _ _
  refine rg0_seq 30 own [0, 0, 0] [⟨[], [0], [], Fct.blk 32 1 (fun g => .pointer (some ⟨g, 0, none⟩)) 72 #[.slice Ac1_0 c1.1.length cc1_0, .int .i64 c1.2.1, .int .i64 c1.2.2]⟩, ⟨[], [], [], Fct.blk 34 2 (fun g => .pointer (some ⟨g, 0, none⟩)) 72 #[.slice none 0 0, .int .i64 0, .int .i64 0]⟩, ⟨[], [], [], Fct.val 3 (.int .u64 0)⟩] hz0 hd0 (by kernel_rfl) ?_ ?_
  · refine sc (fun _ _ _ _ s _ => px (or_new [(0, .agg #[.slice Ac1_0 c1.1.length cc1_0, .int .i64 c1.2.1, .int .i64 c1.2.2])] rfl rfl ⟨(s.1.trans ha0), trivial⟩ (by kernel_rfl))) ?_
    refine sc (fun _ _ _ _ _ _ => px (or_new [] rfl rfl trivial (by kernel_rfl))) ?_
    refine sc (fun _ _ _ _ _ _ => px (or_assign rfl)) ?_
    exact steps_nil
  intro own35 a35 w35 hd35 hz35 hk35 hf35 hE35
  obtain ⟨⟨g31, (e35_1 : a35.eval (.tmp 1) = .pointer (some ⟨g31, 0, none⟩)), (b35_g31 : BlkO own35 32 w35 g31 72 #[.slice Ac1_0 c1.1.length cc1_0, .int .i64 c1.2.1, .int .i64 c1.2.2])⟩, ⟨g33, (e35_2 : a35.eval (.tmp 2) = .pointer (some ⟨g33, 0, none⟩)), (b35_g33 : BlkO own35 34 w35 g33 72 #[.slice none 0 0, .int .i64 0, .int .i64 0])⟩, -⟩ := hf35 [0, 1] rfl
  have hX35 := Evo.step hE0 hown hE35 rfl
  have b35_Ac1_0 := RdO.evo rfl hE35 hAc1_0
  refine fl_seq (fun Q36 hn36 hp36 => ?_)
  refine rg0_seq 30 own35 (bz 3) [⟨[], [1], [], Fct.val 7 (.pointer (some ⟨g31, 2, none⟩))⟩, ⟨[0], [], [], Fct.val 8 (.int .i64 c1.2.2)⟩, ⟨[1], [], [], Fct.val 9 (.bool (!decide (c1.2.2 = 0)))⟩] hz35 hd35 (by kernel_rfl) ?_ ?_
  · refine sc (fun _ _ _ _ s _ => px (or_field fo72_2 (s.1.trans e35_1) (by rfl))) ?_
    refine sc (fun _ _ _ f _ hE => px (or_load1 to3 f.1 (Blk.at_ (be_ hE b35_g31).2 2 rfl))) ?_
    refine sc (fun _ _ _ f _ _ => px (or_neq f.1 rfl rfl)) ?_
    exact steps_nil
  intro own37 a37 w37 hd37 hz37 hk37 hf37 hE37
  have e37_1 := (hk37 1 rfl).trans e35_1
  have e37_2 := (hk37 2 rfl).trans e35_2
  obtain ⟨(e37_9 : a37.eval (.tmp 9) = .bool (!decide (c1.2.2 = 0))), -⟩ := hf37 [2] rfl
  have hX37 := Evo.step hX35 hown hE37 rfl
  have b37_Ac1_0 := RdO.evo rfl hE37 b35_Ac1_0
  have b37_g31 := be_ hE37 b35_g31
  have b37_g33 := be_ hE37 b35_g33
  refine fl_cond e37_9 hs (fun c38 hs => ?_) (fun c38 hs => ?_)
  · refine rg_plain_seq (n := 30) (rs := [Fct.at_ 34 g33 72 #[.slice none 0 0, .int .i64 0, .int .i64 0]]) (own0 := own37) (K := [34]) (bs := (bz 3)) (ds := [⟨[], [1], [], Fct.val 10 (.agg #[.slice Ac1_0 c1.1.length cc1_0, .int .i64 c1.2.1, .int .i64 c1.2.2])⟩, ⟨[0, 3], [2], [34], Fct.at_ 39 g33 72 #[.slice Ac1_0 c1.1.length cc1_0, .int .i64 c1.2.1, .int .i64 c1.2.2]⟩, ⟨[], [], [], Fct.val 3 (.int .u64 0)⟩]) (by kernel_rfl) hz37 hd37 (by simp only [List.forall_mem_cons]; exact ⟨b37_g33, fun _ h => nomatch h⟩) ?_ ?_
    · refine sc (fun _ _ _ _ s hE => px (or_load (l := [.slice Ac1_0 c1.1.length cc1_0, .int .i64 c1.2.1, .int .i64 c1.2.2]) ta72 (s.1.trans e37_1) (Blk.cellsFrom (be_ hE b37_g31).2 0 rfl) rfl)) ?_
      refine sc (fun own a wx hf hsl hE => ?_) ?_
      · obtain ⟨f_10, b_g33, -⟩ := hf
        obtain ⟨s_2, -⟩ := hsl
        exact px (or_store (l := #[.slice Ac1_0 c1.1.length cc1_0, .int .i64 c1.2.1, .int .i64 c1.2.2]) (lab := 34) (lab2 := 39) ts72 (s_2.trans e37_2) f_10 b_g33 (by simp) (by kernel_rfl) (mem_of rfl) (by decide) (by kernel_rfl) (fun own' a' w' ha hb => hb))
      refine sc (fun _ _ _ _ _ _ => px (or_assign rfl)) ?_
      exact steps_nil
    intro own40 a40 w40 hd40 hz40 hk40 hf40 hE40
    have e40_2 := (hk40 2 rfl).trans e37_2
    obtain ⟨(e40_3 : a40.eval (.tmp 3) = .int .u64 0), (b40_g33 : BlkO own40 39 w40 g33 72 #[.slice Ac1_0 c1.1.length cc1_0, .int .i64 c1.2.1, .int .i64 c1.2.2]), -⟩ := hf40 [2, 1] rfl
    have hX40 := Evo.step hX37 hown hE40 rfl
    have b40_Ac1_0 := RdO.evo rfl hE40 b37_Ac1_0
    refine fl_ret ?_
    refine hp36 _ _ _ rfl ?_
    obtain rfl := osome hs
    exact hret _ _ _ _ (.inl rfl) hd40 (results2_ rfl (RVal.cell_ e40_2 (run_loadVarAgg (l := [.slice Ac1_0 c1.1.length cc1_0, .int .i64 c1.2.1, .int .i64 c1.2.2]) ta72 (Blk.cellsFrom b40_g33.2 0 rfl) rfl)) (RVal.tmp_ e40_3)) ⟨own40, (Ac1_0, cc1_0), rfl, hX40, (RdO.more b40_Ac1_0 (by decide))⟩
  refine fl_skip ?_
  refine hn36 _ _ ?_
  obtain ⟨x41, hx41, hs⟩ := obind hs
  obtain ⟨r43, hr43, hs⟩ := obind hs
  refine rg0_seq 30 own37 [0, 1, 0, 4, 15, 31, 63, 127, 127, 127, 255, 1535, 4095] [⟨[], [1], [], Fct.val 12 (.pointer (some ⟨g31, 0, none⟩))⟩, ⟨[0], [], [], Fct.val 13 (.slice Ac1_0 c1.1.length cc1_0)⟩, ⟨[], [1], [], Fct.val 14 (.pointer (some ⟨g31, 1, none⟩))⟩, ⟨[2], [], [], Fct.val 15 (.int .i64 c1.2.1)⟩, ⟨[1, 3], [], [], Fct.view [1] 16 R5 x41⟩, ⟨[4], [], [], Fct.val 17 (.tuple #[.int .u64 r43.1, .int .i64 r43.2.1, .int .i64 r43.2.2])⟩, ⟨[5], [], [], Fct.val 11 (.tuple #[.int .u64 r43.1, .int .i64 r43.2.1, .int .i64 r43.2.2])⟩, ⟨[6], [], [], Fct.val 18 (.int .u64 r43.1)⟩, ⟨[6], [], [], Fct.val 19 (.int .i64 r43.2.1)⟩, ⟨[6], [], [], Fct.val 20 (.int .i64 r43.2.2)⟩, ⟨[7], [], [], Fct.val 4 (.int .u64 r43.1)⟩, ⟨[8], [], [], Fct.val 5 (.int .i64 r43.2.1)⟩, ⟨[9], [], [], Fct.val 6 (.int .i64 r43.2.2)⟩] hz37 hd37 (by kernel_rfl) ?_ ?_
  · refine sc (fun _ _ _ _ s _ => px (or_field fo72_0 (s.1.trans e37_1) (by rfl))) ?_
    refine sc (fun _ _ _ f _ hE => px (or_load1 to33 f.1 (Blk.at_ (be_ hE b37_g31).2 0 rfl))) ?_
    refine sc (fun _ _ _ _ s _ => px (or_field fo72_1 (s.1.trans e37_1) (by rfl))) ?_
    refine sc (fun _ _ _ f _ hE => px (or_load1 to3 f.1 (Blk.at_ (be_ hE b37_g31).2 1 rfl))) ?_
    refine sc (fun _ _ _ f _ hE => px (or_view (R := R5) (l := c1.1) (L := [1]) tu33 ts5 f.1 (Bnd.some_ f.2.1) Bnd.none_ Bnd.none_ (RdO.evo rfl hE b37_Ac1_0) hx41 (.inl rfl) (by simp))) ?_
    refine sc (fun own a wx hf hsl hE => ?_) ?_
    · obtain ⟨⟨⟨A42, cA42⟩, f_16, b_A42⟩, -⟩ := hf
      exact px (or_call cf62 (args1 f_16) (ref07_Read_w _ x41 A42 cA42 (RdO.zero b_A42) r43 hr43) post_val)
    refine sc (fun _ _ _ f _ _ => px (or_move f.1)) ?_
    refine sc (fun _ _ _ f _ _ => px (or_k [(11, .tuple #[.int .u64 r43.1, .int .i64 r43.2.1, .int .i64 r43.2.2])] rfl rfl ⟨f.1, trivial⟩ (by kernel_rfl))) ?_
    refine sc (fun _ _ _ f _ _ => px (or_k [(11, .tuple #[.int .u64 r43.1, .int .i64 r43.2.1, .int .i64 r43.2.2])] rfl rfl ⟨f.1, trivial⟩ (by kernel_rfl))) ?_
    refine sc (fun _ _ _ f _ _ => px (or_k [(11, .tuple #[.int .u64 r43.1, .int .i64 r43.2.1, .int .i64 r43.2.2])] rfl rfl ⟨f.1, trivial⟩ (by kernel_rfl))) ?_
    refine sc (fun _ _ _ f _ _ => px (or_assign f.1)) ?_
    refine sc (fun _ _ _ f _ _ => px (or_assign f.1)) ?_
    refine sc (fun _ _ _ f _ _ => px (or_assign f.1)) ?_
    exact steps_nil
  intro own44 a44 w44 hd44 hz44 hk44 hf44 hE44
  have e44_1 := (hk44 1 rfl).trans e37_1
  have e44_2 := (hk44 2 rfl).trans e37_2
  obtain ⟨(e44_4 : a44.eval (.tmp 4) = .int .u64 r43.1), (e44_5 : a44.eval (.tmp 5) = .int .i64 r43.2.1), (e44_6 : a44.eval (.tmp 6) = .int .i64 r43.2.2), -⟩ := hf44 [10, 11, 12] rfl
  have hX44 := Evo.step hX37 hown hE44 rfl
  have b44_Ac1_0 := RdO.evo rfl hE44 b37_Ac1_0
  have b44_g31 := be_ hE44 b37_g31
  have b44_g33 := be_ hE44 b37_g33
  refine rg_plain_seq (n := 30) (rs := [Fct.at_ 32 g31 72 #[.slice Ac1_0 c1.1.length cc1_0, .int .i64 c1.2.1, .int .i64 c1.2.2]]) (own0 := own44) (K := [32, 45]) (bs := [0, 1, 0, 7, 0, 15, 47, 127, 255]) (ds := [⟨[], [1], [], Fct.val 21 (.pointer (some ⟨g31, 1, none⟩))⟩, ⟨[0, 9], [], [], Fct.val 22 (.int .i64 c1.2.1)⟩, ⟨[], [5], [], Fct.val 23 (.int .i64 r43.2.1)⟩, ⟨[1, 2], [], [], Fct.val 24 (.int .i64 (ad c1.2.1 r43.2.1))⟩, ⟨[], [6], [], Fct.val 25 (.int .i64 r43.2.2)⟩, ⟨[], [1], [], Fct.val 26 (.pointer (some ⟨g31, 1, none⟩))⟩, ⟨[5, 3, 9], [], [32], Fct.at_ 45 g31 72 #[.slice Ac1_0 c1.1.length cc1_0, .int .i64 (ad c1.2.1 r43.2.1), .int .i64 c1.2.2]⟩, ⟨[], [1], [], Fct.val 27 (.pointer (some ⟨g31, 2, none⟩))⟩, ⟨[7, 4, 6], [], [45], Fct.at_ 46 g31 72 #[.slice Ac1_0 c1.1.length cc1_0, .int .i64 (ad c1.2.1 r43.2.1), .int .i64 r43.2.2]⟩]) (by kernel_rfl) hz44 hd44 (by simp only [List.forall_mem_cons]; exact ⟨b44_g31, fun _ h => nomatch h⟩) ?_ ?_
  · refine sc (fun _ _ _ _ s _ => px (or_field fo72_1 (s.1.trans e44_1) (by rfl))) ?_
    refine sc (fun own a wx hf hsl hE => ?_) ?_
    · obtain ⟨f_21, (b_g31 : BlkO own 32 wx g31 72 #[.slice Ac1_0 c1.1.length cc1_0, .int .i64 c1.2.1, .int .i64 c1.2.2]), -⟩ := hf
      exact px (or_load1 to3 f_21 (Blk.at_ b_g31.2 1 rfl))
    refine sc (fun _ _ _ _ s _ => px (or_move (s.1.trans e44_5))) ?_
    refine sc (fun _ _ _ f _ _ => px (or_add f.1 f.2.1 rfl)) ?_
    refine sc (fun _ _ _ _ s _ => px (or_move (s.1.trans e44_6))) ?_
    refine sc (fun _ _ _ _ s _ => px (or_field fo72_1 (s.1.trans e44_1) (by rfl))) ?_
    refine sc (fun own a wx hf hsl hE => ?_) ?_
    · obtain ⟨f_26, f_24, b_g31, -⟩ := hf
      exact px (or_store1 (lab := 32) (lab2 := 45) ts3 f_26 f_24 b_g31 (by simp) rfl (mem_of rfl) (by decide) rfl (fun own' a' w' ha hb => hb))
    refine sc (fun _ _ _ _ s _ => px (or_field fo72_2 (s.1.trans e44_1) (by rfl))) ?_
    refine sc (fun own a wx hf hsl hE => ?_) ?_
    · obtain ⟨f_27, f_25, b_g31, -⟩ := hf
      exact px (or_store1 (lab := 45) (lab2 := 46) ts3 f_27 f_25 b_g31 (by simp) rfl (mem_of rfl) (by decide) rfl (fun own' a' w' ha hb => hb))
    exact steps_nil
  intro own47 a47 w47 hd47 hz47 hk47 hf47 hE47
  have e47_1 := (hk47 1 rfl).trans e44_1
  have e47_2 := (hk47 2 rfl).trans e44_2
  have e47_4 := (hk47 4 rfl).trans e44_4
  obtain ⟨(b47_g31 : BlkO own47 46 w47 g31 72 #[.slice Ac1_0 c1.1.length cc1_0, .int .i64 (ad c1.2.1 r43.2.1), .int .i64 r43.2.2]), -⟩ := hf47 [8] rfl
  have hX47 := Evo.step hX44 hown hE47 rfl
  have b47_Ac1_0 := RdO.evo rfl hE47 b44_Ac1_0
  have b47_g33 := be_ hE47 b44_g33
  refine rg_plain_seq (n := 30) (rs := [Fct.at_ 34 g33 72 #[.slice none 0 0, .int .i64 0, .int .i64 0]]) (own0 := own47) (K := [34]) (bs := [0, 0, 1, 7]) (ds := [⟨[], [1], [], Fct.val 28 (.agg #[.slice Ac1_0 c1.1.length cc1_0, .int .i64 (ad c1.2.1 r43.2.1), .int .i64 r43.2.2])⟩, ⟨[], [4], [], Fct.val 29 (.int .u64 r43.1)⟩, ⟨[0, 4], [2], [34], Fct.at_ 48 g33 72 #[.slice Ac1_0 c1.1.length cc1_0, .int .i64 (ad c1.2.1 r43.2.1), .int .i64 r43.2.2]⟩, ⟨[1], [], [], Fct.val 3 (.int .u64 r43.1)⟩]) (by kernel_rfl) hz47 hd47 (by simp only [List.forall_mem_cons]; exact ⟨b47_g33, fun _ h => nomatch h⟩) ?_ ?_
  · refine sc (fun _ _ _ _ s hE => px (or_load (l := [.slice Ac1_0 c1.1.length cc1_0, .int .i64 (ad c1.2.1 r43.2.1), .int .i64 r43.2.2]) ta72 (s.1.trans e47_1) (Blk.cellsFrom (be_ hE b47_g31).2 0 rfl) rfl)) ?_
    refine sc (fun _ _ _ _ s _ => px (or_move (s.1.trans e47_4))) ?_
    refine sc (fun own a wx hf hsl hE => ?_) ?_
    · obtain ⟨f_28, b_g33, -⟩ := hf
      obtain ⟨s_2, -⟩ := hsl
      exact px (or_store (l := #[.slice Ac1_0 c1.1.length cc1_0, .int .i64 (ad c1.2.1 r43.2.1), .int .i64 r43.2.2]) (lab := 34) (lab2 := 48) ts72 (s_2.trans e47_2) f_28 b_g33 (by simp) (by kernel_rfl) (mem_of rfl) (by decide) (by kernel_rfl) (fun own' a' w' ha hb => hb))
    refine sc (fun _ _ _ f _ _ => px (or_assign f.1)) ?_
    exact steps_nil
  intro own49 a49 w49 hd49 hz49 hk49 hf49 hE49
  have e49_2 := (hk49 2 rfl).trans e47_2
  obtain ⟨(e49_3 : a49.eval (.tmp 3) = .int .u64 r43.1), (b49_g33 : BlkO own49 48 w49 g33 72 #[.slice Ac1_0 c1.1.length cc1_0, .int .i64 (ad c1.2.1 r43.2.1), .int .i64 r43.2.2]), -⟩ := hf49 [3, 2] rfl
  have hX49 := Evo.step hX47 hown hE49 rfl
  have b49_Ac1_0 := RdO.evo rfl hE49 b47_Ac1_0
  refine fl_ret ?_
  obtain rfl := osome hs
  exact hret _ _ _ _ (.inl rfl) hd49 (results2_ rfl (RVal.cell_ e49_2 (run_loadVarAgg (l := [.slice Ac1_0 c1.1.length cc1_0, .int .i64 (ad c1.2.1 r43.2.1), .int .i64 r43.2.2]) ta72 (Blk.cellsFrom b49_g33.2 0 rfl) rfl)) (RVal.tmp_ e49_3)) ⟨own49, (Ac1_0, cc1_0), rfl, hX49, (RdO.more b49_Ac1_0 (by decide))⟩
theorem ref26_Up_w (w : World) (own : Own) (c1 : (List Int) × Int × Int) (Ac1_0 : Option Addr) (cc1_0 : Nat) (greatest2 : Int) (x3 : Int) (hown : ∀ b, own b ≤ 1) (hAc1_0 : RdO own [1] w R5 Ac1_0 cc1_0 c1.1) (r : ((List Int) × Int × Int) × Int) (hs : ref26_Up c1 greatest2 x3 = some r) :
    Calls Try.prog 26 #[.agg #[.slice Ac1_0 c1.1.length cc1_0, .int .i64 c1.2.1, .int .i64 c1.2.2], .int .i64 greatest2, .int .i64 x3] w fun e w' => ∃ (own' : Own) (x : Option Addr × Nat), e = .returned (.tuple #[.agg #[.slice x.1 r.1.1.length x.2, .int .i64 r.1.2.1, .int .i64 r.1.2.2], .int .i64 r.2]) ∧ Evo [] own own' w w' ∧ RdO own' [1, 2] w' R5 x.1 x.2 r.1.1 := by
  refine fl_enter (n := 32) rfl rfl rfl (Nat.le_of_ble_eq_true rfl) ?_
  intro a0 Q hd0 hz0 harg hret
  have ha0 := harg 0 _ rfl
  have ha1 := harg 1 _ rfl
  have ha2 := harg 2 _ rfl
  clear harg
  have hE0 : Evo [] own own w w := Evo.refl _ _ _
  refine rg0_seq 32 own [0, 0, 0] [⟨[], [0], [], Fct.blk 50 3 (fun g => .pointer (some ⟨g, 0, none⟩)) 72 #[.slice Ac1_0 c1.1.length cc1_0, .int .i64 c1.2.1, .int .i64 c1.2.2]⟩, ⟨[], [], [], Fct.blk 52 6 (fun g => .pointer (some ⟨g, 0, none⟩)) 72 #[.slice none 0 0, .int .i64 0, .int .i64 0]⟩, ⟨[], [], [], Fct.val 7 (.int .i64 0)⟩] hz0 hd0 (by kernel_rfl) ?_ ?_
  · refine sc (fun _ _ _ _ s _ => px (or_new [(0, .agg #[.slice Ac1_0 c1.1.length cc1_0, .int .i64 c1.2.1, .int .i64 c1.2.2])] rfl rfl ⟨(s.1.trans ha0), trivial⟩ (by kernel_rfl))) ?_
    refine sc (fun _ _ _ _ _ _ => px (or_new [] rfl rfl trivial (by kernel_rfl))) ?_
    refine sc (fun _ _ _ _ _ _ => px (or_assign rfl)) ?_
    exact steps_nil
  intro own53 a53 w53 hd53 hz53 hk53 hf53 hE53
  have e53_1 := (hk53 1 rfl).trans ha1
  have e53_2 := (hk53 2 rfl).trans ha2
  obtain ⟨⟨g49, (e53_3 : a53.eval (.tmp 3) = .pointer (some ⟨g49, 0, none⟩)), (b53_g49 : BlkO own53 50 w53 g49 72 #[.slice Ac1_0 c1.1.length cc1_0, .int .i64 c1.2.1, .int .i64 c1.2.2])⟩, ⟨g51, (e53_6 : a53.eval (.tmp 6) = .pointer (some ⟨g51, 0, none⟩)), (b53_g51 : BlkO own53 52 w53 g51 72 #[.slice none 0 0, .int .i64 0, .int .i64 0])⟩, -⟩ := hf53 [0, 1] rfl
  have hX53 := Evo.step hE0 hown hE53 rfl
  have b53_Ac1_0 := RdO.evo rfl hE53 hAc1_0
  obtain ⟨r58, hr58, hs⟩ := obind hs
  refine rg_plain_seq (n := 32) (rs := [Fct.at_ 50 g49 72 #[.slice Ac1_0 c1.1.length cc1_0, .int .i64 c1.2.1, .int .i64 c1.2.2]]) (own0 := own53) (K := [50]) (bs := [0, 1, 3, 7, 7, 15, 63]) (ds := [⟨[7], [3], [], Fct.val 10 (.agg #[.slice Ac1_0 c1.1.length cc1_0, .int .i64 c1.2.1, .int .i64 c1.2.2])⟩, ⟨[0], [], [], Fct.mems [60, 61, 1] 11 (fun (x : Option Addr × Nat) => .tuple #[.agg #[.slice x.1 r58.1.1.length x.2, .int .i64 r58.1.2.1, .int .i64 r58.1.2.2], .int .u64 r58.2]) (fun (x : Option Addr × Nat) own w => RdO own [60, 61, 1] w R5 x.1 x.2 r58.1.1) (fun hk he h => RdO.evo (hits_sub hk (by decide)) he h)⟩, ⟨[1], [], [], Fct.rel [9, 11] (fun l => ∀ (A59 : Option Addr) (cA59 : Nat), l.getD 1 undef = .tuple #[.agg #[.slice A59 r58.1.1.length cA59, .int .i64 r58.1.2.1, .int .i64 r58.1.2.2], .int .u64 r58.2] → l.getD 0 undef = .tuple #[.agg #[.slice A59 r58.1.1.length cA59, .int .i64 r58.1.2.1, .int .i64 r58.1.2.2], .int .u64 r58.2])⟩, ⟨[2, 1], [], [], Fct.rel [12, 11] (fun l => ∀ (A59 : Option Addr) (cA59 : Nat), l.getD 1 undef = .tuple #[.agg #[.slice A59 r58.1.1.length cA59, .int .i64 r58.1.2.1, .int .i64 r58.1.2.2], .int .u64 r58.2] → l.getD 0 undef = .agg #[.slice A59 r58.1.1.length cA59, .int .i64 r58.1.2.1, .int .i64 r58.1.2.2])⟩, ⟨[2, 1], [], [], Fct.val 13 (.int .u64 r58.2)⟩, ⟨[3, 1, 7], [3], [50], Fct.by_ [62] [11] (fun l own w => ∀ (A59 : Option Addr) (cA59 : Nat), l.getD 0 undef = .tuple #[.agg #[.slice A59 r58.1.1.length cA59, .int .i64 r58.1.2.1, .int .i64 r58.1.2.2], .int .u64 r58.2] → BlkO own 62 w g49 72 #[.slice A59 r58.1.1.length cA59, .int .i64 r58.1.2.1, .int .i64 r58.1.2.2]) (fun hk he h _ _ h0' => BlkO.evo (not_hit hk (by decide)) he (h _ _ h0'))⟩, ⟨[4], [], [], Fct.val 8 (.int .u64 r58.2)⟩]) (by kernel_rfl) hz53 hd53 (by simp only [List.forall_mem_cons]; exact ⟨b53_g49, fun _ h => nomatch h⟩) ?_ ?_
  · refine sc (fun own a wx hf hsl hE => ?_) ?_
    · obtain ⟨(b_g49 : BlkO own 50 wx g49 72 #[.slice Ac1_0 c1.1.length cc1_0, .int .i64 c1.2.1, .int .i64 c1.2.2]), -⟩ := hf
      obtain ⟨s_3, -⟩ := hsl
      exact px (or_load (l := [.slice Ac1_0 c1.1.length cc1_0, .int .i64 c1.2.1, .int .i64 c1.2.2]) ta72 (s_3.trans e53_3) (Blk.cellsFrom b_g49.2 0 rfl) rfl)
    refine sc (fun own _ _ f _ hE => px (or_call cf50 (args1 f.1) (ref26_Take_w _ (forth own (inL [1])) c1 Ac1_0 cc1_0 inL_le (RdO.alias_ (La := [1]) (RdO.evo rfl hE b53_Ac1_0) (by decide)) r58 hr58) (post_alias (La := [1]) (m' := (look0 [(1, 60), (2, 61)])) (fun own' w' a' x ho hsz h1 h => ⟨x, h1, RdO.backN_ ho hsz h (by decide) (by decide) (by decide)⟩)))) ?_
    refine sc (fun own a wx hf hsl hE => ?_) ?_
    · obtain ⟨⟨⟨A59, cA59⟩, (f_11 : a.eval (.tmp 11) = .tuple #[.agg #[.slice A59 r58.1.1.length cA59, .int .i64 r58.1.2.1, .int .i64 r58.1.2.2], .int .u64 r58.2]), b_A59⟩, -⟩ := hf
      exact px (or_mono (f := Fct.val 9 (.tuple #[.agg #[.slice A59 r58.1.1.length cA59, .int .i64 r58.1.2.1, .int .i64 r58.1.2.2], .int .u64 r58.2])) (or_move f_11) (fun own' a' w' v' hp h => fun _ _ h0' => by cases (f_11.symm.trans ((hp.2 11 (by decide)).symm.trans h0')); exact h))
    refine sc (fun own a wx hf hsl hE => ?_) ?_
    · obtain ⟨(q_9 : ∀ (A59 : Option Addr) (cA59 : Nat), a.eval (.tmp 11) = .tuple #[.agg #[.slice A59 r58.1.1.length cA59, .int .i64 r58.1.2.1, .int .i64 r58.1.2.2], .int .u64 r58.2] → a.eval (.tmp 9) = .tuple #[.agg #[.slice A59 r58.1.1.length cA59, .int .i64 r58.1.2.1, .int .i64 r58.1.2.2], .int .u64 r58.2]), ⟨⟨A59, cA59⟩, (f_11 : a.eval (.tmp 11) = .tuple #[.agg #[.slice A59 r58.1.1.length cA59, .int .i64 r58.1.2.1, .int .i64 r58.1.2.2], .int .u64 r58.2]), b_A59⟩, -⟩ := hf
      have f_9 := q_9 _ _ f_11
      exact px (or_mono (f := Fct.val 12 (.agg #[.slice A59 r58.1.1.length cA59, .int .i64 r58.1.2.1, .int .i64 r58.1.2.2])) (or_k [(9, .tuple #[.agg #[.slice A59 r58.1.1.length cA59, .int .i64 r58.1.2.1, .int .i64 r58.1.2.2], .int .u64 r58.2])] rfl rfl ⟨f_9, trivial⟩ (by kernel_rfl)) (fun own' a' w' v' hp h => fun _ _ h0' => by cases (f_11.symm.trans ((hp.2 11 (by decide)).symm.trans h0')); exact h))
    refine sc (fun own a wx hf hsl hE => ?_) ?_
    · obtain ⟨(q_9 : ∀ (A59 : Option Addr) (cA59 : Nat), a.eval (.tmp 11) = .tuple #[.agg #[.slice A59 r58.1.1.length cA59, .int .i64 r58.1.2.1, .int .i64 r58.1.2.2], .int .u64 r58.2] → a.eval (.tmp 9) = .tuple #[.agg #[.slice A59 r58.1.1.length cA59, .int .i64 r58.1.2.1, .int .i64 r58.1.2.2], .int .u64 r58.2]), ⟨⟨A59, cA59⟩, f_11, b_A59⟩, -⟩ := hf
      have f_9 := q_9 _ _ f_11
      exact px (or_k [(9, .tuple #[.agg #[.slice A59 r58.1.1.length cA59, .int .i64 r58.1.2.1, .int .i64 r58.1.2.2], .int .u64 r58.2])] rfl rfl ⟨f_9, trivial⟩ (by kernel_rfl))
    refine sc (fun own a wx hf hsl hE => ?_) ?_
    · obtain ⟨(q_12 : ∀ (A59 : Option Addr) (cA59 : Nat), a.eval (.tmp 11) = .tuple #[.agg #[.slice A59 r58.1.1.length cA59, .int .i64 r58.1.2.1, .int .i64 r58.1.2.2], .int .u64 r58.2] → a.eval (.tmp 12) = .agg #[.slice A59 r58.1.1.length cA59, .int .i64 r58.1.2.1, .int .i64 r58.1.2.2]), ⟨⟨A59, cA59⟩, (f_11 : a.eval (.tmp 11) = .tuple #[.agg #[.slice A59 r58.1.1.length cA59, .int .i64 r58.1.2.1, .int .i64 r58.1.2.2], .int .u64 r58.2]), b_A59⟩, b_g49, -⟩ := hf
      have f_12 := q_12 _ _ f_11
      obtain ⟨s_3, -⟩ := hsl
      exact px (or_store (l := #[.slice A59 r58.1.1.length cA59, .int .i64 r58.1.2.1, .int .i64 r58.1.2.2]) (lab := 50) (lab2 := 62) ts72 (s_3.trans e53_3) f_12 b_g49 (by simp) (by kernel_rfl) (mem_of rfl) (by decide) (by kernel_rfl) (fun own' a' w' ha hb => fun _ _ h0' => by cases (f_11.symm.trans ((ha 11).symm.trans h0')); exact hb))
    refine sc (fun _ _ _ f _ _ => px (or_assign f.1)) ?_
    exact steps_nil
  intro own63 a63 w63 hd63 hz63 hk63 hf63 hE63
  have e63_1 := (hk63 1 rfl).trans e53_1
  have e63_2 := (hk63 2 rfl).trans e53_2
  have e63_3 := (hk63 3 rfl).trans e53_3
  have e63_6 := (hk63 6 rfl).trans e53_6
  obtain ⟨(e63_8 : a63.eval (.tmp 8) = .int .u64 r58.2), ⟨⟨A59, cA59⟩, (f_11 : a63.eval (.tmp 11) = .tuple #[.agg #[.slice A59 r58.1.1.length cA59, .int .i64 r58.1.2.1, .int .i64 r58.1.2.2], .int .u64 r58.2]), (b63_A59 : RdO own63 [60, 61, 1] w63 R5 A59 cA59 r58.1.1)⟩, (bq_g49 : ∀ (A59 : Option Addr) (cA59 : Nat), a63.eval (.tmp 11) = .tuple #[.agg #[.slice A59 r58.1.1.length cA59, .int .i64 r58.1.2.1, .int .i64 r58.1.2.2], .int .u64 r58.2] → BlkO own63 62 w63 g49 72 #[.slice A59 r58.1.1.length cA59, .int .i64 r58.1.2.1, .int .i64 r58.1.2.2]), -⟩ := hf63 [6, 1, 5] rfl
  have b63_g49 := bq_g49 _ _ f_11
  have hX63 := Evo.step hX53 hown hE63 rfl
  have b63_g51 := be_ hE63 b53_g51
  refine fl_seq (fun Q64 hn64 hp64 => ?_)
  have K72 : ∀ (a72 : Act) (w72 : World) (own72 : Own) (c71 : Int), a72.defers = [] → a72.tmps.size = 32 → a72.eval (.tmp 3) = .pointer (some ⟨g49, 0, none⟩) → a72.eval (.tmp 6) = .pointer (some ⟨g51, 0, none⟩) → a72.eval (.tmp 8) = .int .u64 r58.2 → Evo [] own own72 w w72 → BlkO own72 70 w72 g49 72 #[.slice A59 r58.1.1.length cA59, .int .i64 r58.1.2.1, .int .i64 c71] → RdO own72 [60, 61, 1] w72 R5 A59 cA59 r58.1.1 → BlkO own72 52 w72 g51 72 #[.slice none 0 0, .int .i64 0, .int .i64 0] → ref26_Up_k1 r58 c71 = some r → Q64 .normal a72 w72 := by
    intro a72 w72 own72 c71 hd73 hz73 e73_3 e73_6 e73_8 hE73 b73_g49 b73_A59 b73_g51 hs
    refine hn64 _ _ ?_
    refine fl_seq (fun Q74 hn74 hp74 => ?_)
    refine rg0_seq 32 own72 (bz 3) [⟨[], [3], [], Fct.val 25 (.pointer (some ⟨g49, 2, none⟩))⟩, ⟨[0], [], [], Fct.val 26 (.int .i64 c71)⟩, ⟨[1], [], [], Fct.val 27 (.bool (!decide (c71 = 0)))⟩] hz73 hd73 (by kernel_rfl) ?_ ?_
    · refine sc (fun _ _ _ _ s _ => px (or_field fo72_2 (s.1.trans e73_3) (by rfl))) ?_
      refine sc (fun _ _ _ f _ hE => px (or_load1 to3 f.1 (Blk.at_ (be_ hE b73_g49).2 2 rfl))) ?_
      refine sc (fun _ _ _ f _ _ => px (or_neq f.1 rfl rfl)) ?_
      exact steps_nil
    intro own75 a75 w75 hd75 hz75 hk75 hf75 hE75
    have e75_3 := (hk75 3 rfl).trans e73_3
    have e75_6 := (hk75 6 rfl).trans e73_6
    have e75_8 := (hk75 8 rfl).trans e73_8
    obtain ⟨(e75_27 : a75.eval (.tmp 27) = .bool (!decide (c71 = 0))), -⟩ := hf75 [2] rfl
    have hX75 := Evo.step hE73 hown hE75 rfl
    have b75_g49 := be_ hE75 b73_g49
    have b75_A59 := RdO.evo rfl hE75 b73_A59
    have b75_g51 := be_ hE75 b73_g51
    refine fl_cond e75_27 hs (fun c76 hs => ?_) (fun c76 hs => ?_)
    · refine rg_plain_seq (n := 32) (rs := [Fct.at_ 52 g51 72 #[.slice none 0 0, .int .i64 0, .int .i64 0]]) (own0 := own75) (K := [52]) (bs := (bz 3)) (ds := [⟨[], [3], [], Fct.val 28 (.agg #[.slice A59 r58.1.1.length cA59, .int .i64 r58.1.2.1, .int .i64 c71])⟩, ⟨[0, 3], [6], [52], Fct.at_ 77 g51 72 #[.slice A59 r58.1.1.length cA59, .int .i64 r58.1.2.1, .int .i64 c71]⟩, ⟨[], [], [], Fct.val 7 (.int .i64 0)⟩]) (by kernel_rfl) hz75 hd75 (by simp only [List.forall_mem_cons]; exact ⟨b75_g51, fun _ h => nomatch h⟩) ?_ ?_
      · refine sc (fun _ _ _ _ s hE => px (or_load (l := [.slice A59 r58.1.1.length cA59, .int .i64 r58.1.2.1, .int .i64 c71]) ta72 (s.1.trans e75_3) (Blk.cellsFrom (be_ hE b75_g49).2 0 rfl) rfl)) ?_
        refine sc (fun own a wx hf hsl hE => ?_) ?_
        · obtain ⟨f_28, b_g51, -⟩ := hf
          obtain ⟨s_6, -⟩ := hsl
          exact px (or_store (l := #[.slice A59 r58.1.1.length cA59, .int .i64 r58.1.2.1, .int .i64 c71]) (lab := 52) (lab2 := 77) ts72 (s_6.trans e75_6) f_28 b_g51 (by simp) (by kernel_rfl) (mem_of rfl) (by decide) (by kernel_rfl) (fun own' a' w' ha hb => hb))
        refine sc (fun _ _ _ _ _ _ => px (or_assign rfl)) ?_
        exact steps_nil
      intro own78 a78 w78 hd78 hz78 hk78 hf78 hE78
      have e78_6 := (hk78 6 rfl).trans e75_6
      obtain ⟨(e78_7 : a78.eval (.tmp 7) = .int .i64 0), (b78_g51 : BlkO own78 77 w78 g51 72 #[.slice A59 r58.1.1.length cA59, .int .i64 r58.1.2.1, .int .i64 c71]), -⟩ := hf78 [2, 1] rfl
      have hX78 := Evo.step hX75 hown hE78 rfl
      have b78_A59 := RdO.evo rfl hE78 b75_A59
      refine fl_ret ?_
      refine hp74 _ _ _ rfl ?_
      obtain rfl := osome hs
      exact hret _ _ _ _ (.inl rfl) hd78 (results2_ rfl (RVal.cell_ e78_6 (run_loadVarAgg (l := [.slice A59 r58.1.1.length cA59, .int .i64 r58.1.2.1, .int .i64 c71]) ta72 (Blk.cellsFrom b78_g51.2 0 rfl) rfl)) (RVal.tmp_ e78_7)) ⟨(rl [(60, 2), (61, 2)] own78), (A59, cA59), rfl, (Evo.rl_ hX78 hown rfl), (RdO.more (RdO.rl_ (mm := [(60, 2), (61, 2)]) b78_A59) (by decide))⟩
    refine fl_skip ?_
    refine hn74 _ _ ?_
    refine rg_plain_seq (n := 32) (rs := [Fct.at_ 52 g51 72 #[.slice none 0 0, .int .i64 0, .int .i64 0]]) (own0 := own75) (K := [52]) (bs := [0, 0, 2, 1, 15]) (ds := [⟨[], [3], [], Fct.val 29 (.agg #[.slice A59 r58.1.1.length cA59, .int .i64 r58.1.2.1, .int .i64 c71])⟩, ⟨[], [8], [], Fct.val 30 (.int .u64 r58.2)⟩, ⟨[1], [], [], Fct.val 31 (.int .i64 (IntKind.i64.wrap r58.2))⟩, ⟨[0, 5], [6], [52], Fct.at_ 79 g51 72 #[.slice A59 r58.1.1.length cA59, .int .i64 r58.1.2.1, .int .i64 c71]⟩, ⟨[2], [], [], Fct.val 7 (.int .i64 (IntKind.i64.wrap r58.2))⟩]) (by kernel_rfl) hz75 hd75 (by simp only [List.forall_mem_cons]; exact ⟨b75_g51, fun _ h => nomatch h⟩) ?_ ?_
    · refine sc (fun _ _ _ _ s hE => px (or_load (l := [.slice A59 r58.1.1.length cA59, .int .i64 r58.1.2.1, .int .i64 c71]) ta72 (s.1.trans e75_3) (Blk.cellsFrom (be_ hE b75_g49).2 0 rfl) rfl)) ?_
      refine sc (fun _ _ _ _ s _ => px (or_move (s.1.trans e75_8))) ?_
      refine sc (fun _ _ _ f _ _ => px (or_conv f.1 tn26 tn3 rfl)) ?_
      refine sc (fun own a wx hf hsl hE => ?_) ?_
      · obtain ⟨f_29, b_g51, -⟩ := hf
        obtain ⟨s_6, -⟩ := hsl
        exact px (or_store (l := #[.slice A59 r58.1.1.length cA59, .int .i64 r58.1.2.1, .int .i64 c71]) (lab := 52) (lab2 := 79) ts72 (s_6.trans e75_6) f_29 b_g51 (by simp) (by kernel_rfl) (mem_of rfl) (by decide) (by kernel_rfl) (fun own' a' w' ha hb => hb))
      refine sc (fun _ _ _ f _ _ => px (or_assign f.1)) ?_
      exact steps_nil
    intro own80 a80 w80 hd80 hz80 hk80 hf80 hE80
    have e80_6 := (hk80 6 rfl).trans e75_6
    obtain ⟨(e80_7 : a80.eval (.tmp 7) = .int .i64 (IntKind.i64.wrap r58.2)), (b80_g51 : BlkO own80 79 w80 g51 72 #[.slice A59 r58.1.1.length cA59, .int .i64 r58.1.2.1, .int .i64 c71]), -⟩ := hf80 [4, 3] rfl
    have hX80 := Evo.step hX75 hown hE80 rfl
    have b80_A59 := RdO.evo rfl hE80 b75_A59
    refine fl_ret ?_
    obtain rfl := osome hs
    exact hret _ _ _ _ (.inl rfl) hd80 (results2_ rfl (RVal.cell_ e80_6 (run_loadVarAgg (l := [.slice A59 r58.1.1.length cA59, .int .i64 r58.1.2.1, .int .i64 c71]) ta72 (Blk.cellsFrom b80_g51.2 0 rfl) rfl)) (RVal.tmp_ e80_7)) ⟨(rl [(60, 2), (61, 2)] own80), (A59, cA59), rfl, (Evo.rl_ hX80 hown rfl), (RdO.more (RdO.rl_ (mm := [(60, 2), (61, 2)]) b80_A59) (by decide))⟩
  obtain ⟨x81, hx81, hs⟩ := obind hs
  refine rg0_seq 32 own63 [0, 1, 3, 7, 15, 15, 47, 127, 255] [⟨[], [3], [], Fct.val 14 (.pointer (some ⟨g49, 2, none⟩))⟩, ⟨[0], [], [], Fct.val 15 (.int .i64 r58.1.2.2)⟩, ⟨[1], [], [], Fct.val 16 (.bool (decide (r58.1.2.2 = 0)))⟩, ⟨[2], [], [], Fct.val 17 (.bool (decide (r58.1.2.2 = 0)))⟩, ⟨[3], [8], [], Fct.cond (decide (r58.1.2.2 = 0)) (some 18) (Fct.val 18 (.int .u64 r58.2))⟩, ⟨[3], [1], [], Fct.cond (decide (r58.1.2.2 = 0)) (some 19) (Fct.val 19 (.int .i64 greatest2))⟩, ⟨[3, 5], [], [], Fct.cond (decide (r58.1.2.2 = 0)) (some 20) (Fct.val 20 (.int .u64 (IntKind.u64.wrap greatest2)))⟩, ⟨[3, 4, 6], [], [], Fct.cond (decide (r58.1.2.2 = 0)) (some 21) (Fct.val 21 (.bool (decide ((IntKind.u64.wrap greatest2) < r58.2))))⟩, ⟨[3, 7], [], [], Fct.val 22 (.bool x81)⟩] hz63 hd63 (by kernel_rfl) ?_ ?_
  · refine sc (fun _ _ _ _ s _ => px (or_field fo72_2 (s.1.trans e63_3) (by rfl))) ?_
    refine sc (fun _ _ _ f _ hE => px (or_load1 to3 f.1 (Blk.at_ (be_ hE b63_g49).2 2 rfl))) ?_
    refine sc (fun _ _ _ f _ _ => px (or_eql f.1 rfl rfl)) ?_
    refine sc (fun _ _ _ f _ _ => px (or_move f.1)) ?_
    refine sc (fun _ _ _ f s _ => sg_t rfl rfl rfl f.1 (fun hg => or_move (s.1.trans e63_8))) ?_
    refine sc (fun _ _ _ f s _ => sg_t rfl rfl rfl f.1 (fun hg => or_move (s.1.trans e63_1))) ?_
    refine sc (fun _ _ _ f _ _ => sg_t rfl rfl rfl f.1 (fun hg => or_conv (f.2.1.1 hg) tn3 tn26 rfl)) ?_
    refine sc (fun _ _ _ f _ _ => sg_t rfl rfl rfl f.1 (fun hg => or_gtr (f.2.1.1 hg) (f.2.2.1.1 hg) rfl)) ?_
    refine sc (fun _ _ _ f _ _ => px (or_and f.1 (fun hx => f.2.1.1 hx) rfl (osome hx81).symm)) ?_
    exact steps_nil
  intro own82 a82 w82 hd82 hz82 hk82 hf82 hE82
  have e82_2 := (hk82 2 rfl).trans e63_2
  have e82_3 := (hk82 3 rfl).trans e63_3
  have e82_6 := (hk82 6 rfl).trans e63_6
  have e82_8 := (hk82 8 rfl).trans e63_8
  obtain ⟨(e82_22 : a82.eval (.tmp 22) = .bool x81), -⟩ := hf82 [8] rfl
  have hX82 := Evo.step hX63 hown hE82 rfl
  have b82_g51 := be_ hE82 b63_g51
  have b82_g49 := be_ hE82 b63_g49
  have b82_A59 := RdO.evo rfl hE82 b63_A59
  refine fl_cond e82_22 hs (fun c83 hs => ?_) (fun c83 hs => ?_)
  · refine rg_plain (n := 32) (rs := [Fct.at_ 62 g49 72 #[.slice A59 r58.1.1.length cA59, .int .i64 r58.1.2.1, .int .i64 r58.1.2.2]]) (own0 := own82) (K := [62]) (bs := (bz 3)) (ds := [⟨[], [2], [], Fct.val 23 (.int .i64 x3)⟩, ⟨[], [3], [], Fct.val 24 (.pointer (some ⟨g49, 2, none⟩))⟩, ⟨[1, 0, 3], [], [62], Fct.at_ 84 g49 72 #[.slice A59 r58.1.1.length cA59, .int .i64 r58.1.2.1, .int .i64 x3]⟩]) (by kernel_rfl) hz82 hd82 (by simp only [List.forall_mem_cons]; exact ⟨b82_g49, fun _ h => nomatch h⟩) ?_ ?_
    · refine sc (fun _ _ _ _ s _ => px (or_move (s.1.trans e82_2))) ?_
      refine sc (fun _ _ _ _ s _ => px (or_field fo72_2 (s.1.trans e82_3) (by rfl))) ?_
      refine sc (fun own a wx hf hsl hE => ?_) ?_
      · obtain ⟨f_24, f_23, b_g49, -⟩ := hf
        exact px (or_store1 (lab := 62) (lab2 := 84) ts3 f_24 f_23 b_g49 (by simp) rfl (mem_of rfl) (by decide) rfl (fun own' a' w' ha hb => hb))
      exact steps_nil
    intro own85 a85 w85 hd85 hz85 hk85 hf85 hE85
    have e85_3 := (hk85 3 rfl).trans e82_3
    have e85_6 := (hk85 6 rfl).trans e82_6
    have e85_8 := (hk85 8 rfl).trans e82_8
    obtain ⟨(b85_g49 : BlkO own85 84 w85 g49 72 #[.slice A59 r58.1.1.length cA59, .int .i64 r58.1.2.1, .int .i64 x3]), -⟩ := hf85 [2] rfl
    have hX85 := Evo.step hX82 hown hE85 rfl
    have b85_g51 := be_ hE85 b82_g51
    have b85_A59 := RdO.evo rfl hE85 b82_A59
    exact (K72 _ _ (rl [(84, 70)] own85) _ hd85 hz85 e85_3 e85_6 e85_8 (Evo.rl_ hX85 hown rfl) (BlkO.rl_ (mm := [(84, 70)]) b85_g49) (RdO.rl_ (mm := [(84, 70)]) b85_A59) (BlkO.rl_ (mm := [(84, 70)]) b85_g51) hs)
  refine fl_skip ?_
  exact (K72 _ _ (rl [(62, 70)] own82) _ hd82 hz82 e82_3 e82_6 e82_8 (Evo.rl_ hX82 hown rfl) (BlkO.rl_ (mm := [(62, 70)]) b82_g49) (RdO.rl_ (mm := [(62, 70)]) b82_A59) (BlkO.rl_ (mm := [(62, 70)]) b82_g51) hs)
theorem ref07_Zag_w (w : World) (u1 : Int) (r : Int) (hs : ref07_Zag u1 = some r) :
    Calls Try.prog 51 #[.int .u64 u1] w fun e w' => ∃ own' : Own, e = .returned (.int .i64 r) ∧ Evo [] (fun _ => 0) own' w w' := by
  refine fl_enter (n := 14) rfl rfl rfl (Nat.le_of_ble_eq_true rfl) ?_
  intro a0 Q hd0 hz0 harg hret
  have ha0 := harg 0 _ rfl
  clear harg
  have hE0 : Evo [] (fun _ => 0) (fun _ => 0) w w := Evo.refl _ _ _
  refine rg0_seq 14 (fun _ => 0) (bz 1) [⟨[], [], [], Fct.val 2 (.int .i64 0)⟩] hz0 hd0 (by kernel_rfl) ?_ ?_
  · refine sc (fun _ _ _ _ _ _ => px (or_assign rfl)) ?_
    exact steps_nil
  intro own20 a20 w20 hd20 hz20 hk20 hf20 hE20
  have e20_0 := (hk20 0 rfl).trans ha0
  have hX20 := es_ hE0 hE20
  refine fl_seq (fun Q21 hn21 hp21 => ?_)
  obtain ⟨x22, hx22, hs⟩ := obind hs
  refine rg0_seq 14 own20 (bz 3) [⟨[], [0], [], Fct.val 3 (.int .u64 u1)⟩, ⟨[0], [], [], Fct.val 4 (.int .u64 x22)⟩, ⟨[1], [], [], Fct.val 5 (.bool (decide (x22 = 1)))⟩] hz20 hd20 (by kernel_rfl) ?_ ?_
  · refine sc (fun _ _ _ _ s _ => px (or_move (s.1.trans e20_0))) ?_
    refine sc (fun _ _ _ f _ _ => px (or_rem f.1 rfl hx22)) ?_
    refine sc (fun _ _ _ f _ _ => px (or_eql f.1 rfl rfl)) ?_
    exact steps_nil
  intro own23 a23 w23 hd23 hz23 hk23 hf23 hE23
  have e23_0 := (hk23 0 rfl).trans e20_0
  obtain ⟨(e23_5 : a23.eval (.tmp 5) = .bool (decide (x22 = 1))), -⟩ := hf23 [2] rfl
  have hX23 := es_ hX20 hE23
  refine fl_cond e23_5 hs (fun c24 hs => ?_) (fun c24 hs => ?_)
  · obtain ⟨x25, hx25, hs⟩ := obind hs
    refine rg0_seq 14 own23 (bz 6) [⟨[], [0], [], Fct.val 6 (.int .u64 u1)⟩, ⟨[0], [], [], Fct.val 7 (.int .u64 x25)⟩, ⟨[1], [], [], Fct.val 8 (.int .i64 (IntKind.i64.wrap x25))⟩, ⟨[2], [], [], Fct.val 9 (.int .i64 (ng (IntKind.i64.wrap x25)))⟩, ⟨[3], [], [], Fct.val 10 (.int .i64 (sb (ng (IntKind.i64.wrap x25)) 1))⟩, ⟨[4], [], [], Fct.val 2 (.int .i64 (sb (ng (IntKind.i64.wrap x25)) 1))⟩] hz23 hd23 (by kernel_rfl) ?_ ?_
    · refine sc (fun _ _ _ _ s _ => px (or_move (s.1.trans e23_0))) ?_
      refine sc (fun _ _ _ f _ _ => px (or_quo f.1 rfl hx25)) ?_
      refine sc (fun _ _ _ f _ _ => px (or_conv f.1 tn26 tn3 rfl)) ?_
      refine sc (fun _ _ _ f _ _ => px (or_neg f.1 rfl)) ?_
      refine sc (fun _ _ _ f _ _ => px (or_sub f.1 rfl rfl)) ?_
      refine sc (fun _ _ _ f _ _ => px (or_assign f.1)) ?_
      exact steps_nil
    intro own26 a26 w26 hd26 hz26 hk26 hf26 hE26
    obtain ⟨(e26_2 : a26.eval (.tmp 2) = .int .i64 (sb (ng (IntKind.i64.wrap x25)) 1)), -⟩ := hf26 [5] rfl
    have hX26 := es_ hX23 hE26
    refine fl_ret ?_
    refine hp21 _ _ _ rfl ?_
    obtain rfl := osome hs
    exact hret _ _ _ _ (.inl rfl) hd26 (results1_ rfl (RVal.tmp_ e26_2)) ⟨own26, rfl, hX26⟩
  refine fl_skip ?_
  refine hn21 _ _ ?_
  obtain ⟨x27, hx27, hs⟩ := obind hs
  refine rg0_seq 14 own23 (bz 4) [⟨[], [0], [], Fct.val 11 (.int .u64 u1)⟩, ⟨[0], [], [], Fct.val 12 (.int .u64 x27)⟩, ⟨[1], [], [], Fct.val 13 (.int .i64 (IntKind.i64.wrap x27))⟩, ⟨[2], [], [], Fct.val 2 (.int .i64 (IntKind.i64.wrap x27))⟩] hz23 hd23 (by kernel_rfl) ?_ ?_
  · refine sc (fun _ _ _ _ s _ => px (or_move (s.1.trans e23_0))) ?_
    refine sc (fun _ _ _ f _ _ => px (or_quo f.1 rfl hx27)) ?_
    refine sc (fun _ _ _ f _ _ => px (or_conv f.1 tn26 tn3 rfl)) ?_
    refine sc (fun _ _ _ f _ _ => px (or_assign f.1)) ?_
    exact steps_nil
  intro own28 a28 w28 hd28 hz28 hk28 hf28 hE28
  obtain ⟨(e28_2 : a28.eval (.tmp 2) = .int .i64 (IntKind.i64.wrap x27)), -⟩ := hf28 [3] rfl
  have hX28 := es_ hX23 hE28
  refine fl_ret ?_
  obtain rfl := osome hs
  exact hret _ _ _ _ (.inl rfl) hd28 (results1_ rfl (RVal.tmp_ e28_2)) ⟨own28, rfl, hX28⟩
theorem ref26_Turned_w (w : World) (own : Own) (c1 : (List Int) × Int × Int) (Ac1_0 : Option Addr) (cc1_0 : Nat) (x2 : Int) (least3 : Int) (greatest4 : Int) (hown : ∀ b, own b ≤ 1) (hAc1_0 : RdO own [1] w R5 Ac1_0 cc1_0 c1.1) (r : ((List Int) × Int × Int) × Int) (hs : ref26_Turned c1 x2 least3 greatest4 = some r) :
    Calls Try.prog 27 #[.agg #[.slice Ac1_0 c1.1.length cc1_0, .int .i64 c1.2.1, .int .i64 c1.2.2], .int .i64 x2, .int .i64 least3, .int .i64 greatest4] w fun e w' => ∃ (own' : Own) (x : Option Addr × Nat), e = .returned (.tuple #[.agg #[.slice x.1 r.1.1.length x.2, .int .i64 r.1.2.1, .int .i64 r.1.2.2], .int .i64 r.2]) ∧ Evo [] own own' w w' ∧ RdO own' [1, 2] w' R5 x.1 x.2 r.1.1 := by
  refine fl_enter (n := 53) rfl rfl rfl (Nat.le_of_ble_eq_true rfl) ?_
  intro a0 Q hd0 hz0 harg hret
  have ha0 := harg 0 _ rfl
  have ha1 := harg 1 _ rfl
  have ha2 := harg 2 _ rfl
  have ha3 := harg 3 _ rfl
  clear harg
  have hE0 : Evo [] own own w w := Evo.refl _ _ _
  refine rg0_seq 53 own [0, 0, 0] [⟨[], [0], [], Fct.blk 56 4 (fun g => .pointer (some ⟨g, 0, none⟩)) 72 #[.slice Ac1_0 c1.1.length cc1_0, .int .i64 c1.2.1, .int .i64 c1.2.2]⟩, ⟨[], [], [], Fct.blk 58 8 (fun g => .pointer (some ⟨g, 0, none⟩)) 72 #[.slice none 0 0, .int .i64 0, .int .i64 0]⟩, ⟨[], [], [], Fct.val 9 (.int .i64 0)⟩] hz0 hd0 (by kernel_rfl) ?_ ?_
  · refine sc (fun _ _ _ _ s _ => px (or_new [(0, .agg #[.slice Ac1_0 c1.1.length cc1_0, .int .i64 c1.2.1, .int .i64 c1.2.2])] rfl rfl ⟨(s.1.trans ha0), trivial⟩ (by kernel_rfl))) ?_
    refine sc (fun _ _ _ _ _ _ => px (or_new [] rfl rfl trivial (by kernel_rfl))) ?_
    refine sc (fun _ _ _ _ _ _ => px (or_assign rfl)) ?_
    exact steps_nil
  intro own59 a59 w59 hd59 hz59 hk59 hf59 hE59
  have e59_1 := (hk59 1 rfl).trans ha1
  have e59_2 := (hk59 2 rfl).trans ha2
  have e59_3 := (hk59 3 rfl).trans ha3
  obtain ⟨⟨g55, (e59_4 : a59.eval (.tmp 4) = .pointer (some ⟨g55, 0, none⟩)), (b59_g55 : BlkO own59 56 w59 g55 72 #[.slice Ac1_0 c1.1.length cc1_0, .int .i64 c1.2.1, .int .i64 c1.2.2])⟩, ⟨g57, (e59_8 : a59.eval (.tmp 8) = .pointer (some ⟨g57, 0, none⟩)), (b59_g57 : BlkO own59 58 w59 g57 72 #[.slice none 0 0, .int .i64 0, .int .i64 0])⟩, -⟩ := hf59 [0, 1] rfl
  have hX59 := Evo.step hE0 hown hE59 rfl
  have b59_Ac1_0 := RdO.evo rfl hE59 hAc1_0
  obtain ⟨r64, hr64, hs⟩ := obind hs
  refine rg_plain_seq (n := 53) (rs := [Fct.at_ 56 g55 72 #[.slice Ac1_0 c1.1.length cc1_0, .int .i64 c1.2.1, .int .i64 c1.2.2]]) (own0 := own59) (K := [56]) (bs := [0, 1, 3, 7, 7, 15, 63]) (ds := [⟨[7], [4], [], Fct.val 13 (.agg #[.slice Ac1_0 c1.1.length cc1_0, .int .i64 c1.2.1, .int .i64 c1.2.2])⟩, ⟨[0], [], [], Fct.mems [66, 67, 1] 14 (fun (x : Option Addr × Nat) => .tuple #[.agg #[.slice x.1 r64.1.1.length x.2, .int .i64 r64.1.2.1, .int .i64 r64.1.2.2], .int .u64 r64.2]) (fun (x : Option Addr × Nat) own w => RdO own [66, 67, 1] w R5 x.1 x.2 r64.1.1) (fun hk he h => RdO.evo (hits_sub hk (by decide)) he h)⟩, ⟨[1], [], [], Fct.rel [12, 14] (fun l => ∀ (A65 : Option Addr) (cA65 : Nat), l.getD 1 undef = .tuple #[.agg #[.slice A65 r64.1.1.length cA65, .int .i64 r64.1.2.1, .int .i64 r64.1.2.2], .int .u64 r64.2] → l.getD 0 undef = .tuple #[.agg #[.slice A65 r64.1.1.length cA65, .int .i64 r64.1.2.1, .int .i64 r64.1.2.2], .int .u64 r64.2])⟩, ⟨[2, 1], [], [], Fct.rel [15, 14] (fun l => ∀ (A65 : Option Addr) (cA65 : Nat), l.getD 1 undef = .tuple #[.agg #[.slice A65 r64.1.1.length cA65, .int .i64 r64.1.2.1, .int .i64 r64.1.2.2], .int .u64 r64.2] → l.getD 0 undef = .agg #[.slice A65 r64.1.1.length cA65, .int .i64 r64.1.2.1, .int .i64 r64.1.2.2])⟩, ⟨[2, 1], [], [], Fct.val 16 (.int .u64 r64.2)⟩, ⟨[3, 1, 7], [4], [56], Fct.by_ [68] [14] (fun l own w => ∀ (A65 : Option Addr) (cA65 : Nat), l.getD 0 undef = .tuple #[.agg #[.slice A65 r64.1.1.length cA65, .int .i64 r64.1.2.1, .int .i64 r64.1.2.2], .int .u64 r64.2] → BlkO own 68 w g55 72 #[.slice A65 r64.1.1.length cA65, .int .i64 r64.1.2.1, .int .i64 r64.1.2.2]) (fun hk he h _ _ h0' => BlkO.evo (not_hit hk (by decide)) he (h _ _ h0'))⟩, ⟨[4], [], [], Fct.val 10 (.int .u64 r64.2)⟩]) (by kernel_rfl) hz59 hd59 (by simp only [List.forall_mem_cons]; exact ⟨b59_g55, fun _ h => nomatch h⟩) ?_ ?_
  · refine sc (fun own a wx hf hsl hE => ?_) ?_
    · obtain ⟨(b_g55 : BlkO own 56 wx g55 72 #[.slice Ac1_0 c1.1.length cc1_0, .int .i64 c1.2.1, .int .i64 c1.2.2]), -⟩ := hf
      obtain ⟨s_4, -⟩ := hsl
      exact px (or_load (l := [.slice Ac1_0 c1.1.length cc1_0, .int .i64 c1.2.1, .int .i64 c1.2.2]) ta72 (s_4.trans e59_4) (Blk.cellsFrom b_g55.2 0 rfl) rfl)
    refine sc (fun own _ _ f _ hE => px (or_call cf50 (args1 f.1) (ref26_Take_w _ (forth own (inL [1])) c1 Ac1_0 cc1_0 inL_le (RdO.alias_ (La := [1]) (RdO.evo rfl hE b59_Ac1_0) (by decide)) r64 hr64) (post_alias (La := [1]) (m' := (look0 [(1, 66), (2, 67)])) (fun own' w' a' x ho hsz h1 h => ⟨x, h1, RdO.backN_ ho hsz h (by decide) (by decide) (by decide)⟩)))) ?_
    refine sc (fun own a wx hf hsl hE => ?_) ?_
    · obtain ⟨⟨⟨A65, cA65⟩, (f_14 : a.eval (.tmp 14) = .tuple #[.agg #[.slice A65 r64.1.1.length cA65, .int .i64 r64.1.2.1, .int .i64 r64.1.2.2], .int .u64 r64.2]), b_A65⟩, -⟩ := hf
      exact px (or_mono (f := Fct.val 12 (.tuple #[.agg #[.slice A65 r64.1.1.length cA65, .int .i64 r64.1.2.1, .int .i64 r64.1.2.2], .int .u64 r64.2])) (or_move f_14) (fun own' a' w' v' hp h => fun _ _ h0' => by cases (f_14.symm.trans ((hp.2 14 (by decide)).symm.trans h0')); exact h))
    refine sc (fun own a wx hf hsl hE => ?_) ?_
    · obtain ⟨(q_12 : ∀ (A65 : Option Addr) (cA65 : Nat), a.eval (.tmp 14) = .tuple #[.agg #[.slice A65 r64.1.1.length cA65, .int .i64 r64.1.2.1, .int .i64 r64.1.2.2], .int .u64 r64.2] → a.eval (.tmp 12) = .tuple #[.agg #[.slice A65 r64.1.1.length cA65, .int .i64 r64.1.2.1, .int .i64 r64.1.2.2], .int .u64 r64.2]), ⟨⟨A65, cA65⟩, (f_14 : a.eval (.tmp 14) = .tuple #[.agg #[.slice A65 r64.1.1.length cA65, .int .i64 r64.1.2.1, .int .i64 r64.1.2.2], .int .u64 r64.2]), b_A65⟩, -⟩ := hf
      have f_12 := q_12 _ _ f_14
      exact px (or_mono (f := Fct.val 15 (.agg #[.slice A65 r64.1.1.length cA65, .int .i64 r64.1.2.1, .int .i64 r64.1.2.2])) (or_k [(12, .tuple #[.agg #[.slice A65 r64.1.1.length cA65, .int .i64 r64.1.2.1, .int .i64 r64.1.2.2], .int .u64 r64.2])] rfl rfl ⟨f_12, trivial⟩ (by kernel_rfl)) (fun own' a' w' v' hp h => fun _ _ h0' => by cases (f_14.symm.trans ((hp.2 14 (by decide)).symm.trans h0')); exact h))
    refine sc (fun own a wx hf hsl hE => ?_) ?_
    · obtain ⟨(q_12 : ∀ (A65 : Option Addr) (cA65 : Nat), a.eval (.tmp 14) = .tuple #[.agg #[.slice A65 r64.1.1.length cA65, .int .i64 r64.1.2.1, .int .i64 r64.1.2.2], .int .u64 r64.2] → a.eval (.tmp 12) = .tuple #[.agg #[.slice A65 r64.1.1.length cA65, .int .i64 r64.1.2.1, .int .i64 r64.1.2.2], .int .u64 r64.2]), ⟨⟨A65, cA65⟩, f_14, b_A65⟩, -⟩ := hf
      have f_12 := q_12 _ _ f_14
      exact px (or_k [(12, .tuple #[.agg #[.slice A65 r64.1.1.length cA65, .int .i64 r64.1.2.1, .int .i64 r64.1.2.2], .int .u64 r64.2])] rfl rfl ⟨f_12, trivial⟩ (by kernel_rfl))
    refine sc (fun own a wx hf hsl hE => ?_) ?_
    · obtain ⟨(q_15 : ∀ (A65 : Option Addr) (cA65 : Nat), a.eval (.tmp 14) = .tuple #[.agg #[.slice A65 r64.1.1.length cA65, .int .i64 r64.1.2.1, .int .i64 r64.1.2.2], .int .u64 r64.2] → a.eval (.tmp 15) = .agg #[.slice A65 r64.1.1.length cA65, .int .i64 r64.1.2.1, .int .i64 r64.1.2.2]), ⟨⟨A65, cA65⟩, (f_14 : a.eval (.tmp 14) = .tuple #[.agg #[.slice A65 r64.1.1.length cA65, .int .i64 r64.1.2.1, .int .i64 r64.1.2.2], .int .u64 r64.2]), b_A65⟩, b_g55, -⟩ := hf
      have f_15 := q_15 _ _ f_14
      obtain ⟨s_4, -⟩ := hsl
      exact px (or_store (l := #[.slice A65 r64.1.1.length cA65, .int .i64 r64.1.2.1, .int .i64 r64.1.2.2]) (lab := 56) (lab2 := 68) ts72 (s_4.trans e59_4) f_15 b_g55 (by simp) (by kernel_rfl) (mem_of rfl) (by decide) (by kernel_rfl) (fun own' a' w' ha hb => fun _ _ h0' => by cases (f_14.symm.trans ((ha 14).symm.trans h0')); exact hb))
    refine sc (fun _ _ _ f _ _ => px (or_assign f.1)) ?_
    exact steps_nil
  intro own69 a69 w69 hd69 hz69 hk69 hf69 hE69
  have e69_1 := (hk69 1 rfl).trans e59_1
  have e69_2 := (hk69 2 rfl).trans e59_2
  have e69_3 := (hk69 3 rfl).trans e59_3
  have e69_4 := (hk69 4 rfl).trans e59_4
  have e69_8 := (hk69 8 rfl).trans e59_8
  obtain ⟨(e69_10 : a69.eval (.tmp 10) = .int .u64 r64.2), ⟨⟨A65, cA65⟩, (f_14 : a69.eval (.tmp 14) = .tuple #[.agg #[.slice A65 r64.1.1.length cA65, .int .i64 r64.1.2.1, .int .i64 r64.1.2.2], .int .u64 r64.2]), (b69_A65 : RdO own69 [66, 67, 1] w69 R5 A65 cA65 r64.1.1)⟩, (bq_g55 : ∀ (A65 : Option Addr) (cA65 : Nat), a69.eval (.tmp 14) = .tuple #[.agg #[.slice A65 r64.1.1.length cA65, .int .i64 r64.1.2.1, .int .i64 r64.1.2.2], .int .u64 r64.2] → BlkO own69 68 w69 g55 72 #[.slice A65 r64.1.1.length cA65, .int .i64 r64.1.2.1, .int .i64 r64.1.2.2]), -⟩ := hf69 [6, 1, 5] rfl
  have b69_g55 := bq_g55 _ _ f_14
  have hX69 := Evo.step hX59 hown hE69 rfl
  have b69_g57 := be_ hE69 b59_g57
  obtain ⟨r70, hr70, hs⟩ := obind hs
  refine rg0_seq 53 own69 (bz 3) [⟨[], [10], [], Fct.val 17 (.int .u64 r64.2)⟩, ⟨[0], [], [], Fct.val 18 (.int .i64 r70)⟩, ⟨[1], [], [], Fct.val 11 (.int .i64 r70)⟩] hz69 hd69 (by kernel_rfl) ?_ ?_
  · refine sc (fun _ _ _ _ s _ => px (or_move (s.1.trans e69_10))) ?_
    refine sc (fun _ _ _ f _ _ => px (or_call cf51 (args1 f.1) (ref07_Zag_w _ r64.2  r70 hr70) post_val)) ?_
    refine sc (fun _ _ _ f _ _ => px (or_assign f.1)) ?_
    exact steps_nil
  intro own71 a71 w71 hd71 hz71 hk71 hf71 hE71
  have e71_1 := (hk71 1 rfl).trans e69_1
  have e71_2 := (hk71 2 rfl).trans e69_2
  have e71_3 := (hk71 3 rfl).trans e69_3
  have e71_4 := (hk71 4 rfl).trans e69_4
  have e71_8 := (hk71 8 rfl).trans e69_8
  obtain ⟨(e71_11 : a71.eval (.tmp 11) = .int .i64 r70), -⟩ := hf71 [2] rfl
  have hX71 := Evo.step hX69 hown hE71 rfl
  have b71_g57 := be_ hE71 b69_g57
  have b71_g55 := be_ hE71 b69_g55
  have b71_A65 := RdO.evo rfl hE71 b69_A65
  refine fl_seq (fun Q72 hn72 hp72 => ?_)
  have K82 : ∀ (a82 : Act) (w82 : World) (own82 : Own) (c81 : Int), a82.defers = [] → a82.tmps.size = 53 → a82.eval (.tmp 1) = .int .i64 x2 → a82.eval (.tmp 4) = .pointer (some ⟨g55, 0, none⟩) → a82.eval (.tmp 8) = .pointer (some ⟨g57, 0, none⟩) → a82.eval (.tmp 11) = .int .i64 r70 → Evo [] own own82 w w82 → BlkO own82 80 w82 g55 72 #[.slice A65 r64.1.1.length cA65, .int .i64 r64.1.2.1, .int .i64 c81] → RdO own82 [66, 67, 1] w82 R5 A65 cA65 r64.1.1 → BlkO own82 58 w82 g57 72 #[.slice none 0 0, .int .i64 0, .int .i64 0] → ref26_Turned_k1 x2 r64 r70 c81 = some r → Q72 .normal a82 w82 := by
    intro a82 w82 own82 c81 hd83 hz83 e83_1 e83_4 e83_8 e83_11 hE83 b83_g55 b83_A65 b83_g57 hs
    refine hn72 _ _ ?_
    refine fl_seq (fun Q84 hn84 hp84 => ?_)
    refine rg0_seq 53 own82 (bz 3) [⟨[], [4], [], Fct.val 45 (.pointer (some ⟨g55, 2, none⟩))⟩, ⟨[0], [], [], Fct.val 46 (.int .i64 c81)⟩, ⟨[1], [], [], Fct.val 47 (.bool (!decide (c81 = 0)))⟩] hz83 hd83 (by kernel_rfl) ?_ ?_
    · refine sc (fun _ _ _ _ s _ => px (or_field fo72_2 (s.1.trans e83_4) (by rfl))) ?_
      refine sc (fun _ _ _ f _ hE => px (or_load1 to3 f.1 (Blk.at_ (be_ hE b83_g55).2 2 rfl))) ?_
      refine sc (fun _ _ _ f _ _ => px (or_neq f.1 rfl rfl)) ?_
      exact steps_nil
    intro own85 a85 w85 hd85 hz85 hk85 hf85 hE85
    have e85_1 := (hk85 1 rfl).trans e83_1
    have e85_4 := (hk85 4 rfl).trans e83_4
    have e85_8 := (hk85 8 rfl).trans e83_8
    have e85_11 := (hk85 11 rfl).trans e83_11
    obtain ⟨(e85_47 : a85.eval (.tmp 47) = .bool (!decide (c81 = 0))), -⟩ := hf85 [2] rfl
    have hX85 := Evo.step hE83 hown hE85 rfl
    have b85_g55 := be_ hE85 b83_g55
    have b85_A65 := RdO.evo rfl hE85 b83_A65
    have b85_g57 := be_ hE85 b83_g57
    refine fl_cond e85_47 hs (fun c86 hs => ?_) (fun c86 hs => ?_)
    · refine rg_plain_seq (n := 53) (rs := [Fct.at_ 58 g57 72 #[.slice none 0 0, .int .i64 0, .int .i64 0]]) (own0 := own85) (K := [58]) (bs := (bz 3)) (ds := [⟨[], [4], [], Fct.val 48 (.agg #[.slice A65 r64.1.1.length cA65, .int .i64 r64.1.2.1, .int .i64 c81])⟩, ⟨[0, 3], [8], [58], Fct.at_ 87 g57 72 #[.slice A65 r64.1.1.length cA65, .int .i64 r64.1.2.1, .int .i64 c81]⟩, ⟨[], [], [], Fct.val 9 (.int .i64 0)⟩]) (by kernel_rfl) hz85 hd85 (by simp only [List.forall_mem_cons]; exact ⟨b85_g57, fun _ h => nomatch h⟩) ?_ ?_
      · refine sc (fun _ _ _ _ s hE => px (or_load (l := [.slice A65 r64.1.1.length cA65, .int .i64 r64.1.2.1, .int .i64 c81]) ta72 (s.1.trans e85_4) (Blk.cellsFrom (be_ hE b85_g55).2 0 rfl) rfl)) ?_
        refine sc (fun own a wx hf hsl hE => ?_) ?_
        · obtain ⟨f_48, b_g57, -⟩ := hf
          obtain ⟨s_8, -⟩ := hsl
          exact px (or_store (l := #[.slice A65 r64.1.1.length cA65, .int .i64 r64.1.2.1, .int .i64 c81]) (lab := 58) (lab2 := 87) ts72 (s_8.trans e85_8) f_48 b_g57 (by simp) (by kernel_rfl) (mem_of rfl) (by decide) (by kernel_rfl) (fun own' a' w' ha hb => hb))
        refine sc (fun _ _ _ _ _ _ => px (or_assign rfl)) ?_
        exact steps_nil
      intro own88 a88 w88 hd88 hz88 hk88 hf88 hE88
      have e88_8 := (hk88 8 rfl).trans e85_8
      obtain ⟨(e88_9 : a88.eval (.tmp 9) = .int .i64 0), (b88_g57 : BlkO own88 87 w88 g57 72 #[.slice A65 r64.1.1.length cA65, .int .i64 r64.1.2.1, .int .i64 c81]), -⟩ := hf88 [2, 1] rfl
      have hX88 := Evo.step hX85 hown hE88 rfl
      have b88_A65 := RdO.evo rfl hE88 b85_A65
      refine fl_ret ?_
      refine hp84 _ _ _ rfl ?_
      obtain rfl := osome hs
      exact hret _ _ _ _ (.inl rfl) hd88 (results2_ rfl (RVal.cell_ e88_8 (run_loadVarAgg (l := [.slice A65 r64.1.1.length cA65, .int .i64 r64.1.2.1, .int .i64 c81]) ta72 (Blk.cellsFrom b88_g57.2 0 rfl) rfl)) (RVal.tmp_ e88_9)) ⟨(rl [(66, 2), (67, 2)] own88), (A65, cA65), rfl, (Evo.rl_ hX88 hown rfl), (RdO.more (RdO.rl_ (mm := [(66, 2), (67, 2)]) b88_A65) (by decide))⟩
    refine fl_skip ?_
    refine hn84 _ _ ?_
    refine rg_plain_seq (n := 53) (rs := [Fct.at_ 58 g57 72 #[.slice none 0 0, .int .i64 0, .int .i64 0]]) (own0 := own85) (K := [58]) (bs := [0, 0, 0, 6, 1, 31]) (ds := [⟨[], [4], [], Fct.val 49 (.agg #[.slice A65 r64.1.1.length cA65, .int .i64 r64.1.2.1, .int .i64 c81])⟩, ⟨[], [1], [], Fct.val 50 (.int .i64 x2)⟩, ⟨[], [11], [], Fct.val 51 (.int .i64 r70)⟩, ⟨[1, 2], [], [], Fct.val 52 (.int .i64 (ad x2 r70))⟩, ⟨[0, 6], [8], [58], Fct.at_ 89 g57 72 #[.slice A65 r64.1.1.length cA65, .int .i64 r64.1.2.1, .int .i64 c81]⟩, ⟨[3], [], [], Fct.val 9 (.int .i64 (ad x2 r70))⟩]) (by kernel_rfl) hz85 hd85 (by simp only [List.forall_mem_cons]; exact ⟨b85_g57, fun _ h => nomatch h⟩) ?_ ?_
    · refine sc (fun _ _ _ _ s hE => px (or_load (l := [.slice A65 r64.1.1.length cA65, .int .i64 r64.1.2.1, .int .i64 c81]) ta72 (s.1.trans e85_4) (Blk.cellsFrom (be_ hE b85_g55).2 0 rfl) rfl)) ?_
      refine sc (fun _ _ _ _ s _ => px (or_move (s.1.trans e85_1))) ?_
      refine sc (fun _ _ _ _ s _ => px (or_move (s.1.trans e85_11))) ?_
      refine sc (fun _ _ _ f _ _ => px (or_add f.1 f.2.1 rfl)) ?_
      refine sc (fun own a wx hf hsl hE => ?_) ?_
      · obtain ⟨f_49, b_g57, -⟩ := hf
        obtain ⟨s_8, -⟩ := hsl
        exact px (or_store (l := #[.slice A65 r64.1.1.length cA65, .int .i64 r64.1.2.1, .int .i64 c81]) (lab := 58) (lab2 := 89) ts72 (s_8.trans e85_8) f_49 b_g57 (by simp) (by kernel_rfl) (mem_of rfl) (by decide) (by kernel_rfl) (fun own' a' w' ha hb => hb))
      refine sc (fun _ _ _ f _ _ => px (or_assign f.1)) ?_
      exact steps_nil
    intro own90 a90 w90 hd90 hz90 hk90 hf90 hE90
    have e90_8 := (hk90 8 rfl).trans e85_8
    obtain ⟨(e90_9 : a90.eval (.tmp 9) = .int .i64 (ad x2 r70)), (b90_g57 : BlkO own90 89 w90 g57 72 #[.slice A65 r64.1.1.length cA65, .int .i64 r64.1.2.1, .int .i64 c81]), -⟩ := hf90 [5, 4] rfl
    have hX90 := Evo.step hX85 hown hE90 rfl
    have b90_A65 := RdO.evo rfl hE90 b85_A65
    refine fl_ret ?_
    obtain rfl := osome hs
    exact hret _ _ _ _ (.inl rfl) hd90 (results2_ rfl (RVal.cell_ e90_8 (run_loadVarAgg (l := [.slice A65 r64.1.1.length cA65, .int .i64 r64.1.2.1, .int .i64 c81]) ta72 (Blk.cellsFrom b90_g57.2 0 rfl) rfl)) (RVal.tmp_ e90_9)) ⟨(rl [(66, 2), (67, 2)] own90), (A65, cA65), rfl, (Evo.rl_ hX90 hown rfl), (RdO.more (RdO.rl_ (mm := [(66, 2), (67, 2)]) b90_A65) (by decide))⟩
  obtain ⟨x91, hx91, hs⟩ := obind hs
  obtain ⟨x92, hx92, hs⟩ := obind hs
  obtain ⟨x93, hx93, hs⟩ := obind hs
  refine rg0_seq 53 own71 [0, 1, 3, 7, 15, 31, 63, 127, 255, 511, 1023, 2047, 2047, 8191, 2047, 32767, 65535, 131071, 262143, 262143, 1048575, 262143, 4194303, 8388607, 16777215] [⟨[], [4], [], Fct.val 19 (.pointer (some ⟨g55, 2, none⟩))⟩, ⟨[0], [], [], Fct.val 20 (.int .i64 r64.1.2.2)⟩, ⟨[1], [], [], Fct.val 21 (.bool (decide (r64.1.2.2 = 0)))⟩, ⟨[2], [], [], Fct.val 22 (.bool (decide (r64.1.2.2 = 0)))⟩, ⟨[3], [11], [], Fct.cond (decide (r64.1.2.2 = 0)) (some 23) (Fct.val 23 (.int .i64 r70))⟩, ⟨[3, 4], [], [], Fct.cond (decide (r64.1.2.2 = 0)) (some 24) (Fct.val 24 (.bool (decide (4294967296 < r70))))⟩, ⟨[3, 5], [], [], Fct.cond (decide (r64.1.2.2 = 0)) (some 25) (Fct.val 25 (.bool (decide (4294967296 < r70))))⟩, ⟨[6], [11], [], Fct.cond ((decide (r64.1.2.2 = 0)) && (!(decide (4294967296 < r70)))) (some 26) (Fct.val 26 (.int .i64 r70))⟩, ⟨[6, 7], [], [], Fct.cond ((decide (r64.1.2.2 = 0)) && (!(decide (4294967296 < r70)))) (some 27) (Fct.val 27 (.bool (decide (r70 < (-4294967296)))))⟩, ⟨[3, 6, 8], [], [], Fct.cond (decide (r64.1.2.2 = 0)) (some 28) (Fct.val 28 (.bool x91))⟩, ⟨[3, 9], [], [], Fct.cond (decide (r64.1.2.2 = 0)) (some 29) (Fct.val 29 (.bool x91))⟩, ⟨[10], [1], [], Fct.cond ((decide (r64.1.2.2 = 0)) && (!x91)) (some 30) (Fct.val 30 (.int .i64 x2))⟩, ⟨[10], [11], [], Fct.cond ((decide (r64.1.2.2 = 0)) && (!x91)) (some 31) (Fct.val 31 (.int .i64 r70))⟩, ⟨[10, 11, 12], [], [], Fct.cond ((decide (r64.1.2.2 = 0)) && (!x91)) (some 32) (Fct.val 32 (.int .i64 (ad x2 r70)))⟩, ⟨[10], [2], [], Fct.cond ((decide (r64.1.2.2 = 0)) && (!x91)) (some 33) (Fct.val 33 (.int .i64 least3))⟩, ⟨[10, 13, 14], [], [], Fct.cond ((decide (r64.1.2.2 = 0)) && (!x91)) (some 34) (Fct.val 34 (.bool (decide ((ad x2 r70) < least3))))⟩, ⟨[3, 10, 15], [], [], Fct.cond (decide (r64.1.2.2 = 0)) (some 35) (Fct.val 35 (.bool x92))⟩, ⟨[3, 16], [], [], Fct.cond (decide (r64.1.2.2 = 0)) (some 36) (Fct.val 36 (.bool x92))⟩, ⟨[17], [1], [], Fct.cond ((decide (r64.1.2.2 = 0)) && (!x92)) (some 37) (Fct.val 37 (.int .i64 x2))⟩, ⟨[17], [11], [], Fct.cond ((decide (r64.1.2.2 = 0)) && (!x92)) (some 38) (Fct.val 38 (.int .i64 r70))⟩, ⟨[17, 18, 19], [], [], Fct.cond ((decide (r64.1.2.2 = 0)) && (!x92)) (some 39) (Fct.val 39 (.int .i64 (ad x2 r70)))⟩, ⟨[17], [3], [], Fct.cond ((decide (r64.1.2.2 = 0)) && (!x92)) (some 40) (Fct.val 40 (.int .i64 greatest4))⟩, ⟨[17, 20, 21], [], [], Fct.cond ((decide (r64.1.2.2 = 0)) && (!x92)) (some 41) (Fct.val 41 (.bool (decide (greatest4 < (ad x2 r70)))))⟩, ⟨[3, 17, 22], [], [], Fct.cond (decide (r64.1.2.2 = 0)) (some 42) (Fct.val 42 (.bool x93))⟩, ⟨[3, 23], [], [], Fct.val 43 (.bool ((decide (r64.1.2.2 = 0)) && x93))⟩] hz71 hd71 (by kernel_rfl) ?_ ?_
  · refine sc (fun _ _ _ _ s _ => px (or_field fo72_2 (s.1.trans e71_4) (by rfl))) ?_
    refine sc (fun _ _ _ f _ hE => px (or_load1 to3 f.1 (Blk.at_ (be_ hE b71_g55).2 2 rfl))) ?_
    refine sc (fun _ _ _ f _ _ => px (or_eql f.1 rfl rfl)) ?_
    refine sc (fun _ _ _ f _ _ => px (or_move f.1)) ?_
    refine sc (fun _ _ _ f s _ => sg_t rfl rfl rfl f.1 (fun hg => or_move (s.1.trans e71_11))) ?_
    refine sc (fun _ _ _ f _ _ => sg_t rfl rfl rfl f.1 (fun hg => or_gtr (f.2.1.1 hg) rfl rfl)) ?_
    refine sc (fun _ _ _ f _ _ => sg_t rfl rfl rfl f.1 (fun hg => or_move (f.2.1.1 hg))) ?_
    refine sc (fun _ _ _ f s _ => sg_fc rfl rfl rfl f.1 (fun hg => or_move (s.1.trans e71_11))) ?_
    refine sc (fun _ _ _ f _ _ => sg_fc rfl rfl rfl f.1 (fun hg => or_lss (f.2.1.1 hg) rfl rfl)) ?_
    refine sc (fun _ _ _ f _ _ => sg_t rfl rfl rfl f.1 (fun hg => or_or (f.2.1.1 hg) rfl (fun hx => f.2.2.1.1 (gI hg hx)) (osome hx91).symm)) ?_
    refine sc (fun _ _ _ f _ _ => sg_t rfl rfl rfl f.1 (fun hg => or_move (f.2.1.1 hg))) ?_
    refine sc (fun _ _ _ f s _ => sg_fc rfl rfl rfl f.1 (fun hg => or_move (s.1.trans e71_1))) ?_
    refine sc (fun _ _ _ f s _ => sg_fc rfl rfl rfl f.1 (fun hg => or_move (s.1.trans e71_11))) ?_
    refine sc (fun _ _ _ f _ _ => sg_fc rfl rfl rfl f.1 (fun hg => or_add (f.2.1.1 hg) (f.2.2.1.1 hg) rfl)) ?_
    refine sc (fun _ _ _ f s _ => sg_fc rfl rfl rfl f.1 (fun hg => or_move (s.1.trans e71_2))) ?_
    refine sc (fun _ _ _ f _ _ => sg_fc rfl rfl rfl f.1 (fun hg => or_lss (f.2.1.1 hg) (f.2.2.1.1 hg) rfl)) ?_
    refine sc (fun _ _ _ f _ _ => sg_t rfl rfl rfl f.1 (fun hg => or_or (f.2.1.1 hg) rfl (fun hx => f.2.2.1.1 (gI hg hx)) (osome hx92).symm)) ?_
    refine sc (fun _ _ _ f _ _ => sg_t rfl rfl rfl f.1 (fun hg => or_move (f.2.1.1 hg))) ?_
    refine sc (fun _ _ _ f s _ => sg_fc rfl rfl rfl f.1 (fun hg => or_move (s.1.trans e71_1))) ?_
    refine sc (fun _ _ _ f s _ => sg_fc rfl rfl rfl f.1 (fun hg => or_move (s.1.trans e71_11))) ?_
    refine sc (fun _ _ _ f _ _ => sg_fc rfl rfl rfl f.1 (fun hg => or_add (f.2.1.1 hg) (f.2.2.1.1 hg) rfl)) ?_
    refine sc (fun _ _ _ f s _ => sg_fc rfl rfl rfl f.1 (fun hg => or_move (s.1.trans e71_3))) ?_
    refine sc (fun _ _ _ f _ _ => sg_fc rfl rfl rfl f.1 (fun hg => or_gtr (f.2.1.1 hg) (f.2.2.1.1 hg) rfl)) ?_
    refine sc (fun _ _ _ f _ _ => sg_t rfl rfl rfl f.1 (fun hg => or_or (f.2.1.1 hg) rfl (fun hx => f.2.2.1.1 (gI hg hx)) (osome hx93).symm)) ?_
    refine sc (fun _ _ _ f _ _ => px (or_and f.1 (fun hx => f.2.1.1 hx) rfl rfl)) ?_
    exact steps_nil
  intro own94 a94 w94 hd94 hz94 hk94 hf94 hE94
  have e94_1 := (hk94 1 rfl).trans e71_1
  have e94_4 := (hk94 4 rfl).trans e71_4
  have e94_8 := (hk94 8 rfl).trans e71_8
  have e94_11 := (hk94 11 rfl).trans e71_11
  obtain ⟨(e94_43 : a94.eval (.tmp 43) = .bool ((decide (r64.1.2.2 = 0)) && x93)), -⟩ := hf94 [24] rfl
  have hX94 := Evo.step hX71 hown hE94 rfl
  have b94_g57 := be_ hE94 b71_g57
  have b94_g55 := be_ hE94 b71_g55
  have b94_A65 := RdO.evo rfl hE94 b71_A65
  refine fl_cond e94_43 hs (fun c95 hs => ?_) (fun c95 hs => ?_)
  · refine rg_plain (n := 53) (rs := [Fct.at_ 68 g55 72 #[.slice A65 r64.1.1.length cA65, .int .i64 r64.1.2.1, .int .i64 r64.1.2.2]]) (own0 := own94) (K := [68]) (bs := (bz 2)) (ds := [⟨[], [4], [], Fct.val 44 (.pointer (some ⟨g55, 2, none⟩))⟩, ⟨[0, 2], [], [68], Fct.at_ 96 g55 72 #[.slice A65 r64.1.1.length cA65, .int .i64 r64.1.2.1, .int .i64 5]⟩]) (by kernel_rfl) hz94 hd94 (by simp only [List.forall_mem_cons]; exact ⟨b94_g55, fun _ h => nomatch h⟩) ?_ ?_
    · refine sc (fun _ _ _ _ s _ => px (or_field fo72_2 (s.1.trans e94_4) (by rfl))) ?_
      refine sc (fun own a wx hf hsl hE => ?_) ?_
      · obtain ⟨f_44, b_g55, -⟩ := hf
        exact px (or_store1 (lab := 68) (lab2 := 96) ts3 f_44 rfl b_g55 (by simp) rfl (mem_of rfl) (by decide) rfl (fun own' a' w' ha hb => hb))
      exact steps_nil
    intro own97 a97 w97 hd97 hz97 hk97 hf97 hE97
    have e97_1 := (hk97 1 rfl).trans e94_1
    have e97_4 := (hk97 4 rfl).trans e94_4
    have e97_8 := (hk97 8 rfl).trans e94_8
    have e97_11 := (hk97 11 rfl).trans e94_11
    obtain ⟨(b97_g55 : BlkO own97 96 w97 g55 72 #[.slice A65 r64.1.1.length cA65, .int .i64 r64.1.2.1, .int .i64 5]), -⟩ := hf97 [1] rfl
    have hX97 := Evo.step hX94 hown hE97 rfl
    have b97_g57 := be_ hE97 b94_g57
    have b97_A65 := RdO.evo rfl hE97 b94_A65
    exact (K82 _ _ (rl [(96, 80)] own97) _ hd97 hz97 e97_1 e97_4 e97_8 e97_11 (Evo.rl_ hX97 hown rfl) (BlkO.rl_ (mm := [(96, 80)]) b97_g55) (RdO.rl_ (mm := [(96, 80)]) b97_A65) (BlkO.rl_ (mm := [(96, 80)]) b97_g57) hs)
  refine fl_skip ?_
  exact (K82 _ _ (rl [(68, 80)] own94) _ hd94 hz94 e94_1 e94_4 e94_8 e94_11 (Evo.rl_ hX94 hown rfl) (BlkO.rl_ (mm := [(68, 80)]) b94_g55) (RdO.rl_ (mm := [(68, 80)]) b94_A65) (BlkO.rl_ (mm := [(68, 80)]) b94_g57) hs)
set_option maxHeartbeats 2000000 in
theorem ref26_Read_w (w : World) (b1 : List Int) (Ab1 : Option Addr) (cb1 : Nat) (hb1 : RdO (fun _ => 0) [0] w R5 Ab1 cb1 b1) (r : ((List ((List (Int × Int)) × Int × Int)) × (List (List (List Int)))) × Int × Int) (hs : ref26_Read b1 = some r) :
    Calls Try.prog 10 #[.slice Ab1 b1.length cb1] w fun e w' => ∃ (own' : Own) (x : (Option Addr × Nat) × (Option Addr × Nat)), e = .returned (.tuple #[.agg #[.slice x.1.1 r.1.1.length x.1.2, .slice x.2.1 r.1.2.length x.2.2], .int .i64 r.2.1, .int .i64 r.2.2]) ∧ Evo [] (fun _ => 0) own' w w' ∧ RwO own' 1 [2] w' 78 R78 x.1.1 x.1.2 r.1.1 ∧ RwO own' 3 [4] w' 27 R27 x.2.1 x.2.2 r.1.2 := by
  refine fl_enter (n := 184) rfl rfl rfl (Nat.le_of_ble_eq_true rfl) ?_
  intro a0 Q hd0 hz0 harg hret
  have ha0 := harg 0 _ rfl
  clear harg
  have hE0 : Evo [] (fun _ => 0) (fun _ => 0) w w := Evo.refl _ _ _
  refine rg0_seq 184 (fun _ => 0) [0, 0, 2] [⟨[], [], [], Fct.blk 2211 2 (fun g => .pointer (some ⟨g, 0, none⟩)) 38 #[.slice none 0 0, .slice none 0 0]⟩, ⟨[], [], [], Fct.val 3 (.int .i64 0)⟩, ⟨[], [], [], Fct.val 4 (.int .i64 0)⟩] hz0 hd0 (by kernel_rfl) ?_ ?_
  · refine sc (fun _ _ _ _ _ _ => px (or_new [] rfl rfl trivial (by kernel_rfl))) ?_
    refine sc (fun _ _ _ _ _ _ => px (or_assign rfl)) ?_
    refine sc (fun _ _ _ _ _ _ => px (or_assign rfl)) ?_
    exact steps_nil
  intro own2212 a2212 w2212 hd2212 hz2212 hk2212 hf2212 hE2212
  have e2212_0 := (hk2212 0 rfl).trans ha0
  obtain ⟨⟨g2210, (e2212_2 : a2212.eval (.tmp 2) = .pointer (some ⟨g2210, 0, none⟩)), (b2212_g2210 : BlkO own2212 2211 w2212 g2210 38 #[.slice none 0 0, .slice none 0 0])⟩, -⟩ := hf2212 [0] rfl
  have hX2212 := es_ hE0 hE2212
  have b2212_Ab1 := RdO.evo rfl hE2212 hb1
  refine rg_plain_seq (n := 184) (rs := []) (own0 := own2212) (K := [2214]) (bs := [0, 1, 0, 7]) (ds := [⟨[], [0], [], Fct.val 25 (.slice Ab1 b1.length cb1)⟩, ⟨[0], [], [], Fct.val 26 (.agg #[.slice Ab1 b1.length cb1, .int .i64 0, .int .i64 0])⟩, ⟨[], [], [], Fct.blk 2214 5 (fun g => .pointer (some ⟨g, 0, none⟩)) 72 #[.slice none 0 0, .int .i64 0, .int .i64 0]⟩, ⟨[2, 1], [], [2214], Fct.blk 2215 5 (fun g => .pointer (some ⟨g, 0, none⟩)) 72 #[.slice Ab1 b1.length cb1, .int .i64 0, .int .i64 0]⟩]) (by kernel_rfl) hz2212 hd2212 nm_ ?_ ?_
  · refine sc (fun _ _ _ _ s _ => px (or_move (s.1.trans e2212_0))) ?_
    refine sc (fun _ _ _ f _ _ => px (or_k [(25, .slice Ab1 b1.length cb1)] rfl rfl ⟨f.1, trivial⟩ (by kernel_rfl))) ?_
    refine sc (fun _ _ _ _ _ _ => px (or_new [] rfl rfl trivial (by kernel_rfl))) ?_
    refine sc (fun own a wx hf hsl hE => ?_) ?_
    · obtain ⟨⟨g2213, f_5, b_g2213⟩, f_26, -⟩ := hf
      exact px (or_store (l := #[.slice Ab1 b1.length cb1, .int .i64 0, .int .i64 0]) (lab := 2214) (lab2 := 2215) ts72 f_5 f_26 b_g2213 (by simp) (by kernel_rfl) (mem_of rfl) (by decide) (by kernel_rfl) (fun own' a' w' ha hb => ⟨_, (ha 5).trans f_5, hb⟩))
    exact steps_nil
  intro own2216 a2216 w2216 hd2216 hz2216 hk2216 hf2216 hE2216
  have e2216_2 := (hk2216 2 rfl).trans e2212_2
  obtain ⟨⟨g2213, (e2216_5 : a2216.eval (.tmp 5) = .pointer (some ⟨g2213, 0, none⟩)), (b2216_g2213 : BlkO own2216 2215 w2216 g2213 72 #[.slice Ab1 b1.length cb1, .int .i64 0, .int .i64 0])⟩, -⟩ := hf2216 [3] rfl
  have hX2216 := es_ hX2212 hE2216
  have b2216_Ab1 := RdO.evo rfl hE2216 b2212_Ab1
  have b2216_g2210 := be_ hE2216 b2212_g2210
  refine rg0_seq 184 own2216 (bz 1) [⟨[], [], [], Fct.blk 2218 6 (fun g => .pointer (some ⟨g, 0, none⟩)) 38 #[.slice none 0 0, .slice none 0 0]⟩] hz2216 hd2216 (by kernel_rfl) ?_ ?_
  · refine sc (fun _ _ _ _ _ _ => px (or_new [] rfl rfl trivial (by kernel_rfl))) ?_
    exact steps_nil
  intro own2219 a2219 w2219 hd2219 hz2219 hk2219 hf2219 hE2219
  have e2219_2 := (hk2219 2 rfl).trans e2216_2
  have e2219_5 := (hk2219 5 rfl).trans e2216_5
  obtain ⟨⟨g2217, (e2219_6 : a2219.eval (.tmp 6) = .pointer (some ⟨g2217, 0, none⟩)), (b2219_g2217 : BlkO own2219 2218 w2219 g2217 38 #[.slice none 0 0, .slice none 0 0])⟩, -⟩ := hf2219 [0] rfl
  have hX2219 := es_ hX2216 hE2219
  have b2219_Ab1 := RdO.evo rfl hE2219 b2216_Ab1
  have b2219_g2210 := be_ hE2219 b2216_g2210
  have b2219_g2213 := be_ hE2219 b2216_g2213
  refine rg_plain_seq (n := 184) (rs := []) (own0 := own2219) (K := [2221]) (bs := [0, 0, 3]) (ds := [⟨[], [], [], Fct.val 27 (.agg #[.int .i64 0, .int .i64 0])⟩, ⟨[], [], [], Fct.blk 2221 7 (fun g => .pointer (some ⟨g, 0, none⟩)) 73 #[.int .i64 0, .int .i64 0]⟩, ⟨[1, 0], [], [2221], Fct.blk 2222 7 (fun g => .pointer (some ⟨g, 0, none⟩)) 73 #[.int .i64 0, .int .i64 0]⟩]) (by kernel_rfl) hz2219 hd2219 nm_ ?_ ?_
  · refine sc (fun _ _ _ _ _ _ => px (or_k [] rfl rfl trivial (by kernel_rfl))) ?_
    refine sc (fun _ _ _ _ _ _ => px (or_new [] rfl rfl trivial (by kernel_rfl))) ?_
    refine sc (fun own a wx hf hsl hE => ?_) ?_
    · obtain ⟨⟨g2220, f_7, b_g2220⟩, f_27, -⟩ := hf
      exact px (or_store (l := #[.int .i64 0, .int .i64 0]) (lab := 2221) (lab2 := 2222) ts73 f_7 f_27 b_g2220 (by simp) (by kernel_rfl) (mem_of rfl) (by decide) (by kernel_rfl) (fun own' a' w' ha hb => ⟨_, (ha 7).trans f_7, hb⟩))
    exact steps_nil
  intro own2223 a2223 w2223 hd2223 hz2223 hk2223 hf2223 hE2223
  have e2223_2 := (hk2223 2 rfl).trans e2219_2
  have e2223_5 := (hk2223 5 rfl).trans e2219_5
  have e2223_6 := (hk2223 6 rfl).trans e2219_6
  obtain ⟨⟨g2220, (e2223_7 : a2223.eval (.tmp 7) = .pointer (some ⟨g2220, 0, none⟩)), (b2223_g2220 : BlkO own2223 2222 w2223 g2220 73 #[.int .i64 0, .int .i64 0])⟩, -⟩ := hf2223 [2] rfl
  have hX2223 := es_ hX2219 hE2223
  have b2223_Ab1 := RdO.evo rfl hE2223 b2219_Ab1
  have b2223_g2210 := be_ hE2223 b2219_g2210
  have b2223_g2213 := be_ hE2223 b2219_g2213
  have b2223_g2217 := be_ hE2223 b2219_g2217
  refine rg0_seq 184 own2223 (bz 3) [⟨[], [], [], Fct.val 8 (.int .i64 65536)⟩, ⟨[], [], [], Fct.val 9 (.int .i64 64)⟩, ⟨[], [], [], Fct.val 10 (.int .i64 65536)⟩] hz2223 hd2223 (by kernel_rfl) ?_ ?_
  · refine sc (fun _ _ _ _ _ _ => px (or_assign rfl)) ?_
    refine sc (fun _ _ _ _ _ _ => px (or_assign rfl)) ?_
    refine sc (fun _ _ _ _ _ _ => px (or_assign rfl)) ?_
    exact steps_nil
  intro own2224 a2224 w2224 hd2224 hz2224 hk2224 hf2224 hE2224
  have e2224_2 := (hk2224 2 rfl).trans e2223_2
  have e2224_5 := (hk2224 5 rfl).trans e2223_5
  have e2224_6 := (hk2224 6 rfl).trans e2223_6
  have e2224_7 := (hk2224 7 rfl).trans e2223_7
  obtain ⟨(e2224_8 : a2224.eval (.tmp 8) = .int .i64 65536), (e2224_9 : a2224.eval (.tmp 9) = .int .i64 64), (e2224_10 : a2224.eval (.tmp 10) = .int .i64 65536), -⟩ := hf2224 [0, 1, 2] rfl
  have hX2224 := es_ hX2223 hE2224
  have b2224_Ab1 := RdO.evo rfl hE2224 b2223_Ab1
  have b2224_g2210 := be_ hE2224 b2223_g2210
  have b2224_g2213 := be_ hE2224 b2223_g2213
  have b2224_g2217 := be_ hE2224 b2223_g2217
  have b2224_g2220 := be_ hE2224 b2223_g2220
  obtain ⟨r2229, hr2229, hs⟩ := obind hs
  refine rg_plain_seq (n := 184) (rs := [Fct.at_ 2215 g2213 72 #[.slice Ab1 b1.length cb1, .int .i64 0, .int .i64 0]]) (own0 := own2224) (K := [2215]) (bs := [0, 1, 3, 7, 7, 15, 63]) (ds := [⟨[7], [5], [], Fct.val 29 (.agg #[.slice Ab1 b1.length cb1, .int .i64 0, .int .i64 0])⟩, ⟨[0], [], [], Fct.mems [2231, 2232, 0] 30 (fun (x : Option Addr × Nat) => .tuple #[.agg #[.slice x.1 r2229.1.1.length x.2, .int .i64 r2229.1.2.1, .int .i64 r2229.1.2.2], .int .i64 r2229.2]) (fun (x : Option Addr × Nat) own w => RdO own [2231, 2232, 0] w R5 x.1 x.2 r2229.1.1) (fun hk he h => RdO.evo (hits_sub hk (by decide)) he h)⟩, ⟨[1], [], [], Fct.rel [28, 30] (fun l => ∀ (A2230 : Option Addr) (cA2230 : Nat), l.getD 1 undef = .tuple #[.agg #[.slice A2230 r2229.1.1.length cA2230, .int .i64 r2229.1.2.1, .int .i64 r2229.1.2.2], .int .i64 r2229.2] → l.getD 0 undef = .tuple #[.agg #[.slice A2230 r2229.1.1.length cA2230, .int .i64 r2229.1.2.1, .int .i64 r2229.1.2.2], .int .i64 r2229.2])⟩, ⟨[2, 1], [], [], Fct.rel [31, 30] (fun l => ∀ (A2230 : Option Addr) (cA2230 : Nat), l.getD 1 undef = .tuple #[.agg #[.slice A2230 r2229.1.1.length cA2230, .int .i64 r2229.1.2.1, .int .i64 r2229.1.2.2], .int .i64 r2229.2] → l.getD 0 undef = .agg #[.slice A2230 r2229.1.1.length cA2230, .int .i64 r2229.1.2.1, .int .i64 r2229.1.2.2])⟩, ⟨[2, 1], [], [], Fct.val 32 (.int .i64 r2229.2)⟩, ⟨[3, 1, 7], [5], [2215], Fct.by_ [2233] [30] (fun l own w => ∀ (A2230 : Option Addr) (cA2230 : Nat), l.getD 0 undef = .tuple #[.agg #[.slice A2230 r2229.1.1.length cA2230, .int .i64 r2229.1.2.1, .int .i64 r2229.1.2.2], .int .i64 r2229.2] → BlkO own 2233 w g2213 72 #[.slice A2230 r2229.1.1.length cA2230, .int .i64 r2229.1.2.1, .int .i64 r2229.1.2.2]) (fun hk he h _ _ h0' => BlkO.evo (not_hit hk (by decide)) he (h _ _ h0'))⟩, ⟨[4], [], [], Fct.val 11 (.int .i64 r2229.2)⟩]) (by kernel_rfl) hz2224 hd2224 (by simp only [List.forall_mem_cons]; exact ⟨b2224_g2213, fun _ h => nomatch h⟩) ?_ ?_
  · refine sc (fun own a wx hf hsl hE => ?_) ?_
    · obtain ⟨(b_g2213 : BlkO own 2215 wx g2213 72 #[.slice Ab1 b1.length cb1, .int .i64 0, .int .i64 0]), -⟩ := hf
      obtain ⟨s_5, -⟩ := hsl
      exact px (or_load (l := [.slice Ab1 b1.length cb1, .int .i64 0, .int .i64 0]) ta72 (s_5.trans e2224_5) (Blk.cellsFrom b_g2213.2 0 rfl) rfl)
    refine sc (fun own _ _ f _ hE => px (or_call cf26 (args3 f.1 rfl rfl) (ref26_Up_w _ (forth own (inL [0])) (b1, 0, 0) Ab1 cb1 65536 6 inL_le (RdO.alias_ (La := [0]) (RdO.evo rfl hE b2224_Ab1) (by decide)) r2229 hr2229) (post_alias (La := [0]) (m' := (look0 [(1, 2231), (2, 2232)])) (fun own' w' a' x ho hsz h1 h => ⟨x, h1, RdO.backN_ ho hsz h (by decide) (by decide) (by decide)⟩)))) ?_
    refine sc (fun own a wx hf hsl hE => ?_) ?_
    · obtain ⟨⟨⟨A2230, cA2230⟩, (f_30 : a.eval (.tmp 30) = .tuple #[.agg #[.slice A2230 r2229.1.1.length cA2230, .int .i64 r2229.1.2.1, .int .i64 r2229.1.2.2], .int .i64 r2229.2]), b_A2230⟩, -⟩ := hf
      exact px (or_mono (f := Fct.val 28 (.tuple #[.agg #[.slice A2230 r2229.1.1.length cA2230, .int .i64 r2229.1.2.1, .int .i64 r2229.1.2.2], .int .i64 r2229.2])) (or_move f_30) (fun own' a' w' v' hp h => fun _ _ h0' => by cases (f_30.symm.trans ((hp.2 30 (by decide)).symm.trans h0')); exact h))
    refine sc (fun own a wx hf hsl hE => ?_) ?_
    · obtain ⟨(q_28 : ∀ (A2230 : Option Addr) (cA2230 : Nat), a.eval (.tmp 30) = .tuple #[.agg #[.slice A2230 r2229.1.1.length cA2230, .int .i64 r2229.1.2.1, .int .i64 r2229.1.2.2], .int .i64 r2229.2] → a.eval (.tmp 28) = .tuple #[.agg #[.slice A2230 r2229.1.1.length cA2230, .int .i64 r2229.1.2.1, .int .i64 r2229.1.2.2], .int .i64 r2229.2]), ⟨⟨A2230, cA2230⟩, (f_30 : a.eval (.tmp 30) = .tuple #[.agg #[.slice A2230 r2229.1.1.length cA2230, .int .i64 r2229.1.2.1, .int .i64 r2229.1.2.2], .int .i64 r2229.2]), b_A2230⟩, -⟩ := hf
      have f_28 := q_28 _ _ f_30
      exact px (or_mono (f := Fct.val 31 (.agg #[.slice A2230 r2229.1.1.length cA2230, .int .i64 r2229.1.2.1, .int .i64 r2229.1.2.2])) (or_k [(28, .tuple #[.agg #[.slice A2230 r2229.1.1.length cA2230, .int .i64 r2229.1.2.1, .int .i64 r2229.1.2.2], .int .i64 r2229.2])] rfl rfl ⟨f_28, trivial⟩ (by kernel_rfl)) (fun own' a' w' v' hp h => fun _ _ h0' => by cases (f_30.symm.trans ((hp.2 30 (by decide)).symm.trans h0')); exact h))
    refine sc (fun own a wx hf hsl hE => ?_) ?_
    · obtain ⟨(q_28 : ∀ (A2230 : Option Addr) (cA2230 : Nat), a.eval (.tmp 30) = .tuple #[.agg #[.slice A2230 r2229.1.1.length cA2230, .int .i64 r2229.1.2.1, .int .i64 r2229.1.2.2], .int .i64 r2229.2] → a.eval (.tmp 28) = .tuple #[.agg #[.slice A2230 r2229.1.1.length cA2230, .int .i64 r2229.1.2.1, .int .i64 r2229.1.2.2], .int .i64 r2229.2]), ⟨⟨A2230, cA2230⟩, f_30, b_A2230⟩, -⟩ := hf
      have f_28 := q_28 _ _ f_30
      exact px (or_k [(28, .tuple #[.agg #[.slice A2230 r2229.1.1.length cA2230, .int .i64 r2229.1.2.1, .int .i64 r2229.1.2.2], .int .i64 r2229.2])] rfl rfl ⟨f_28, trivial⟩ (by kernel_rfl))
    refine sc (fun own a wx hf hsl hE => ?_) ?_
    · obtain ⟨(q_31 : ∀ (A2230 : Option Addr) (cA2230 : Nat), a.eval (.tmp 30) = .tuple #[.agg #[.slice A2230 r2229.1.1.length cA2230, .int .i64 r2229.1.2.1, .int .i64 r2229.1.2.2], .int .i64 r2229.2] → a.eval (.tmp 31) = .agg #[.slice A2230 r2229.1.1.length cA2230, .int .i64 r2229.1.2.1, .int .i64 r2229.1.2.2]), ⟨⟨A2230, cA2230⟩, (f_30 : a.eval (.tmp 30) = .tuple #[.agg #[.slice A2230 r2229.1.1.length cA2230, .int .i64 r2229.1.2.1, .int .i64 r2229.1.2.2], .int .i64 r2229.2]), b_A2230⟩, b_g2213, -⟩ := hf
      have f_31 := q_31 _ _ f_30
      obtain ⟨s_5, -⟩ := hsl
      exact px (or_store (l := #[.slice A2230 r2229.1.1.length cA2230, .int .i64 r2229.1.2.1, .int .i64 r2229.1.2.2]) (lab := 2215) (lab2 := 2233) ts72 (s_5.trans e2224_5) f_31 b_g2213 (by simp) (by kernel_rfl) (mem_of rfl) (by decide) (by kernel_rfl) (fun own' a' w' ha hb => fun _ _ h0' => by cases (f_30.symm.trans ((ha 30).symm.trans h0')); exact hb))
    refine sc (fun _ _ _ f _ _ => px (or_assign f.1)) ?_
    exact steps_nil
  intro own2234 a2234 w2234 hd2234 hz2234 hk2234 hf2234 hE2234
  have e2234_2 := (hk2234 2 rfl).trans e2224_2
  have e2234_5 := (hk2234 5 rfl).trans e2224_5
  have e2234_6 := (hk2234 6 rfl).trans e2224_6
  have e2234_7 := (hk2234 7 rfl).trans e2224_7
  have e2234_8 := (hk2234 8 rfl).trans e2224_8
  have e2234_9 := (hk2234 9 rfl).trans e2224_9
  have e2234_10 := (hk2234 10 rfl).trans e2224_10
  obtain ⟨(e2234_11 : a2234.eval (.tmp 11) = .int .i64 r2229.2), ⟨⟨A2230, cA2230⟩, (f_30 : a2234.eval (.tmp 30) = .tuple #[.agg #[.slice A2230 r2229.1.1.length cA2230, .int .i64 r2229.1.2.1, .int .i64 r2229.1.2.2], .int .i64 r2229.2]), (b2234_A2230 : RdO own2234 [2231, 2232, 0] w2234 R5 A2230 cA2230 r2229.1.1)⟩, (bq_g2213 : ∀ (A2230 : Option Addr) (cA2230 : Nat), a2234.eval (.tmp 30) = .tuple #[.agg #[.slice A2230 r2229.1.1.length cA2230, .int .i64 r2229.1.2.1, .int .i64 r2229.1.2.2], .int .i64 r2229.2] → BlkO own2234 2233 w2234 g2213 72 #[.slice A2230 r2229.1.1.length cA2230, .int .i64 r2229.1.2.1, .int .i64 r2229.1.2.2]), -⟩ := hf2234 [6, 1, 5] rfl
  have b2234_g2213 := bq_g2213 _ _ f_30
  have hX2234 := es_ hX2224 hE2234
  have b2234_g2210 := be_ hE2234 b2224_g2210
  have b2234_g2217 := be_ hE2234 b2224_g2217
  have b2234_g2220 := be_ hE2234 b2224_g2220
  refine fl_seq (fun Q2235 hn2235 hp2235 => ?_)
  refine rg0_seq 184 own2234 (bz 1) [⟨[], [], [], Fct.val 12 (.int .i64 0)⟩] hz2234 hd2234 (by kernel_rfl) ?_ ?_
  · refine sc (fun _ _ _ _ _ _ => px (or_assign rfl)) ?_
    exact steps_nil
  intro own2236 a2236 w2236 hd2236 hz2236 hk2236 hf2236 hE2236
  have e2236_2 := (hk2236 2 rfl).trans e2234_2
  have e2236_5 := (hk2236 5 rfl).trans e2234_5
  have e2236_6 := (hk2236 6 rfl).trans e2234_6
  have e2236_7 := (hk2236 7 rfl).trans e2234_7
  have e2236_8 := (hk2236 8 rfl).trans e2234_8
  have e2236_9 := (hk2236 9 rfl).trans e2234_9
  have e2236_10 := (hk2236 10 rfl).trans e2234_10
  have e2236_11 := (hk2236 11 rfl).trans e2234_11
  obtain ⟨(e2236_12 : a2236.eval (.tmp 12) = .int .i64 0), -⟩ := hf2236 [0] rfl
  have hX2236 := es_ hX2234 hE2236
  have b2236_g2210 := be_ hE2236 b2234_g2210
  have b2236_g2217 := be_ hE2236 b2234_g2217
  have b2236_g2220 := be_ hE2236 b2234_g2220
  have b2236_g2213 := be_ hE2236 b2234_g2213
  have b2236_A2230 := RdO.evo rfl hE2236 b2234_A2230
  refine fl_block (fun Q2237 hn2237 hx2237 hp2237 => ?_)
  refine fl_loop (body := (fun s => ref26_Read_b1 r2229 s.1 s.2.1 s.2.2.1 s.2.2.2.1 s.2.2.2.2.1 s.2.2.2.2.2.1 s.2.2.2.2.2.2)) (z := r) (show loopO _ _ = _ from hs) (fun (s : (List Int) × Int × Int × (List ((List (Int × Int)) × Int × Int)) × (Int × Int) × Int × Int) a wx => match s with | (c2492, c2494, c2495, n2499, x2503, points2504, i2505) => ∃ (ox : Own) (A2490 : Option Addr) (c2491 : Nat) (A2497 : Option Addr) (c2498 : Nat), a.defers = [] ∧ a.tmps.size = 184 ∧ a.eval (.tmp 2) = .pointer (some ⟨g2210, 0, none⟩) ∧ a.eval (.tmp 5) = .pointer (some ⟨g2213, 0, none⟩) ∧ a.eval (.tmp 6) = .pointer (some ⟨g2217, 0, none⟩) ∧ a.eval (.tmp 7) = .pointer (some ⟨g2220, 0, none⟩) ∧ a.eval (.tmp 8) = .int .i64 points2504 ∧ a.eval (.tmp 9) = .int .i64 64 ∧ a.eval (.tmp 10) = .int .i64 65536 ∧ a.eval (.tmp 11) = .int .i64 r2229.2 ∧ a.eval (.tmp 12) = .int .i64 i2505 ∧ Evo [] (fun _ => 0) ox w wx ∧ BlkO ox 2211 wx g2210 38 #[.slice none 0 0, .slice none 0 0] ∧ BlkO ox 2489 wx g2213 72 #[.slice A2490 c2492.length c2491, .int .i64 c2494, .int .i64 c2495] ∧ RdO ox [0, 2493] wx R5 A2490 c2491 c2492 ∧ BlkO ox 2496 wx g2217 38 #[.slice A2497 n2499.length c2498, .slice none 0 0] ∧ RwO ox 2500 [2501] wx 78 R78 A2497 c2498 n2499 ∧ BlkO ox 2502 wx g2220 73 #[.int .i64 x2503.1, .int .i64 x2503.2]) ?_ ?_
  · exact ⟨(rl [(2218, 2496), (2222, 2502), (2231, 2493), (2232, 2493), (2233, 2489)] own2236), A2230, cA2230, none, 0, hd2236, hz2236, e2236_2, e2236_5, e2236_6, e2236_7, e2236_8, e2236_9, e2236_10, e2236_11, e2236_12, (Evo.rl_ hX2236 (fun _ => Nat.le_refl 0) rfl), (BlkO.rl_ (mm := [(2218, 2496), (2222, 2502), (2231, 2493), (2232, 2493), (2233, 2489)]) b2236_g2210), (BlkO.rl_ (mm := [(2218, 2496), (2222, 2502), (2231, 2493), (2232, 2493), (2233, 2489)]) b2236_g2213), (RdO.more (RdO.rl_ (mm := [(2218, 2496), (2222, 2502), (2231, 2493), (2232, 2493), (2233, 2489)]) b2236_A2230) (by decide)), (BlkO.rl_ (mm := [(2218, 2496), (2222, 2502), (2231, 2493), (2232, 2493), (2233, 2489)]) b2236_g2217), RwO.nil_, (BlkO.rl_ (mm := [(2218, 2496), (2222, 2502), (2231, 2493), (2232, 2493), (2233, 2489)]) b2236_g2220)⟩
  · rintro ⟨c2492, c2494, c2495, n2499, x2503, points2504, i2505⟩ zz2759 a2759 w2759 ⟨own2759, A2490, c2491, A2497, c2498, hd2760, hz2760, e2760_2, e2760_5, e2760_6, e2760_7, e2760_8, e2760_9, e2760_10, e2760_11, e2760_12, hE2760, b2760_g2210, b2760_g2213, b2760_A2490, b2760_g2217, b2760_A2497, b2760_g2220⟩ hs Q2759 hn2759 hp2759 hz2759
    have hs : ref26_Read_b1 r2229 c2492 c2494 c2495 n2499 x2503 points2504 i2505 = some zz2759 := hs
    refine fl_seq (fun Q2761 hn2761 hp2761 => ?_)
    obtain ⟨x2762, hx2762, hs⟩ := obind hs
    refine rg0_seq 184 own2759 [0, 0, 3, 7, 15, 31, 63, 127] [⟨[], [12], [], Fct.val 33 (.int .i64 i2505)⟩, ⟨[], [11], [], Fct.val 34 (.int .i64 r2229.2)⟩, ⟨[0, 1], [], [], Fct.val 35 (.bool (decide (i2505 < r2229.2)))⟩, ⟨[2], [], [], Fct.val 36 (.bool (decide (i2505 < r2229.2)))⟩, ⟨[3], [5], [], Fct.cond (decide (i2505 < r2229.2)) (some 37) (Fct.val 37 (.pointer (some ⟨g2213, 2, none⟩)))⟩, ⟨[3, 4], [], [], Fct.cond (decide (i2505 < r2229.2)) (some 38) (Fct.val 38 (.int .i64 c2495))⟩, ⟨[3, 5], [], [], Fct.cond (decide (i2505 < r2229.2)) (some 39) (Fct.val 39 (.bool (decide (c2495 = 0))))⟩, ⟨[3, 6], [], [], Fct.val 40 (.bool x2762)⟩] hz2760 hd2760 (by kernel_rfl) ?_ ?_
    · refine sc (fun _ _ _ _ s _ => px (or_move (s.1.trans e2760_12))) ?_
      refine sc (fun _ _ _ _ s _ => px (or_move (s.1.trans e2760_11))) ?_
      refine sc (fun _ _ _ f _ _ => px (or_lss f.1 f.2.1 rfl)) ?_
      refine sc (fun _ _ _ f _ _ => px (or_move f.1)) ?_
      refine sc (fun _ _ _ f s _ => sg_t rfl rfl rfl f.1 (fun hg => or_field fo72_2 (s.1.trans e2760_5) (by rfl))) ?_
      refine sc (fun _ _ _ f _ hE => sg_t rfl rfl rfl f.1 (fun hg => or_load1 to3 (f.2.1.1 hg) (Blk.at_ (be_ hE b2760_g2213).2 2 rfl))) ?_
      refine sc (fun _ _ _ f _ _ => sg_t rfl rfl rfl f.1 (fun hg => or_eql (f.2.1.1 hg) rfl rfl)) ?_
      refine sc (fun _ _ _ f _ _ => px (or_and f.1 (fun hx => f.2.1.1 hx) rfl (osome hx2762).symm)) ?_
      exact steps_nil
    intro own2763 a2763 w2763 hd2763 hz2763 hk2763 hf2763 hE2763
    have e2763_2 := (hk2763 2 rfl).trans e2760_2
    have e2763_5 := (hk2763 5 rfl).trans e2760_5
    have e2763_6 := (hk2763 6 rfl).trans e2760_6
    have e2763_7 := (hk2763 7 rfl).trans e2760_7
    have e2763_8 := (hk2763 8 rfl).trans e2760_8
    have e2763_9 := (hk2763 9 rfl).trans e2760_9
    have e2763_10 := (hk2763 10 rfl).trans e2760_10
    have e2763_11 := (hk2763 11 rfl).trans e2760_11
    have e2763_12 := (hk2763 12 rfl).trans e2760_12
    obtain ⟨(e2763_40 : a2763.eval (.tmp 40) = .bool x2762), -⟩ := hf2763 [7] rfl
    have hX2763 := es_ hE2760 hE2763
    have b2763_g2210 := be_ hE2763 b2760_g2210
    have b2763_g2213 := be_ hE2763 b2760_g2213
    have b2763_A2490 := RdO.evo rfl hE2763 b2760_A2490
    have b2763_g2217 := be_ hE2763 b2760_g2217
    have b2763_A2497 := re_ hE2763 b2760_A2497
    have b2763_g2220 := be_ hE2763 b2760_g2220
    refine fl_cond e2763_40 hs (fun c2764 hs => ?_) (fun c2764 hs => ?_)
    · refine fl_skip ?_
      refine hn2761 _ _ ?_
      refine fl_seq (fun Q2765 hn2765 hp2765 => ?_)
      refine fl_block (fun Q2766 hn2766 hx2766 hp2766 => ?_)
      refine rg_plain_seq (n := 184) (rs := []) (own0 := own2763) (K := [2768]) (bs := [0, 0, 3]) (ds := [⟨[], [], [], Fct.val 43 (.agg #[.slice none 0 0, .int .i64 0, .int .i64 0])⟩, ⟨[], [], [], Fct.blk 2768 13 (fun g => .pointer (some ⟨g, 0, none⟩)) 78 #[.slice none 0 0, .int .i64 0, .int .i64 0]⟩, ⟨[1, 0], [], [2768], Fct.blk 2769 13 (fun g => .pointer (some ⟨g, 0, none⟩)) 78 #[.slice none 0 0, .int .i64 0, .int .i64 0]⟩]) (by kernel_rfl) hz2763 hd2763 nm_ ?_ ?_
      · refine sc (fun _ _ _ _ _ _ => px (or_k [] rfl rfl trivial (by kernel_rfl))) ?_
        refine sc (fun _ _ _ _ _ _ => px (or_new [] rfl rfl trivial (by kernel_rfl))) ?_
        refine sc (fun own a wx hf hsl hE => ?_) ?_
        · obtain ⟨⟨g2767, f_13, b_g2767⟩, f_43, -⟩ := hf
          exact px (or_store (l := #[.slice none 0 0, .int .i64 0, .int .i64 0]) (lab := 2768) (lab2 := 2769) ts78 f_13 f_43 b_g2767 (by simp) (by kernel_rfl) (mem_of rfl) (by decide) (by kernel_rfl) (fun own' a' w' ha hb => ⟨_, (ha 13).trans f_13, hb⟩))
        exact steps_nil
      intro own2770 a2770 w2770 hd2770 hz2770 hk2770 hf2770 hE2770
      have e2770_2 := (hk2770 2 rfl).trans e2763_2
      have e2770_5 := (hk2770 5 rfl).trans e2763_5
      have e2770_6 := (hk2770 6 rfl).trans e2763_6
      have e2770_7 := (hk2770 7 rfl).trans e2763_7
      have e2770_8 := (hk2770 8 rfl).trans e2763_8
      have e2770_9 := (hk2770 9 rfl).trans e2763_9
      have e2770_10 := (hk2770 10 rfl).trans e2763_10
      have e2770_11 := (hk2770 11 rfl).trans e2763_11
      have e2770_12 := (hk2770 12 rfl).trans e2763_12
      obtain ⟨⟨g2767, (e2770_13 : a2770.eval (.tmp 13) = .pointer (some ⟨g2767, 0, none⟩)), (b2770_g2767 : BlkO own2770 2769 w2770 g2767 78 #[.slice none 0 0, .int .i64 0, .int .i64 0])⟩, -⟩ := hf2770 [2] rfl
      have hX2770 := es_ hX2763 hE2770
      have b2770_g2210 := be_ hE2770 b2763_g2210
      have b2770_g2213 := be_ hE2770 b2763_g2213
      have b2770_A2490 := RdO.evo rfl hE2770 b2763_A2490
      have b2770_g2217 := be_ hE2770 b2763_g2217
      have b2770_A2497 := re_ hE2770 b2763_A2497
      have b2770_g2220 := be_ hE2770 b2763_g2220
      refine rg0_seq 184 own2770 (bz 1) [⟨[], [], [], Fct.val 14 (.int .i64 0)⟩] hz2770 hd2770 (by kernel_rfl) ?_ ?_
      · refine sc (fun _ _ _ _ _ _ => px (or_assign rfl)) ?_
        exact steps_nil
      intro own2771 a2771 w2771 hd2771 hz2771 hk2771 hf2771 hE2771
      have e2771_2 := (hk2771 2 rfl).trans e2770_2
      have e2771_5 := (hk2771 5 rfl).trans e2770_5
      have e2771_6 := (hk2771 6 rfl).trans e2770_6
      have e2771_7 := (hk2771 7 rfl).trans e2770_7
      have e2771_8 := (hk2771 8 rfl).trans e2770_8
      have e2771_9 := (hk2771 9 rfl).trans e2770_9
      have e2771_10 := (hk2771 10 rfl).trans e2770_10
      have e2771_11 := (hk2771 11 rfl).trans e2770_11
      have e2771_12 := (hk2771 12 rfl).trans e2770_12
      have e2771_13 := (hk2771 13 rfl).trans e2770_13
      have hX2771 := es_ hX2770 hE2771
      have b2771_g2210 := be_ hE2771 b2770_g2210
      have b2771_g2213 := be_ hE2771 b2770_g2213
      have b2771_A2490 := RdO.evo rfl hE2771 b2770_A2490
      have b2771_g2217 := be_ hE2771 b2770_g2217
      have b2771_A2497 := re_ hE2771 b2770_A2497
      have b2771_g2220 := be_ hE2771 b2770_g2220
      have b2771_g2767 := be_ hE2771 b2770_g2767
      obtain ⟨r2781, hr2781, hs⟩ := obind hs
      refine rg_plain_seq (n := 184) (rs := [Fct.at_ 2489 g2213 72 #[.slice A2490 c2492.length c2491, .int .i64 c2494, .int .i64 c2495], Fct.at_ 2769 g2767 78 #[.slice none 0 0, .int .i64 0, .int .i64 0]]) (own0 := own2771) (K := [2489, 2769]) (bs := [0, 1, 3, 7, 7, 15, 63, 127]) (ds := [⟨[8], [5], [], Fct.val 45 (.agg #[.slice A2490 c2492.length c2491, .int .i64 c2494, .int .i64 c2495])⟩, ⟨[0], [], [], Fct.mems [2783, 2784, 0, 2493] 46 (fun (x : Option Addr × Nat) => .tuple #[.agg #[.slice x.1 r2781.1.1.length x.2, .int .i64 r2781.1.2.1, .int .i64 r2781.1.2.2], .int .i64 r2781.2]) (fun (x : Option Addr × Nat) own w => RdO own [2783, 2784, 0, 2493] w R5 x.1 x.2 r2781.1.1) (fun hk he h => RdO.evo (hits_sub hk (by decide)) he h)⟩, ⟨[1], [], [], Fct.rel [44, 46] (fun l => ∀ (A2782 : Option Addr) (cA2782 : Nat), l.getD 1 undef = .tuple #[.agg #[.slice A2782 r2781.1.1.length cA2782, .int .i64 r2781.1.2.1, .int .i64 r2781.1.2.2], .int .i64 r2781.2] → l.getD 0 undef = .tuple #[.agg #[.slice A2782 r2781.1.1.length cA2782, .int .i64 r2781.1.2.1, .int .i64 r2781.1.2.2], .int .i64 r2781.2])⟩, ⟨[2, 1], [], [], Fct.rel [47, 46] (fun l => ∀ (A2782 : Option Addr) (cA2782 : Nat), l.getD 1 undef = .tuple #[.agg #[.slice A2782 r2781.1.1.length cA2782, .int .i64 r2781.1.2.1, .int .i64 r2781.1.2.2], .int .i64 r2781.2] → l.getD 0 undef = .agg #[.slice A2782 r2781.1.1.length cA2782, .int .i64 r2781.1.2.1, .int .i64 r2781.1.2.2])⟩, ⟨[2, 1], [], [], Fct.val 48 (.int .i64 r2781.2)⟩, ⟨[3, 1, 8], [5], [2489], Fct.by_ [2785] [46] (fun l own w => ∀ (A2782 : Option Addr) (cA2782 : Nat), l.getD 0 undef = .tuple #[.agg #[.slice A2782 r2781.1.1.length cA2782, .int .i64 r2781.1.2.1, .int .i64 r2781.1.2.2], .int .i64 r2781.2] → BlkO own 2785 w g2213 72 #[.slice A2782 r2781.1.1.length cA2782, .int .i64 r2781.1.2.1, .int .i64 r2781.1.2.2]) (fun hk he h _ _ h0' => BlkO.evo (not_hit hk (by decide)) he (h _ _ h0'))⟩, ⟨[], [13], [], Fct.val 49 (.pointer (some ⟨g2767, 1, none⟩))⟩, ⟨[6, 4, 9], [], [2769], Fct.at_ 2786 g2767 78 #[.slice none 0 0, .int .i64 r2781.2, .int .i64 0]⟩]) (by kernel_rfl) hz2771 hd2771 (by simp only [List.forall_mem_cons]; exact ⟨b2771_g2213, b2771_g2767, fun _ h => nomatch h⟩) ?_ ?_
      · refine sc (fun own a wx hf hsl hE => ?_) ?_
        · obtain ⟨(b_g2213 : BlkO own 2489 wx g2213 72 #[.slice A2490 c2492.length c2491, .int .i64 c2494, .int .i64 c2495]), -⟩ := hf
          obtain ⟨s_5, -⟩ := hsl
          exact px (or_load (l := [.slice A2490 c2492.length c2491, .int .i64 c2494, .int .i64 c2495]) ta72 (s_5.trans e2771_5) (Blk.cellsFrom b_g2213.2 0 rfl) rfl)
        refine sc (fun own _ _ f _ hE => px (or_call cf26 (args3 f.1 rfl rfl) (ref26_Up_w _ (forth own (inL [0, 2493])) (c2492, c2494, c2495) A2490 c2491 32 5 inL_le (RdO.alias_ (La := [0, 2493]) (RdO.evo rfl hE b2771_A2490) (by decide)) r2781 hr2781) (post_alias (La := [0, 2493]) (m' := (look0 [(1, 2783), (2, 2784)])) (fun own' w' a' x ho hsz h1 h => ⟨x, h1, RdO.backN_ ho hsz h (by decide) (by decide) (by decide)⟩)))) ?_
        refine sc (fun own a wx hf hsl hE => ?_) ?_
        · obtain ⟨⟨⟨A2782, cA2782⟩, (f_46 : a.eval (.tmp 46) = .tuple #[.agg #[.slice A2782 r2781.1.1.length cA2782, .int .i64 r2781.1.2.1, .int .i64 r2781.1.2.2], .int .i64 r2781.2]), b_A2782⟩, -⟩ := hf
          exact px (or_mono (f := Fct.val 44 (.tuple #[.agg #[.slice A2782 r2781.1.1.length cA2782, .int .i64 r2781.1.2.1, .int .i64 r2781.1.2.2], .int .i64 r2781.2])) (or_move f_46) (fun own' a' w' v' hp h => fun _ _ h0' => by cases (f_46.symm.trans ((hp.2 46 (by decide)).symm.trans h0')); exact h))
        refine sc (fun own a wx hf hsl hE => ?_) ?_
        · obtain ⟨(q_44 : ∀ (A2782 : Option Addr) (cA2782 : Nat), a.eval (.tmp 46) = .tuple #[.agg #[.slice A2782 r2781.1.1.length cA2782, .int .i64 r2781.1.2.1, .int .i64 r2781.1.2.2], .int .i64 r2781.2] → a.eval (.tmp 44) = .tuple #[.agg #[.slice A2782 r2781.1.1.length cA2782, .int .i64 r2781.1.2.1, .int .i64 r2781.1.2.2], .int .i64 r2781.2]), ⟨⟨A2782, cA2782⟩, (f_46 : a.eval (.tmp 46) = .tuple #[.agg #[.slice A2782 r2781.1.1.length cA2782, .int .i64 r2781.1.2.1, .int .i64 r2781.1.2.2], .int .i64 r2781.2]), b_A2782⟩, -⟩ := hf
          have f_44 := q_44 _ _ f_46
          exact px (or_mono (f := Fct.val 47 (.agg #[.slice A2782 r2781.1.1.length cA2782, .int .i64 r2781.1.2.1, .int .i64 r2781.1.2.2])) (or_k [(44, .tuple #[.agg #[.slice A2782 r2781.1.1.length cA2782, .int .i64 r2781.1.2.1, .int .i64 r2781.1.2.2], .int .i64 r2781.2])] rfl rfl ⟨f_44, trivial⟩ (by kernel_rfl)) (fun own' a' w' v' hp h => fun _ _ h0' => by cases (f_46.symm.trans ((hp.2 46 (by decide)).symm.trans h0')); exact h))
        refine sc (fun own a wx hf hsl hE => ?_) ?_
        · obtain ⟨(q_44 : ∀ (A2782 : Option Addr) (cA2782 : Nat), a.eval (.tmp 46) = .tuple #[.agg #[.slice A2782 r2781.1.1.length cA2782, .int .i64 r2781.1.2.1, .int .i64 r2781.1.2.2], .int .i64 r2781.2] → a.eval (.tmp 44) = .tuple #[.agg #[.slice A2782 r2781.1.1.length cA2782, .int .i64 r2781.1.2.1, .int .i64 r2781.1.2.2], .int .i64 r2781.2]), ⟨⟨A2782, cA2782⟩, f_46, b_A2782⟩, -⟩ := hf
          have f_44 := q_44 _ _ f_46
          exact px (or_k [(44, .tuple #[.agg #[.slice A2782 r2781.1.1.length cA2782, .int .i64 r2781.1.2.1, .int .i64 r2781.1.2.2], .int .i64 r2781.2])] rfl rfl ⟨f_44, trivial⟩ (by kernel_rfl))
        refine sc (fun own a wx hf hsl hE => ?_) ?_
        · obtain ⟨(q_47 : ∀ (A2782 : Option Addr) (cA2782 : Nat), a.eval (.tmp 46) = .tuple #[.agg #[.slice A2782 r2781.1.1.length cA2782, .int .i64 r2781.1.2.1, .int .i64 r2781.1.2.2], .int .i64 r2781.2] → a.eval (.tmp 47) = .agg #[.slice A2782 r2781.1.1.length cA2782, .int .i64 r2781.1.2.1, .int .i64 r2781.1.2.2]), ⟨⟨A2782, cA2782⟩, (f_46 : a.eval (.tmp 46) = .tuple #[.agg #[.slice A2782 r2781.1.1.length cA2782, .int .i64 r2781.1.2.1, .int .i64 r2781.1.2.2], .int .i64 r2781.2]), b_A2782⟩, b_g2213, -⟩ := hf
          have f_47 := q_47 _ _ f_46
          obtain ⟨s_5, -⟩ := hsl
          exact px (or_store (l := #[.slice A2782 r2781.1.1.length cA2782, .int .i64 r2781.1.2.1, .int .i64 r2781.1.2.2]) (lab := 2489) (lab2 := 2785) ts72 (s_5.trans e2771_5) f_47 b_g2213 (by simp) (by kernel_rfl) (mem_of rfl) (by decide) (by kernel_rfl) (fun own' a' w' ha hb => fun _ _ h0' => by cases (f_46.symm.trans ((ha 46).symm.trans h0')); exact hb))
        refine sc (fun _ _ _ _ s _ => px (or_field fo78_1 (s.1.trans e2771_13) (by rfl))) ?_
        refine sc (fun own a wx hf hsl hE => ?_) ?_
        · obtain ⟨f_49, f_48, b_g2767, -⟩ := hf
          exact px (or_store1 (lab := 2769) (lab2 := 2786) ts3 f_49 f_48 b_g2767 (by simp) rfl (mem_of rfl) (by decide) rfl (fun own' a' w' ha hb => hb))
        exact steps_nil
      intro own2787 a2787 w2787 hd2787 hz2787 hk2787 hf2787 hE2787
      have e2787_2 := (hk2787 2 rfl).trans e2771_2
      have e2787_5 := (hk2787 5 rfl).trans e2771_5
      have e2787_6 := (hk2787 6 rfl).trans e2771_6
      have e2787_7 := (hk2787 7 rfl).trans e2771_7
      have e2787_8 := (hk2787 8 rfl).trans e2771_8
      have e2787_9 := (hk2787 9 rfl).trans e2771_9
      have e2787_10 := (hk2787 10 rfl).trans e2771_10
      have e2787_11 := (hk2787 11 rfl).trans e2771_11
      have e2787_12 := (hk2787 12 rfl).trans e2771_12
      have e2787_13 := (hk2787 13 rfl).trans e2771_13
      obtain ⟨⟨⟨A2782, cA2782⟩, (f_46 : a2787.eval (.tmp 46) = .tuple #[.agg #[.slice A2782 r2781.1.1.length cA2782, .int .i64 r2781.1.2.1, .int .i64 r2781.1.2.2], .int .i64 r2781.2]), (b2787_A2782 : RdO own2787 [2783, 2784, 0, 2493] w2787 R5 A2782 cA2782 r2781.1.1)⟩, (bq_g2213 : ∀ (A2782 : Option Addr) (cA2782 : Nat), a2787.eval (.tmp 46) = .tuple #[.agg #[.slice A2782 r2781.1.1.length cA2782, .int .i64 r2781.1.2.1, .int .i64 r2781.1.2.2], .int .i64 r2781.2] → BlkO own2787 2785 w2787 g2213 72 #[.slice A2782 r2781.1.1.length cA2782, .int .i64 r2781.1.2.1, .int .i64 r2781.1.2.2]), (b2787_g2767 : BlkO own2787 2786 w2787 g2767 78 #[.slice none 0 0, .int .i64 r2781.2, .int .i64 0]), -⟩ := hf2787 [1, 5, 7] rfl
      have b2787_g2213 := bq_g2213 _ _ f_46
      have hX2787 := es_ hX2771 hE2787
      have b2787_g2210 := be_ hE2787 b2771_g2210
      have b2787_g2217 := be_ hE2787 b2771_g2217
      have b2787_A2497 := re_ hE2787 b2771_A2497
      have b2787_g2220 := be_ hE2787 b2771_g2220
      obtain ⟨r2797, hr2797, hs⟩ := obind hs
      refine rg_plain_seq (n := 184) (rs := [Fct.at_ 2785 g2213 72 #[.slice A2782 r2781.1.1.length cA2782, .int .i64 r2781.1.2.1, .int .i64 r2781.1.2.2], Fct.at_ 2786 g2767 78 #[.slice none 0 0, .int .i64 r2781.2, .int .i64 0]]) (own0 := own2787) (K := [2785, 2786]) (bs := [0, 1, 3, 7, 7, 15, 63, 127]) (ds := [⟨[8], [5], [], Fct.val 51 (.agg #[.slice A2782 r2781.1.1.length cA2782, .int .i64 r2781.1.2.1, .int .i64 r2781.1.2.2])⟩, ⟨[0], [], [], Fct.mems [2799, 2800, 2783, 2784, 0, 2493] 52 (fun (x : Option Addr × Nat) => .tuple #[.agg #[.slice x.1 r2797.1.1.length x.2, .int .i64 r2797.1.2.1, .int .i64 r2797.1.2.2], .int .i64 r2797.2]) (fun (x : Option Addr × Nat) own w => RdO own [2799, 2800, 2783, 2784, 0, 2493] w R5 x.1 x.2 r2797.1.1) (fun hk he h => RdO.evo (hits_sub hk (by decide)) he h)⟩, ⟨[1], [], [], Fct.rel [50, 52] (fun l => ∀ (A2798 : Option Addr) (cA2798 : Nat), l.getD 1 undef = .tuple #[.agg #[.slice A2798 r2797.1.1.length cA2798, .int .i64 r2797.1.2.1, .int .i64 r2797.1.2.2], .int .i64 r2797.2] → l.getD 0 undef = .tuple #[.agg #[.slice A2798 r2797.1.1.length cA2798, .int .i64 r2797.1.2.1, .int .i64 r2797.1.2.2], .int .i64 r2797.2])⟩, ⟨[2, 1], [], [], Fct.rel [53, 52] (fun l => ∀ (A2798 : Option Addr) (cA2798 : Nat), l.getD 1 undef = .tuple #[.agg #[.slice A2798 r2797.1.1.length cA2798, .int .i64 r2797.1.2.1, .int .i64 r2797.1.2.2], .int .i64 r2797.2] → l.getD 0 undef = .agg #[.slice A2798 r2797.1.1.length cA2798, .int .i64 r2797.1.2.1, .int .i64 r2797.1.2.2])⟩, ⟨[2, 1], [], [], Fct.val 54 (.int .i64 r2797.2)⟩, ⟨[3, 1, 8], [5], [2785], Fct.by_ [2801] [52] (fun l own w => ∀ (A2798 : Option Addr) (cA2798 : Nat), l.getD 0 undef = .tuple #[.agg #[.slice A2798 r2797.1.1.length cA2798, .int .i64 r2797.1.2.1, .int .i64 r2797.1.2.2], .int .i64 r2797.2] → BlkO own 2801 w g2213 72 #[.slice A2798 r2797.1.1.length cA2798, .int .i64 r2797.1.2.1, .int .i64 r2797.1.2.2]) (fun hk he h _ _ h0' => BlkO.evo (not_hit hk (by decide)) he (h _ _ h0'))⟩, ⟨[], [13], [], Fct.val 55 (.pointer (some ⟨g2767, 2, none⟩))⟩, ⟨[6, 4, 9], [], [2786], Fct.at_ 2802 g2767 78 #[.slice none 0 0, .int .i64 r2781.2, .int .i64 r2797.2]⟩]) (by kernel_rfl) hz2787 hd2787 (by simp only [List.forall_mem_cons]; exact ⟨b2787_g2213, b2787_g2767, fun _ h => nomatch h⟩) ?_ ?_
      · refine sc (fun own a wx hf hsl hE => ?_) ?_
        · obtain ⟨(b_g2213 : BlkO own 2785 wx g2213 72 #[.slice A2782 r2781.1.1.length cA2782, .int .i64 r2781.1.2.1, .int .i64 r2781.1.2.2]), -⟩ := hf
          obtain ⟨s_5, -⟩ := hsl
          exact px (or_load (l := [.slice A2782 r2781.1.1.length cA2782, .int .i64 r2781.1.2.1, .int .i64 r2781.1.2.2]) ta72 (s_5.trans e2787_5) (Blk.cellsFrom b_g2213.2 0 rfl) rfl)
        refine sc (fun own _ _ f _ hE => px (or_call cf26 (args3 f.1 rfl rfl) (ref26_Up_w _ (forth own (inL [2783, 2784, 0, 2493])) r2781.1 A2782 cA2782 32 5 inL_le (RdO.alias_ (La := [2783, 2784, 0, 2493]) (RdO.evo rfl hE b2787_A2782) (by decide)) r2797 hr2797) (post_alias (La := [2783, 2784, 0, 2493]) (m' := (look0 [(1, 2799), (2, 2800)])) (fun own' w' a' x ho hsz h1 h => ⟨x, h1, RdO.backN_ ho hsz h (by decide) (by decide) (by decide)⟩)))) ?_
        refine sc (fun own a wx hf hsl hE => ?_) ?_
        · obtain ⟨⟨⟨A2798, cA2798⟩, (f_52 : a.eval (.tmp 52) = .tuple #[.agg #[.slice A2798 r2797.1.1.length cA2798, .int .i64 r2797.1.2.1, .int .i64 r2797.1.2.2], .int .i64 r2797.2]), b_A2798⟩, -⟩ := hf
          exact px (or_mono (f := Fct.val 50 (.tuple #[.agg #[.slice A2798 r2797.1.1.length cA2798, .int .i64 r2797.1.2.1, .int .i64 r2797.1.2.2], .int .i64 r2797.2])) (or_move f_52) (fun own' a' w' v' hp h => fun _ _ h0' => by cases (f_52.symm.trans ((hp.2 52 (by decide)).symm.trans h0')); exact h))
        refine sc (fun own a wx hf hsl hE => ?_) ?_
        · obtain ⟨(q_50 : ∀ (A2798 : Option Addr) (cA2798 : Nat), a.eval (.tmp 52) = .tuple #[.agg #[.slice A2798 r2797.1.1.length cA2798, .int .i64 r2797.1.2.1, .int .i64 r2797.1.2.2], .int .i64 r2797.2] → a.eval (.tmp 50) = .tuple #[.agg #[.slice A2798 r2797.1.1.length cA2798, .int .i64 r2797.1.2.1, .int .i64 r2797.1.2.2], .int .i64 r2797.2]), ⟨⟨A2798, cA2798⟩, (f_52 : a.eval (.tmp 52) = .tuple #[.agg #[.slice A2798 r2797.1.1.length cA2798, .int .i64 r2797.1.2.1, .int .i64 r2797.1.2.2], .int .i64 r2797.2]), b_A2798⟩, -⟩ := hf
          have f_50 := q_50 _ _ f_52
          exact px (or_mono (f := Fct.val 53 (.agg #[.slice A2798 r2797.1.1.length cA2798, .int .i64 r2797.1.2.1, .int .i64 r2797.1.2.2])) (or_k [(50, .tuple #[.agg #[.slice A2798 r2797.1.1.length cA2798, .int .i64 r2797.1.2.1, .int .i64 r2797.1.2.2], .int .i64 r2797.2])] rfl rfl ⟨f_50, trivial⟩ (by kernel_rfl)) (fun own' a' w' v' hp h => fun _ _ h0' => by cases (f_52.symm.trans ((hp.2 52 (by decide)).symm.trans h0')); exact h))
        refine sc (fun own a wx hf hsl hE => ?_) ?_
        · obtain ⟨(q_50 : ∀ (A2798 : Option Addr) (cA2798 : Nat), a.eval (.tmp 52) = .tuple #[.agg #[.slice A2798 r2797.1.1.length cA2798, .int .i64 r2797.1.2.1, .int .i64 r2797.1.2.2], .int .i64 r2797.2] → a.eval (.tmp 50) = .tuple #[.agg #[.slice A2798 r2797.1.1.length cA2798, .int .i64 r2797.1.2.1, .int .i64 r2797.1.2.2], .int .i64 r2797.2]), ⟨⟨A2798, cA2798⟩, f_52, b_A2798⟩, -⟩ := hf
          have f_50 := q_50 _ _ f_52
          exact px (or_k [(50, .tuple #[.agg #[.slice A2798 r2797.1.1.length cA2798, .int .i64 r2797.1.2.1, .int .i64 r2797.1.2.2], .int .i64 r2797.2])] rfl rfl ⟨f_50, trivial⟩ (by kernel_rfl))
        refine sc (fun own a wx hf hsl hE => ?_) ?_
        · obtain ⟨(q_53 : ∀ (A2798 : Option Addr) (cA2798 : Nat), a.eval (.tmp 52) = .tuple #[.agg #[.slice A2798 r2797.1.1.length cA2798, .int .i64 r2797.1.2.1, .int .i64 r2797.1.2.2], .int .i64 r2797.2] → a.eval (.tmp 53) = .agg #[.slice A2798 r2797.1.1.length cA2798, .int .i64 r2797.1.2.1, .int .i64 r2797.1.2.2]), ⟨⟨A2798, cA2798⟩, (f_52 : a.eval (.tmp 52) = .tuple #[.agg #[.slice A2798 r2797.1.1.length cA2798, .int .i64 r2797.1.2.1, .int .i64 r2797.1.2.2], .int .i64 r2797.2]), b_A2798⟩, b_g2213, -⟩ := hf
          have f_53 := q_53 _ _ f_52
          obtain ⟨s_5, -⟩ := hsl
          exact px (or_store (l := #[.slice A2798 r2797.1.1.length cA2798, .int .i64 r2797.1.2.1, .int .i64 r2797.1.2.2]) (lab := 2785) (lab2 := 2801) ts72 (s_5.trans e2787_5) f_53 b_g2213 (by simp) (by kernel_rfl) (mem_of rfl) (by decide) (by kernel_rfl) (fun own' a' w' ha hb => fun _ _ h0' => by cases (f_52.symm.trans ((ha 52).symm.trans h0')); exact hb))
        refine sc (fun _ _ _ _ s _ => px (or_field fo78_2 (s.1.trans e2787_13) (by rfl))) ?_
        refine sc (fun own a wx hf hsl hE => ?_) ?_
        · obtain ⟨f_55, f_54, b_g2767, -⟩ := hf
          exact px (or_store1 (lab := 2786) (lab2 := 2802) ts3 f_55 f_54 b_g2767 (by simp) rfl (mem_of rfl) (by decide) rfl (fun own' a' w' ha hb => hb))
        exact steps_nil
      intro own2803 a2803 w2803 hd2803 hz2803 hk2803 hf2803 hE2803
      have e2803_2 := (hk2803 2 rfl).trans e2787_2
      have e2803_5 := (hk2803 5 rfl).trans e2787_5
      have e2803_6 := (hk2803 6 rfl).trans e2787_6
      have e2803_7 := (hk2803 7 rfl).trans e2787_7
      have e2803_8 := (hk2803 8 rfl).trans e2787_8
      have e2803_9 := (hk2803 9 rfl).trans e2787_9
      have e2803_10 := (hk2803 10 rfl).trans e2787_10
      have e2803_11 := (hk2803 11 rfl).trans e2787_11
      have e2803_12 := (hk2803 12 rfl).trans e2787_12
      have e2803_13 := (hk2803 13 rfl).trans e2787_13
      obtain ⟨⟨⟨A2798, cA2798⟩, (f_52 : a2803.eval (.tmp 52) = .tuple #[.agg #[.slice A2798 r2797.1.1.length cA2798, .int .i64 r2797.1.2.1, .int .i64 r2797.1.2.2], .int .i64 r2797.2]), (b2803_A2798 : RdO own2803 [2799, 2800, 2783, 2784, 0, 2493] w2803 R5 A2798 cA2798 r2797.1.1)⟩, (bq_g2213 : ∀ (A2798 : Option Addr) (cA2798 : Nat), a2803.eval (.tmp 52) = .tuple #[.agg #[.slice A2798 r2797.1.1.length cA2798, .int .i64 r2797.1.2.1, .int .i64 r2797.1.2.2], .int .i64 r2797.2] → BlkO own2803 2801 w2803 g2213 72 #[.slice A2798 r2797.1.1.length cA2798, .int .i64 r2797.1.2.1, .int .i64 r2797.1.2.2]), (b2803_g2767 : BlkO own2803 2802 w2803 g2767 78 #[.slice none 0 0, .int .i64 r2781.2, .int .i64 r2797.2]), -⟩ := hf2803 [1, 5, 7] rfl
      have b2803_g2213 := bq_g2213 _ _ f_52
      have hX2803 := es_ hX2787 hE2803
      have b2803_g2210 := be_ hE2803 b2787_g2210
      have b2803_g2217 := be_ hE2803 b2787_g2217
      have b2803_A2497 := re_ hE2803 b2787_A2497
      have b2803_g2220 := be_ hE2803 b2787_g2220
      obtain ⟨r2808, hr2808, hs⟩ := obind hs
      refine rg_plain_seq (n := 184) (rs := [Fct.at_ 2801 g2213 72 #[.slice A2798 r2797.1.1.length cA2798, .int .i64 r2797.1.2.1, .int .i64 r2797.1.2.2]]) (own0 := own2803) (K := [2801]) (bs := [0, 0, 3, 7, 15, 15, 31, 127]) (ds := [⟨[8], [5], [], Fct.val 57 (.agg #[.slice A2798 r2797.1.1.length cA2798, .int .i64 r2797.1.2.1, .int .i64 r2797.1.2.2])⟩, ⟨[], [8], [], Fct.val 58 (.int .i64 points2504)⟩, ⟨[0, 1], [], [], Fct.mems [2810, 2811, 2799, 2800, 2783, 2784, 0, 2493] 59 (fun (x : Option Addr × Nat) => .tuple #[.agg #[.slice x.1 r2808.1.1.length x.2, .int .i64 r2808.1.2.1, .int .i64 r2808.1.2.2], .int .i64 r2808.2]) (fun (x : Option Addr × Nat) own w => RdO own [2810, 2811, 2799, 2800, 2783, 2784, 0, 2493] w R5 x.1 x.2 r2808.1.1) (fun hk he h => RdO.evo (hits_sub hk (by decide)) he h)⟩, ⟨[2], [], [], Fct.rel [56, 59] (fun l => ∀ (A2809 : Option Addr) (cA2809 : Nat), l.getD 1 undef = .tuple #[.agg #[.slice A2809 r2808.1.1.length cA2809, .int .i64 r2808.1.2.1, .int .i64 r2808.1.2.2], .int .i64 r2808.2] → l.getD 0 undef = .tuple #[.agg #[.slice A2809 r2808.1.1.length cA2809, .int .i64 r2808.1.2.1, .int .i64 r2808.1.2.2], .int .i64 r2808.2])⟩, ⟨[3, 2], [], [], Fct.rel [60, 59] (fun l => ∀ (A2809 : Option Addr) (cA2809 : Nat), l.getD 1 undef = .tuple #[.agg #[.slice A2809 r2808.1.1.length cA2809, .int .i64 r2808.1.2.1, .int .i64 r2808.1.2.2], .int .i64 r2808.2] → l.getD 0 undef = .agg #[.slice A2809 r2808.1.1.length cA2809, .int .i64 r2808.1.2.1, .int .i64 r2808.1.2.2])⟩, ⟨[3, 2], [], [], Fct.val 61 (.int .i64 r2808.2)⟩, ⟨[4, 2, 8], [5], [2801], Fct.by_ [2812] [59] (fun l own w => ∀ (A2809 : Option Addr) (cA2809 : Nat), l.getD 0 undef = .tuple #[.agg #[.slice A2809 r2808.1.1.length cA2809, .int .i64 r2808.1.2.1, .int .i64 r2808.1.2.2], .int .i64 r2808.2] → BlkO own 2812 w g2213 72 #[.slice A2809 r2808.1.1.length cA2809, .int .i64 r2808.1.2.1, .int .i64 r2808.1.2.2]) (fun hk he h _ _ h0' => BlkO.evo (not_hit hk (by decide)) he (h _ _ h0'))⟩, ⟨[5], [], [], Fct.val 14 (.int .i64 r2808.2)⟩]) (by kernel_rfl) hz2803 hd2803 (by simp only [List.forall_mem_cons]; exact ⟨b2803_g2213, fun _ h => nomatch h⟩) ?_ ?_
      · refine sc (fun own a wx hf hsl hE => ?_) ?_
        · obtain ⟨(b_g2213 : BlkO own 2801 wx g2213 72 #[.slice A2798 r2797.1.1.length cA2798, .int .i64 r2797.1.2.1, .int .i64 r2797.1.2.2]), -⟩ := hf
          obtain ⟨s_5, -⟩ := hsl
          exact px (or_load (l := [.slice A2798 r2797.1.1.length cA2798, .int .i64 r2797.1.2.1, .int .i64 r2797.1.2.2]) ta72 (s_5.trans e2803_5) (Blk.cellsFrom b_g2213.2 0 rfl) rfl)
        refine sc (fun _ _ _ _ s _ => px (or_move (s.1.trans e2803_8))) ?_
        refine sc (fun own _ _ f _ hE => px (or_call cf26 (args3 f.1 f.2.1 rfl) (ref26_Up_w _ (forth own (inL [2799, 2800, 2783, 2784, 0, 2493])) r2797.1 A2798 cA2798 points2504 6 inL_le (RdO.alias_ (La := [2799, 2800, 2783, 2784, 0, 2493]) (RdO.evo rfl hE b2803_A2798) (by decide)) r2808 hr2808) (post_alias (La := [2799, 2800, 2783, 2784, 0, 2493]) (m' := (look0 [(1, 2810), (2, 2811)])) (fun own' w' a' x ho hsz h1 h => ⟨x, h1, RdO.backN_ ho hsz h (by decide) (by decide) (by decide)⟩)))) ?_
        refine sc (fun own a wx hf hsl hE => ?_) ?_
        · obtain ⟨⟨⟨A2809, cA2809⟩, (f_59 : a.eval (.tmp 59) = .tuple #[.agg #[.slice A2809 r2808.1.1.length cA2809, .int .i64 r2808.1.2.1, .int .i64 r2808.1.2.2], .int .i64 r2808.2]), b_A2809⟩, -⟩ := hf
          exact px (or_mono (f := Fct.val 56 (.tuple #[.agg #[.slice A2809 r2808.1.1.length cA2809, .int .i64 r2808.1.2.1, .int .i64 r2808.1.2.2], .int .i64 r2808.2])) (or_move f_59) (fun own' a' w' v' hp h => fun _ _ h0' => by cases (f_59.symm.trans ((hp.2 59 (by decide)).symm.trans h0')); exact h))
        refine sc (fun own a wx hf hsl hE => ?_) ?_
        · obtain ⟨(q_56 : ∀ (A2809 : Option Addr) (cA2809 : Nat), a.eval (.tmp 59) = .tuple #[.agg #[.slice A2809 r2808.1.1.length cA2809, .int .i64 r2808.1.2.1, .int .i64 r2808.1.2.2], .int .i64 r2808.2] → a.eval (.tmp 56) = .tuple #[.agg #[.slice A2809 r2808.1.1.length cA2809, .int .i64 r2808.1.2.1, .int .i64 r2808.1.2.2], .int .i64 r2808.2]), ⟨⟨A2809, cA2809⟩, (f_59 : a.eval (.tmp 59) = .tuple #[.agg #[.slice A2809 r2808.1.1.length cA2809, .int .i64 r2808.1.2.1, .int .i64 r2808.1.2.2], .int .i64 r2808.2]), b_A2809⟩, -⟩ := hf
          have f_56 := q_56 _ _ f_59
          exact px (or_mono (f := Fct.val 60 (.agg #[.slice A2809 r2808.1.1.length cA2809, .int .i64 r2808.1.2.1, .int .i64 r2808.1.2.2])) (or_k [(56, .tuple #[.agg #[.slice A2809 r2808.1.1.length cA2809, .int .i64 r2808.1.2.1, .int .i64 r2808.1.2.2], .int .i64 r2808.2])] rfl rfl ⟨f_56, trivial⟩ (by kernel_rfl)) (fun own' a' w' v' hp h => fun _ _ h0' => by cases (f_59.symm.trans ((hp.2 59 (by decide)).symm.trans h0')); exact h))
        refine sc (fun own a wx hf hsl hE => ?_) ?_
        · obtain ⟨(q_56 : ∀ (A2809 : Option Addr) (cA2809 : Nat), a.eval (.tmp 59) = .tuple #[.agg #[.slice A2809 r2808.1.1.length cA2809, .int .i64 r2808.1.2.1, .int .i64 r2808.1.2.2], .int .i64 r2808.2] → a.eval (.tmp 56) = .tuple #[.agg #[.slice A2809 r2808.1.1.length cA2809, .int .i64 r2808.1.2.1, .int .i64 r2808.1.2.2], .int .i64 r2808.2]), ⟨⟨A2809, cA2809⟩, f_59, b_A2809⟩, -⟩ := hf
          have f_56 := q_56 _ _ f_59
          exact px (or_k [(56, .tuple #[.agg #[.slice A2809 r2808.1.1.length cA2809, .int .i64 r2808.1.2.1, .int .i64 r2808.1.2.2], .int .i64 r2808.2])] rfl rfl ⟨f_56, trivial⟩ (by kernel_rfl))
        refine sc (fun own a wx hf hsl hE => ?_) ?_
        · obtain ⟨(q_60 : ∀ (A2809 : Option Addr) (cA2809 : Nat), a.eval (.tmp 59) = .tuple #[.agg #[.slice A2809 r2808.1.1.length cA2809, .int .i64 r2808.1.2.1, .int .i64 r2808.1.2.2], .int .i64 r2808.2] → a.eval (.tmp 60) = .agg #[.slice A2809 r2808.1.1.length cA2809, .int .i64 r2808.1.2.1, .int .i64 r2808.1.2.2]), ⟨⟨A2809, cA2809⟩, (f_59 : a.eval (.tmp 59) = .tuple #[.agg #[.slice A2809 r2808.1.1.length cA2809, .int .i64 r2808.1.2.1, .int .i64 r2808.1.2.2], .int .i64 r2808.2]), b_A2809⟩, b_g2213, -⟩ := hf
          have f_60 := q_60 _ _ f_59
          obtain ⟨s_5, -⟩ := hsl
          exact px (or_store (l := #[.slice A2809 r2808.1.1.length cA2809, .int .i64 r2808.1.2.1, .int .i64 r2808.1.2.2]) (lab := 2801) (lab2 := 2812) ts72 (s_5.trans e2803_5) f_60 b_g2213 (by simp) (by kernel_rfl) (mem_of rfl) (by decide) (by kernel_rfl) (fun own' a' w' ha hb => fun _ _ h0' => by cases (f_59.symm.trans ((ha 59).symm.trans h0')); exact hb))
        refine sc (fun _ _ _ f _ _ => px (or_assign f.1)) ?_
        exact steps_nil
      intro own2813 a2813 w2813 hd2813 hz2813 hk2813 hf2813 hE2813
      have e2813_2 := (hk2813 2 rfl).trans e2803_2
      have e2813_5 := (hk2813 5 rfl).trans e2803_5
      have e2813_6 := (hk2813 6 rfl).trans e2803_6
      have e2813_7 := (hk2813 7 rfl).trans e2803_7
      have e2813_8 := (hk2813 8 rfl).trans e2803_8
      have e2813_9 := (hk2813 9 rfl).trans e2803_9
      have e2813_10 := (hk2813 10 rfl).trans e2803_10
      have e2813_11 := (hk2813 11 rfl).trans e2803_11
      have e2813_12 := (hk2813 12 rfl).trans e2803_12
      have e2813_13 := (hk2813 13 rfl).trans e2803_13
      obtain ⟨(e2813_14 : a2813.eval (.tmp 14) = .int .i64 r2808.2), ⟨⟨A2809, cA2809⟩, (f_59 : a2813.eval (.tmp 59) = .tuple #[.agg #[.slice A2809 r2808.1.1.length cA2809, .int .i64 r2808.1.2.1, .int .i64 r2808.1.2.2], .int .i64 r2808.2]), (b2813_A2809 : RdO own2813 [2810, 2811, 2799, 2800, 2783, 2784, 0, 2493] w2813 R5 A2809 cA2809 r2808.1.1)⟩, (bq_g2213 : ∀ (A2809 : Option Addr) (cA2809 : Nat), a2813.eval (.tmp 59) = .tuple #[.agg #[.slice A2809 r2808.1.1.length cA2809, .int .i64 r2808.1.2.1, .int .i64 r2808.1.2.2], .int .i64 r2808.2] → BlkO own2813 2812 w2813 g2213 72 #[.slice A2809 r2808.1.1.length cA2809, .int .i64 r2808.1.2.1, .int .i64 r2808.1.2.2]), -⟩ := hf2813 [7, 2, 6] rfl
      have b2813_g2213 := bq_g2213 _ _ f_59
      have hX2813 := es_ hX2803 hE2813
      have b2813_g2210 := be_ hE2813 b2803_g2210
      have b2813_g2217 := be_ hE2813 b2803_g2217
      have b2813_A2497 := re_ hE2813 b2803_A2497
      have b2813_g2220 := be_ hE2813 b2803_g2220
      have b2813_g2767 := be_ hE2813 b2803_g2767
      refine rg0_seq 184 own2813 [0, 0, 3, 7] [⟨[], [8], [], Fct.val 62 (.int .i64 points2504)⟩, ⟨[], [14], [], Fct.val 63 (.int .i64 r2808.2)⟩, ⟨[0, 1], [], [], Fct.val 64 (.int .i64 (sb points2504 r2808.2))⟩, ⟨[2], [], [], Fct.val 8 (.int .i64 (sb points2504 r2808.2))⟩] hz2813 hd2813 (by kernel_rfl) ?_ ?_
      · refine sc (fun _ _ _ _ s _ => px (or_move (s.1.trans e2813_8))) ?_
        refine sc (fun _ _ _ _ s _ => px (or_move (s.1.trans e2813_14))) ?_
        refine sc (fun _ _ _ f _ _ => px (or_sub f.1 f.2.1 rfl)) ?_
        refine sc (fun _ _ _ f _ _ => px (or_assign f.1)) ?_
        exact steps_nil
      intro own2814 a2814 w2814 hd2814 hz2814 hk2814 hf2814 hE2814
      have e2814_2 := (hk2814 2 rfl).trans e2813_2
      have e2814_5 := (hk2814 5 rfl).trans e2813_5
      have e2814_6 := (hk2814 6 rfl).trans e2813_6
      have e2814_7 := (hk2814 7 rfl).trans e2813_7
      have e2814_9 := (hk2814 9 rfl).trans e2813_9
      have e2814_10 := (hk2814 10 rfl).trans e2813_10
      have e2814_11 := (hk2814 11 rfl).trans e2813_11
      have e2814_12 := (hk2814 12 rfl).trans e2813_12
      have e2814_13 := (hk2814 13 rfl).trans e2813_13
      have e2814_14 := (hk2814 14 rfl).trans e2813_14
      obtain ⟨(e2814_8 : a2814.eval (.tmp 8) = .int .i64 (sb points2504 r2808.2)), -⟩ := hf2814 [3] rfl
      have hX2814 := es_ hX2813 hE2814
      have b2814_g2210 := be_ hE2814 b2813_g2210
      have b2814_g2217 := be_ hE2814 b2813_g2217
      have b2814_A2497 := re_ hE2814 b2813_A2497
      have b2814_g2220 := be_ hE2814 b2813_g2220
      have b2814_g2767 := be_ hE2814 b2813_g2767
      have b2814_g2213 := be_ hE2814 b2813_g2213
      have b2814_A2809 := RdO.evo rfl hE2814 b2813_A2809
      refine fl_seq (fun Q2815 hn2815 hp2815 => ?_)
      refine rg0_seq 184 own2814 (bz 1) [⟨[], [], [], Fct.val 15 (.int .i64 0)⟩] hz2814 hd2814 (by kernel_rfl) ?_ ?_
      · refine sc (fun _ _ _ _ _ _ => px (or_assign rfl)) ?_
        exact steps_nil
      intro own2816 a2816 w2816 hd2816 hz2816 hk2816 hf2816 hE2816
      have e2816_2 := (hk2816 2 rfl).trans e2814_2
      have e2816_5 := (hk2816 5 rfl).trans e2814_5
      have e2816_6 := (hk2816 6 rfl).trans e2814_6
      have e2816_7 := (hk2816 7 rfl).trans e2814_7
      have e2816_8 := (hk2816 8 rfl).trans e2814_8
      have e2816_9 := (hk2816 9 rfl).trans e2814_9
      have e2816_10 := (hk2816 10 rfl).trans e2814_10
      have e2816_11 := (hk2816 11 rfl).trans e2814_11
      have e2816_12 := (hk2816 12 rfl).trans e2814_12
      have e2816_13 := (hk2816 13 rfl).trans e2814_13
      have e2816_14 := (hk2816 14 rfl).trans e2814_14
      obtain ⟨(e2816_15 : a2816.eval (.tmp 15) = .int .i64 0), -⟩ := hf2816 [0] rfl
      have hX2816 := es_ hX2814 hE2816
      have b2816_g2210 := be_ hE2816 b2814_g2210
      have b2816_g2217 := be_ hE2816 b2814_g2217
      have b2816_A2497 := re_ hE2816 b2814_A2497
      have b2816_g2220 := be_ hE2816 b2814_g2220
      have b2816_g2767 := be_ hE2816 b2814_g2767
      have b2816_g2213 := be_ hE2816 b2814_g2213
      have b2816_A2809 := RdO.evo rfl hE2816 b2814_A2809
      refine fl_block (fun Q2817 hn2817 hx2817 hp2817 => ?_)
      refine fl_loop (body := (fun s => ref26_Read_b2 n2499 points2504 i2505 r2781 r2797 r2808 s.1 s.2.1 s.2.2.1 s.2.2.2.1 s.2.2.2.2.1 s.2.2.2.2.2)) (z := zz2759) (show loopO _ _ = _ from hs) (fun (s : (List Int) × Int × Int × (Int × Int) × (List (Int × Int)) × Int) a wx => match s with | (c2876, c2878, c2879, x2882, x2886, j2888) => ∃ (ox : Own) (A2874 : Option Addr) (c2875 : Nat) (A2884 : Option Addr) (c2885 : Nat), a.defers = [] ∧ a.tmps.size = 184 ∧ a.eval (.tmp 2) = .pointer (some ⟨g2210, 0, none⟩) ∧ a.eval (.tmp 5) = .pointer (some ⟨g2213, 0, none⟩) ∧ a.eval (.tmp 6) = .pointer (some ⟨g2217, 0, none⟩) ∧ a.eval (.tmp 7) = .pointer (some ⟨g2220, 0, none⟩) ∧ a.eval (.tmp 8) = .int .i64 (sb points2504 r2808.2) ∧ a.eval (.tmp 9) = .int .i64 64 ∧ a.eval (.tmp 10) = .int .i64 65536 ∧ a.eval (.tmp 11) = .int .i64 r2229.2 ∧ a.eval (.tmp 12) = .int .i64 i2505 ∧ a.eval (.tmp 13) = .pointer (some ⟨g2767, 0, none⟩) ∧ a.eval (.tmp 14) = .int .i64 r2808.2 ∧ a.eval (.tmp 15) = .int .i64 j2888 ∧ Evo [] (fun _ => 0) ox w wx ∧ BlkO ox 2211 wx g2210 38 #[.slice none 0 0, .slice none 0 0] ∧ BlkO ox 2873 wx g2213 72 #[.slice A2874 c2876.length c2875, .int .i64 c2878, .int .i64 c2879] ∧ RdO ox [0, 2877] wx R5 A2874 c2875 c2876 ∧ BlkO ox 2496 wx g2217 38 #[.slice A2497 n2499.length c2498, .slice none 0 0] ∧ RwO ox 2500 [2880] wx 78 R78 A2497 c2498 n2499 ∧ BlkO ox 2881 wx g2220 73 #[.int .i64 x2882.1, .int .i64 x2882.2] ∧ BlkO ox 2883 wx g2767 78 #[.slice A2884 x2886.length c2885, .int .i64 r2781.2, .int .i64 r2797.2] ∧ RwO ox 2887 [] wx 73 R73 A2884 c2885 x2886) ?_ ?_
      · exact ⟨(rl [(2493, 2877), (2501, 2880), (2502, 2881), (2783, 2877), (2784, 2877), (2799, 2877), (2800, 2877), (2802, 2883), (2810, 2877), (2811, 2877), (2812, 2873)] own2816), A2809, cA2809, none, 0, hd2816, hz2816, e2816_2, e2816_5, e2816_6, e2816_7, e2816_8, e2816_9, e2816_10, e2816_11, e2816_12, e2816_13, e2816_14, e2816_15, (Evo.rl_ hX2816 (fun _ => Nat.le_refl 0) rfl), (BlkO.rl_ (mm := [(2493, 2877), (2501, 2880), (2502, 2881), (2783, 2877), (2784, 2877), (2799, 2877), (2800, 2877), (2802, 2883), (2810, 2877), (2811, 2877), (2812, 2873)]) b2816_g2210), (BlkO.rl_ (mm := [(2493, 2877), (2501, 2880), (2502, 2881), (2783, 2877), (2784, 2877), (2799, 2877), (2800, 2877), (2802, 2883), (2810, 2877), (2811, 2877), (2812, 2873)]) b2816_g2213), (RdO.more (RdO.rl_ (mm := [(2493, 2877), (2501, 2880), (2502, 2881), (2783, 2877), (2784, 2877), (2799, 2877), (2800, 2877), (2802, 2883), (2810, 2877), (2811, 2877), (2812, 2873)]) b2816_A2809) (by decide)), (BlkO.rl_ (mm := [(2493, 2877), (2501, 2880), (2502, 2881), (2783, 2877), (2784, 2877), (2799, 2877), (2800, 2877), (2802, 2883), (2810, 2877), (2811, 2877), (2812, 2873)]) b2816_g2217), (RwO.rl_ (mm := [(2493, 2877), (2501, 2880), (2502, 2881), (2783, 2877), (2784, 2877), (2799, 2877), (2800, 2877), (2802, 2883), (2810, 2877), (2811, 2877), (2812, 2873)]) b2816_A2497), (BlkO.rl_ (mm := [(2493, 2877), (2501, 2880), (2502, 2881), (2783, 2877), (2784, 2877), (2799, 2877), (2800, 2877), (2802, 2883), (2810, 2877), (2811, 2877), (2812, 2873)]) b2816_g2220), (BlkO.rl_ (mm := [(2493, 2877), (2501, 2880), (2502, 2881), (2783, 2877), (2784, 2877), (2799, 2877), (2800, 2877), (2802, 2883), (2810, 2877), (2811, 2877), (2812, 2873)]) b2816_g2767), RwO.nil_⟩
      · rintro ⟨c2876, c2878, c2879, x2882, x2886, j2888⟩ zz2943 a2943 w2943 ⟨own2943, A2874, c2875, A2884, c2885, hd2944, hz2944, e2944_2, e2944_5, e2944_6, e2944_7, e2944_8, e2944_9, e2944_10, e2944_11, e2944_12, e2944_13, e2944_14, e2944_15, hE2944, b2944_g2210, b2944_g2213, b2944_A2874, b2944_g2217, b2944_A2497, b2944_g2220, b2944_g2767, b2944_A2884⟩ hs Q2943 hn2943 hp2943 hz2943
        have hs : ref26_Read_b2 n2499 points2504 i2505 r2781 r2797 r2808 c2876 c2878 c2879 x2882 x2886 j2888 = some zz2943 := hs
        refine fl_seq (fun Q2945 hn2945 hp2945 => ?_)
        obtain ⟨x2946, hx2946, hs⟩ := obind hs
        refine rg0_seq 184 own2943 [0, 0, 3, 7, 15, 31, 63, 127] [⟨[], [15], [], Fct.val 65 (.int .i64 j2888)⟩, ⟨[], [14], [], Fct.val 66 (.int .i64 r2808.2)⟩, ⟨[0, 1], [], [], Fct.val 67 (.bool (decide (j2888 < r2808.2)))⟩, ⟨[2], [], [], Fct.val 68 (.bool (decide (j2888 < r2808.2)))⟩, ⟨[3], [5], [], Fct.cond (decide (j2888 < r2808.2)) (some 69) (Fct.val 69 (.pointer (some ⟨g2213, 2, none⟩)))⟩, ⟨[3, 4], [], [], Fct.cond (decide (j2888 < r2808.2)) (some 70) (Fct.val 70 (.int .i64 c2879))⟩, ⟨[3, 5], [], [], Fct.cond (decide (j2888 < r2808.2)) (some 71) (Fct.val 71 (.bool (decide (c2879 = 0))))⟩, ⟨[3, 6], [], [], Fct.val 72 (.bool x2946)⟩] hz2944 hd2944 (by kernel_rfl) ?_ ?_
        · refine sc (fun _ _ _ _ s _ => px (or_move (s.1.trans e2944_15))) ?_
          refine sc (fun _ _ _ _ s _ => px (or_move (s.1.trans e2944_14))) ?_
          refine sc (fun _ _ _ f _ _ => px (or_lss f.1 f.2.1 rfl)) ?_
          refine sc (fun _ _ _ f _ _ => px (or_move f.1)) ?_
          refine sc (fun _ _ _ f s _ => sg_t rfl rfl rfl f.1 (fun hg => or_field fo72_2 (s.1.trans e2944_5) (by rfl))) ?_
          refine sc (fun _ _ _ f _ hE => sg_t rfl rfl rfl f.1 (fun hg => or_load1 to3 (f.2.1.1 hg) (Blk.at_ (be_ hE b2944_g2213).2 2 rfl))) ?_
          refine sc (fun _ _ _ f _ _ => sg_t rfl rfl rfl f.1 (fun hg => or_eql (f.2.1.1 hg) rfl rfl)) ?_
          refine sc (fun _ _ _ f _ _ => px (or_and f.1 (fun hx => f.2.1.1 hx) rfl (osome hx2946).symm)) ?_
          exact steps_nil
        intro own2947 a2947 w2947 hd2947 hz2947 hk2947 hf2947 hE2947
        have e2947_2 := (hk2947 2 rfl).trans e2944_2
        have e2947_5 := (hk2947 5 rfl).trans e2944_5
        have e2947_6 := (hk2947 6 rfl).trans e2944_6
        have e2947_7 := (hk2947 7 rfl).trans e2944_7
        have e2947_8 := (hk2947 8 rfl).trans e2944_8
        have e2947_9 := (hk2947 9 rfl).trans e2944_9
        have e2947_10 := (hk2947 10 rfl).trans e2944_10
        have e2947_11 := (hk2947 11 rfl).trans e2944_11
        have e2947_12 := (hk2947 12 rfl).trans e2944_12
        have e2947_13 := (hk2947 13 rfl).trans e2944_13
        have e2947_14 := (hk2947 14 rfl).trans e2944_14
        have e2947_15 := (hk2947 15 rfl).trans e2944_15
        obtain ⟨(e2947_72 : a2947.eval (.tmp 72) = .bool x2946), -⟩ := hf2947 [7] rfl
        have hX2947 := es_ hE2944 hE2947
        have b2947_g2210 := be_ hE2947 b2944_g2210
        have b2947_g2213 := be_ hE2947 b2944_g2213
        have b2947_A2874 := RdO.evo rfl hE2947 b2944_A2874
        have b2947_g2217 := be_ hE2947 b2944_g2217
        have b2947_A2497 := re_ hE2947 b2944_A2497
        have b2947_g2220 := be_ hE2947 b2944_g2220
        have b2947_g2767 := be_ hE2947 b2944_g2767
        have b2947_A2884 := re_ hE2947 b2944_A2884
        refine fl_cond e2947_72 hs (fun c2948 hs => ?_) (fun c2948 hs => ?_)
        · refine fl_skip ?_
          refine hn2945 _ _ ?_
          refine fl_seq (fun Q2949 hn2949 hp2949 => ?_)
          refine fl_block (fun Q2950 hn2950 hx2950 hp2950 => ?_)
          obtain ⟨r2960, hr2960, hs⟩ := obind hs
          refine rg_plain_seq (n := 184) (rs := [Fct.at_ 2873 g2213 72 #[.slice A2874 c2876.length c2875, .int .i64 c2878, .int .i64 c2879], Fct.at_ 2881 g2220 73 #[.int .i64 x2882.1, .int .i64 x2882.2]]) (own0 := own2947) (K := [2873, 2881]) (bs := [0, 0, 2, 7, 15, 31, 31, 63, 255, 511]) (ds := [⟨[10], [5], [], Fct.val 76 (.agg #[.slice A2874 c2876.length c2875, .int .i64 c2878, .int .i64 c2879])⟩, ⟨[], [7], [], Fct.val 77 (.pointer (some ⟨g2220, 0, none⟩))⟩, ⟨[1, 11], [], [], Fct.val 78 (.int .i64 x2882.1)⟩, ⟨[0, 2], [], [], Fct.mems [2962, 2963, 0, 2877] 79 (fun (x : Option Addr × Nat) => .tuple #[.agg #[.slice x.1 r2960.1.1.length x.2, .int .i64 r2960.1.2.1, .int .i64 r2960.1.2.2], .int .i64 r2960.2]) (fun (x : Option Addr × Nat) own w => RdO own [2962, 2963, 0, 2877] w R5 x.1 x.2 r2960.1.1) (fun hk he h => RdO.evo (hits_sub hk (by decide)) he h)⟩, ⟨[3], [], [], Fct.rel [75, 79] (fun l => ∀ (A2961 : Option Addr) (cA2961 : Nat), l.getD 1 undef = .tuple #[.agg #[.slice A2961 r2960.1.1.length cA2961, .int .i64 r2960.1.2.1, .int .i64 r2960.1.2.2], .int .i64 r2960.2] → l.getD 0 undef = .tuple #[.agg #[.slice A2961 r2960.1.1.length cA2961, .int .i64 r2960.1.2.1, .int .i64 r2960.1.2.2], .int .i64 r2960.2])⟩, ⟨[4, 3], [], [], Fct.rel [80, 79] (fun l => ∀ (A2961 : Option Addr) (cA2961 : Nat), l.getD 1 undef = .tuple #[.agg #[.slice A2961 r2960.1.1.length cA2961, .int .i64 r2960.1.2.1, .int .i64 r2960.1.2.2], .int .i64 r2960.2] → l.getD 0 undef = .agg #[.slice A2961 r2960.1.1.length cA2961, .int .i64 r2960.1.2.1, .int .i64 r2960.1.2.2])⟩, ⟨[4, 3], [], [], Fct.val 81 (.int .i64 r2960.2)⟩, ⟨[5, 3, 10], [5], [2873], Fct.by_ [2964] [79] (fun l own w => ∀ (A2961 : Option Addr) (cA2961 : Nat), l.getD 0 undef = .tuple #[.agg #[.slice A2961 r2960.1.1.length cA2961, .int .i64 r2960.1.2.1, .int .i64 r2960.1.2.2], .int .i64 r2960.2] → BlkO own 2964 w g2213 72 #[.slice A2961 r2960.1.1.length cA2961, .int .i64 r2960.1.2.1, .int .i64 r2960.1.2.2]) (fun hk he h _ _ h0' => BlkO.evo (not_hit hk (by decide)) he (h _ _ h0'))⟩, ⟨[], [7], [], Fct.val 82 (.pointer (some ⟨g2220, 0, none⟩))⟩, ⟨[8, 6, 11], [], [2881], Fct.at_ 2965 g2220 73 #[.int .i64 r2960.2, .int .i64 x2882.2]⟩]) (by kernel_rfl) hz2947 hd2947 (by simp only [List.forall_mem_cons]; exact ⟨b2947_g2213, b2947_g2220, fun _ h => nomatch h⟩) ?_ ?_
          · refine sc (fun own a wx hf hsl hE => ?_) ?_
            · obtain ⟨(b_g2213 : BlkO own 2873 wx g2213 72 #[.slice A2874 c2876.length c2875, .int .i64 c2878, .int .i64 c2879]), -⟩ := hf
              obtain ⟨s_5, -⟩ := hsl
              exact px (or_load (l := [.slice A2874 c2876.length c2875, .int .i64 c2878, .int .i64 c2879]) ta72 (s_5.trans e2947_5) (Blk.cellsFrom b_g2213.2 0 rfl) rfl)
            refine sc (fun _ _ _ _ s _ => px (or_field fo73_0 (s.1.trans e2947_7) (by rfl))) ?_
            refine sc (fun own a wx hf hsl hE => ?_) ?_
            · obtain ⟨f_77, (b_g2220 : BlkO own 2881 wx g2220 73 #[.int .i64 x2882.1, .int .i64 x2882.2]), -⟩ := hf
              exact px (or_load1 to3 f_77 (Blk.at_ b_g2220.2 0 rfl))
            refine sc (fun own _ _ f _ hE => px (or_call cf27 (args4 f.1 f.2.1 rfl rfl) (ref26_Turned_w _ (forth own (inL [0, 2877])) (c2876, c2878, c2879) A2874 c2875 x2882.1 (-16777216) 16777216 inL_le (RdO.alias_ (La := [0, 2877]) (RdO.evo rfl hE b2947_A2874) (by decide)) r2960 hr2960) (post_alias (La := [0, 2877]) (m' := (look0 [(1, 2962), (2, 2963)])) (fun own' w' a' x ho hsz h1 h => ⟨x, h1, RdO.backN_ ho hsz h (by decide) (by decide) (by decide)⟩)))) ?_
            refine sc (fun own a wx hf hsl hE => ?_) ?_
            · obtain ⟨⟨⟨A2961, cA2961⟩, (f_79 : a.eval (.tmp 79) = .tuple #[.agg #[.slice A2961 r2960.1.1.length cA2961, .int .i64 r2960.1.2.1, .int .i64 r2960.1.2.2], .int .i64 r2960.2]), b_A2961⟩, -⟩ := hf
              exact px (or_mono (f := Fct.val 75 (.tuple #[.agg #[.slice A2961 r2960.1.1.length cA2961, .int .i64 r2960.1.2.1, .int .i64 r2960.1.2.2], .int .i64 r2960.2])) (or_move f_79) (fun own' a' w' v' hp h => fun _ _ h0' => by cases (f_79.symm.trans ((hp.2 79 (by decide)).symm.trans h0')); exact h))
            refine sc (fun own a wx hf hsl hE => ?_) ?_
            · obtain ⟨(q_75 : ∀ (A2961 : Option Addr) (cA2961 : Nat), a.eval (.tmp 79) = .tuple #[.agg #[.slice A2961 r2960.1.1.length cA2961, .int .i64 r2960.1.2.1, .int .i64 r2960.1.2.2], .int .i64 r2960.2] → a.eval (.tmp 75) = .tuple #[.agg #[.slice A2961 r2960.1.1.length cA2961, .int .i64 r2960.1.2.1, .int .i64 r2960.1.2.2], .int .i64 r2960.2]), ⟨⟨A2961, cA2961⟩, (f_79 : a.eval (.tmp 79) = .tuple #[.agg #[.slice A2961 r2960.1.1.length cA2961, .int .i64 r2960.1.2.1, .int .i64 r2960.1.2.2], .int .i64 r2960.2]), b_A2961⟩, -⟩ := hf
              have f_75 := q_75 _ _ f_79
              exact px (or_mono (f := Fct.val 80 (.agg #[.slice A2961 r2960.1.1.length cA2961, .int .i64 r2960.1.2.1, .int .i64 r2960.1.2.2])) (or_k [(75, .tuple #[.agg #[.slice A2961 r2960.1.1.length cA2961, .int .i64 r2960.1.2.1, .int .i64 r2960.1.2.2], .int .i64 r2960.2])] rfl rfl ⟨f_75, trivial⟩ (by kernel_rfl)) (fun own' a' w' v' hp h => fun _ _ h0' => by cases (f_79.symm.trans ((hp.2 79 (by decide)).symm.trans h0')); exact h))
            refine sc (fun own a wx hf hsl hE => ?_) ?_
            · obtain ⟨(q_75 : ∀ (A2961 : Option Addr) (cA2961 : Nat), a.eval (.tmp 79) = .tuple #[.agg #[.slice A2961 r2960.1.1.length cA2961, .int .i64 r2960.1.2.1, .int .i64 r2960.1.2.2], .int .i64 r2960.2] → a.eval (.tmp 75) = .tuple #[.agg #[.slice A2961 r2960.1.1.length cA2961, .int .i64 r2960.1.2.1, .int .i64 r2960.1.2.2], .int .i64 r2960.2]), ⟨⟨A2961, cA2961⟩, f_79, b_A2961⟩, -⟩ := hf
              have f_75 := q_75 _ _ f_79
              exact px (or_k [(75, .tuple #[.agg #[.slice A2961 r2960.1.1.length cA2961, .int .i64 r2960.1.2.1, .int .i64 r2960.1.2.2], .int .i64 r2960.2])] rfl rfl ⟨f_75, trivial⟩ (by kernel_rfl))
            refine sc (fun own a wx hf hsl hE => ?_) ?_
            · obtain ⟨(q_80 : ∀ (A2961 : Option Addr) (cA2961 : Nat), a.eval (.tmp 79) = .tuple #[.agg #[.slice A2961 r2960.1.1.length cA2961, .int .i64 r2960.1.2.1, .int .i64 r2960.1.2.2], .int .i64 r2960.2] → a.eval (.tmp 80) = .agg #[.slice A2961 r2960.1.1.length cA2961, .int .i64 r2960.1.2.1, .int .i64 r2960.1.2.2]), ⟨⟨A2961, cA2961⟩, (f_79 : a.eval (.tmp 79) = .tuple #[.agg #[.slice A2961 r2960.1.1.length cA2961, .int .i64 r2960.1.2.1, .int .i64 r2960.1.2.2], .int .i64 r2960.2]), b_A2961⟩, b_g2213, -⟩ := hf
              have f_80 := q_80 _ _ f_79
              obtain ⟨s_5, -⟩ := hsl
              exact px (or_store (l := #[.slice A2961 r2960.1.1.length cA2961, .int .i64 r2960.1.2.1, .int .i64 r2960.1.2.2]) (lab := 2873) (lab2 := 2964) ts72 (s_5.trans e2947_5) f_80 b_g2213 (by simp) (by kernel_rfl) (mem_of rfl) (by decide) (by kernel_rfl) (fun own' a' w' ha hb => fun _ _ h0' => by cases (f_79.symm.trans ((ha 79).symm.trans h0')); exact hb))
            refine sc (fun _ _ _ _ s _ => px (or_field fo73_0 (s.1.trans e2947_7) (by rfl))) ?_
            refine sc (fun own a wx hf hsl hE => ?_) ?_
            · obtain ⟨f_82, f_81, b_g2220, -⟩ := hf
              exact px (or_store1 (lab := 2881) (lab2 := 2965) ts3 f_82 f_81 b_g2220 (by simp) rfl (mem_of rfl) (by decide) rfl (fun own' a' w' ha hb => hb))
            exact steps_nil
          intro own2966 a2966 w2966 hd2966 hz2966 hk2966 hf2966 hE2966
          have e2966_2 := (hk2966 2 rfl).trans e2947_2
          have e2966_5 := (hk2966 5 rfl).trans e2947_5
          have e2966_6 := (hk2966 6 rfl).trans e2947_6
          have e2966_7 := (hk2966 7 rfl).trans e2947_7
          have e2966_8 := (hk2966 8 rfl).trans e2947_8
          have e2966_9 := (hk2966 9 rfl).trans e2947_9
          have e2966_10 := (hk2966 10 rfl).trans e2947_10
          have e2966_11 := (hk2966 11 rfl).trans e2947_11
          have e2966_12 := (hk2966 12 rfl).trans e2947_12
          have e2966_13 := (hk2966 13 rfl).trans e2947_13
          have e2966_14 := (hk2966 14 rfl).trans e2947_14
          have e2966_15 := (hk2966 15 rfl).trans e2947_15
          obtain ⟨⟨⟨A2961, cA2961⟩, (f_79 : a2966.eval (.tmp 79) = .tuple #[.agg #[.slice A2961 r2960.1.1.length cA2961, .int .i64 r2960.1.2.1, .int .i64 r2960.1.2.2], .int .i64 r2960.2]), (b2966_A2961 : RdO own2966 [2962, 2963, 0, 2877] w2966 R5 A2961 cA2961 r2960.1.1)⟩, (bq_g2213 : ∀ (A2961 : Option Addr) (cA2961 : Nat), a2966.eval (.tmp 79) = .tuple #[.agg #[.slice A2961 r2960.1.1.length cA2961, .int .i64 r2960.1.2.1, .int .i64 r2960.1.2.2], .int .i64 r2960.2] → BlkO own2966 2964 w2966 g2213 72 #[.slice A2961 r2960.1.1.length cA2961, .int .i64 r2960.1.2.1, .int .i64 r2960.1.2.2]), (b2966_g2220 : BlkO own2966 2965 w2966 g2220 73 #[.int .i64 r2960.2, .int .i64 x2882.2]), -⟩ := hf2966 [3, 7, 9] rfl
          have b2966_g2213 := bq_g2213 _ _ f_79
          have hX2966 := es_ hX2947 hE2966
          have b2966_g2210 := be_ hE2966 b2947_g2210
          have b2966_g2217 := be_ hE2966 b2947_g2217
          have b2966_A2497 := re_ hE2966 b2947_A2497
          have b2966_g2767 := be_ hE2966 b2947_g2767
          have b2966_A2884 := re_ hE2966 b2947_A2884
          obtain ⟨r2976, hr2976, hs⟩ := obind hs
          refine rg_plain_seq (n := 184) (rs := [Fct.at_ 2964 g2213 72 #[.slice A2961 r2960.1.1.length cA2961, .int .i64 r2960.1.2.1, .int .i64 r2960.1.2.2], Fct.at_ 2965 g2220 73 #[.int .i64 r2960.2, .int .i64 x2882.2]]) (own0 := own2966) (K := [2964, 2965]) (bs := [0, 0, 2, 7, 15, 31, 31, 63, 255, 511]) (ds := [⟨[10], [5], [], Fct.val 84 (.agg #[.slice A2961 r2960.1.1.length cA2961, .int .i64 r2960.1.2.1, .int .i64 r2960.1.2.2])⟩, ⟨[], [7], [], Fct.val 85 (.pointer (some ⟨g2220, 1, none⟩))⟩, ⟨[1, 11], [], [], Fct.val 86 (.int .i64 x2882.2)⟩, ⟨[0, 2], [], [], Fct.mems [2978, 2979, 2962, 2963, 0, 2877] 87 (fun (x : Option Addr × Nat) => .tuple #[.agg #[.slice x.1 r2976.1.1.length x.2, .int .i64 r2976.1.2.1, .int .i64 r2976.1.2.2], .int .i64 r2976.2]) (fun (x : Option Addr × Nat) own w => RdO own [2978, 2979, 2962, 2963, 0, 2877] w R5 x.1 x.2 r2976.1.1) (fun hk he h => RdO.evo (hits_sub hk (by decide)) he h)⟩, ⟨[3], [], [], Fct.rel [83, 87] (fun l => ∀ (A2977 : Option Addr) (cA2977 : Nat), l.getD 1 undef = .tuple #[.agg #[.slice A2977 r2976.1.1.length cA2977, .int .i64 r2976.1.2.1, .int .i64 r2976.1.2.2], .int .i64 r2976.2] → l.getD 0 undef = .tuple #[.agg #[.slice A2977 r2976.1.1.length cA2977, .int .i64 r2976.1.2.1, .int .i64 r2976.1.2.2], .int .i64 r2976.2])⟩, ⟨[4, 3], [], [], Fct.rel [88, 87] (fun l => ∀ (A2977 : Option Addr) (cA2977 : Nat), l.getD 1 undef = .tuple #[.agg #[.slice A2977 r2976.1.1.length cA2977, .int .i64 r2976.1.2.1, .int .i64 r2976.1.2.2], .int .i64 r2976.2] → l.getD 0 undef = .agg #[.slice A2977 r2976.1.1.length cA2977, .int .i64 r2976.1.2.1, .int .i64 r2976.1.2.2])⟩, ⟨[4, 3], [], [], Fct.val 89 (.int .i64 r2976.2)⟩, ⟨[5, 3, 10], [5], [2964], Fct.by_ [2980] [87] (fun l own w => ∀ (A2977 : Option Addr) (cA2977 : Nat), l.getD 0 undef = .tuple #[.agg #[.slice A2977 r2976.1.1.length cA2977, .int .i64 r2976.1.2.1, .int .i64 r2976.1.2.2], .int .i64 r2976.2] → BlkO own 2980 w g2213 72 #[.slice A2977 r2976.1.1.length cA2977, .int .i64 r2976.1.2.1, .int .i64 r2976.1.2.2]) (fun hk he h _ _ h0' => BlkO.evo (not_hit hk (by decide)) he (h _ _ h0'))⟩, ⟨[], [7], [], Fct.val 90 (.pointer (some ⟨g2220, 1, none⟩))⟩, ⟨[8, 6, 11], [], [2965], Fct.at_ 2981 g2220 73 #[.int .i64 r2960.2, .int .i64 r2976.2]⟩]) (by kernel_rfl) hz2966 hd2966 (by simp only [List.forall_mem_cons]; exact ⟨b2966_g2213, b2966_g2220, fun _ h => nomatch h⟩) ?_ ?_
          · refine sc (fun own a wx hf hsl hE => ?_) ?_
            · obtain ⟨(b_g2213 : BlkO own 2964 wx g2213 72 #[.slice A2961 r2960.1.1.length cA2961, .int .i64 r2960.1.2.1, .int .i64 r2960.1.2.2]), -⟩ := hf
              obtain ⟨s_5, -⟩ := hsl
              exact px (or_load (l := [.slice A2961 r2960.1.1.length cA2961, .int .i64 r2960.1.2.1, .int .i64 r2960.1.2.2]) ta72 (s_5.trans e2966_5) (Blk.cellsFrom b_g2213.2 0 rfl) rfl)
            refine sc (fun _ _ _ _ s _ => px (or_field fo73_1 (s.1.trans e2966_7) (by rfl))) ?_
            refine sc (fun own a wx hf hsl hE => ?_) ?_
            · obtain ⟨f_85, (b_g2220 : BlkO own 2965 wx g2220 73 #[.int .i64 r2960.2, .int .i64 x2882.2]), -⟩ := hf
              exact px (or_load1 to3 f_85 (Blk.at_ b_g2220.2 1 rfl))
            refine sc (fun own _ _ f _ hE => px (or_call cf27 (args4 f.1 f.2.1 rfl rfl) (ref26_Turned_w _ (forth own (inL [2962, 2963, 0, 2877])) r2960.1 A2961 cA2961 x2882.2 (-16777216) 16777216 inL_le (RdO.alias_ (La := [2962, 2963, 0, 2877]) (RdO.evo rfl hE b2966_A2961) (by decide)) r2976 hr2976) (post_alias (La := [2962, 2963, 0, 2877]) (m' := (look0 [(1, 2978), (2, 2979)])) (fun own' w' a' x ho hsz h1 h => ⟨x, h1, RdO.backN_ ho hsz h (by decide) (by decide) (by decide)⟩)))) ?_
            refine sc (fun own a wx hf hsl hE => ?_) ?_
            · obtain ⟨⟨⟨A2977, cA2977⟩, (f_87 : a.eval (.tmp 87) = .tuple #[.agg #[.slice A2977 r2976.1.1.length cA2977, .int .i64 r2976.1.2.1, .int .i64 r2976.1.2.2], .int .i64 r2976.2]), b_A2977⟩, -⟩ := hf
              exact px (or_mono (f := Fct.val 83 (.tuple #[.agg #[.slice A2977 r2976.1.1.length cA2977, .int .i64 r2976.1.2.1, .int .i64 r2976.1.2.2], .int .i64 r2976.2])) (or_move f_87) (fun own' a' w' v' hp h => fun _ _ h0' => by cases (f_87.symm.trans ((hp.2 87 (by decide)).symm.trans h0')); exact h))
            refine sc (fun own a wx hf hsl hE => ?_) ?_
            · obtain ⟨(q_83 : ∀ (A2977 : Option Addr) (cA2977 : Nat), a.eval (.tmp 87) = .tuple #[.agg #[.slice A2977 r2976.1.1.length cA2977, .int .i64 r2976.1.2.1, .int .i64 r2976.1.2.2], .int .i64 r2976.2] → a.eval (.tmp 83) = .tuple #[.agg #[.slice A2977 r2976.1.1.length cA2977, .int .i64 r2976.1.2.1, .int .i64 r2976.1.2.2], .int .i64 r2976.2]), ⟨⟨A2977, cA2977⟩, (f_87 : a.eval (.tmp 87) = .tuple #[.agg #[.slice A2977 r2976.1.1.length cA2977, .int .i64 r2976.1.2.1, .int .i64 r2976.1.2.2], .int .i64 r2976.2]), b_A2977⟩, -⟩ := hf
              have f_83 := q_83 _ _ f_87
              exact px (or_mono (f := Fct.val 88 (.agg #[.slice A2977 r2976.1.1.length cA2977, .int .i64 r2976.1.2.1, .int .i64 r2976.1.2.2])) (or_k [(83, .tuple #[.agg #[.slice A2977 r2976.1.1.length cA2977, .int .i64 r2976.1.2.1, .int .i64 r2976.1.2.2], .int .i64 r2976.2])] rfl rfl ⟨f_83, trivial⟩ (by kernel_rfl)) (fun own' a' w' v' hp h => fun _ _ h0' => by cases (f_87.symm.trans ((hp.2 87 (by decide)).symm.trans h0')); exact h))
            refine sc (fun own a wx hf hsl hE => ?_) ?_
            · obtain ⟨(q_83 : ∀ (A2977 : Option Addr) (cA2977 : Nat), a.eval (.tmp 87) = .tuple #[.agg #[.slice A2977 r2976.1.1.length cA2977, .int .i64 r2976.1.2.1, .int .i64 r2976.1.2.2], .int .i64 r2976.2] → a.eval (.tmp 83) = .tuple #[.agg #[.slice A2977 r2976.1.1.length cA2977, .int .i64 r2976.1.2.1, .int .i64 r2976.1.2.2], .int .i64 r2976.2]), ⟨⟨A2977, cA2977⟩, f_87, b_A2977⟩, -⟩ := hf
              have f_83 := q_83 _ _ f_87
              exact px (or_k [(83, .tuple #[.agg #[.slice A2977 r2976.1.1.length cA2977, .int .i64 r2976.1.2.1, .int .i64 r2976.1.2.2], .int .i64 r2976.2])] rfl rfl ⟨f_83, trivial⟩ (by kernel_rfl))
            refine sc (fun own a wx hf hsl hE => ?_) ?_
            · obtain ⟨(q_88 : ∀ (A2977 : Option Addr) (cA2977 : Nat), a.eval (.tmp 87) = .tuple #[.agg #[.slice A2977 r2976.1.1.length cA2977, .int .i64 r2976.1.2.1, .int .i64 r2976.1.2.2], .int .i64 r2976.2] → a.eval (.tmp 88) = .agg #[.slice A2977 r2976.1.1.length cA2977, .int .i64 r2976.1.2.1, .int .i64 r2976.1.2.2]), ⟨⟨A2977, cA2977⟩, (f_87 : a.eval (.tmp 87) = .tuple #[.agg #[.slice A2977 r2976.1.1.length cA2977, .int .i64 r2976.1.2.1, .int .i64 r2976.1.2.2], .int .i64 r2976.2]), b_A2977⟩, b_g2213, -⟩ := hf
              have f_88 := q_88 _ _ f_87
              obtain ⟨s_5, -⟩ := hsl
              exact px (or_store (l := #[.slice A2977 r2976.1.1.length cA2977, .int .i64 r2976.1.2.1, .int .i64 r2976.1.2.2]) (lab := 2964) (lab2 := 2980) ts72 (s_5.trans e2966_5) f_88 b_g2213 (by simp) (by kernel_rfl) (mem_of rfl) (by decide) (by kernel_rfl) (fun own' a' w' ha hb => fun _ _ h0' => by cases (f_87.symm.trans ((ha 87).symm.trans h0')); exact hb))
            refine sc (fun _ _ _ _ s _ => px (or_field fo73_1 (s.1.trans e2966_7) (by rfl))) ?_
            refine sc (fun own a wx hf hsl hE => ?_) ?_
            · obtain ⟨f_90, f_89, b_g2220, -⟩ := hf
              exact px (or_store1 (lab := 2965) (lab2 := 2981) ts3 f_90 f_89 b_g2220 (by simp) rfl (mem_of rfl) (by decide) rfl (fun own' a' w' ha hb => hb))
            exact steps_nil
          intro own2982 a2982 w2982 hd2982 hz2982 hk2982 hf2982 hE2982
          have e2982_2 := (hk2982 2 rfl).trans e2966_2
          have e2982_5 := (hk2982 5 rfl).trans e2966_5
          have e2982_6 := (hk2982 6 rfl).trans e2966_6
          have e2982_7 := (hk2982 7 rfl).trans e2966_7
          have e2982_8 := (hk2982 8 rfl).trans e2966_8
          have e2982_9 := (hk2982 9 rfl).trans e2966_9
          have e2982_10 := (hk2982 10 rfl).trans e2966_10
          have e2982_11 := (hk2982 11 rfl).trans e2966_11
          have e2982_12 := (hk2982 12 rfl).trans e2966_12
          have e2982_13 := (hk2982 13 rfl).trans e2966_13
          have e2982_14 := (hk2982 14 rfl).trans e2966_14
          have e2982_15 := (hk2982 15 rfl).trans e2966_15
          obtain ⟨⟨⟨A2977, cA2977⟩, (f_87 : a2982.eval (.tmp 87) = .tuple #[.agg #[.slice A2977 r2976.1.1.length cA2977, .int .i64 r2976.1.2.1, .int .i64 r2976.1.2.2], .int .i64 r2976.2]), (b2982_A2977 : RdO own2982 [2978, 2979, 2962, 2963, 0, 2877] w2982 R5 A2977 cA2977 r2976.1.1)⟩, (bq_g2213 : ∀ (A2977 : Option Addr) (cA2977 : Nat), a2982.eval (.tmp 87) = .tuple #[.agg #[.slice A2977 r2976.1.1.length cA2977, .int .i64 r2976.1.2.1, .int .i64 r2976.1.2.2], .int .i64 r2976.2] → BlkO own2982 2980 w2982 g2213 72 #[.slice A2977 r2976.1.1.length cA2977, .int .i64 r2976.1.2.1, .int .i64 r2976.1.2.2]), (b2982_g2220 : BlkO own2982 2981 w2982 g2220 73 #[.int .i64 r2960.2, .int .i64 r2976.2]), -⟩ := hf2982 [3, 7, 9] rfl
          have b2982_g2213 := bq_g2213 _ _ f_87
          have hX2982 := es_ hX2966 hE2982
          have b2982_g2210 := be_ hE2982 b2966_g2210
          have b2982_g2217 := be_ hE2982 b2966_g2217
          have b2982_A2497 := re_ hE2982 b2966_A2497
          have b2982_g2767 := be_ hE2982 b2966_g2767
          have b2982_A2884 := re_ hE2982 b2966_A2884
          obtain ⟨x2992, hx2992, hs⟩ := obind hs
          refine rg_plain (n := 184) (rs := [Fct.rowAt 2887 [] 73 R73 A2884 c2885 x2886, Fct.at_ 2883 g2767 78 #[.slice A2884 x2886.length c2885, .int .i64 r2781.2, .int .i64 r2797.2]]) (own0 := own2982) (K := [2887, 2883]) (bs := [0, 1, 0, 4, 15, 31, 63]) (ds := [⟨[], [13], [], Fct.val 91 (.pointer (some ⟨g2767, 0, none⟩))⟩, ⟨[0, 8], [], [], Fct.val 92 (.slice A2884 x2886.length c2885)⟩, ⟨[], [7], [], Fct.val 93 (.agg #[.int .i64 r2960.2, .int .i64 r2976.2])⟩, ⟨[2], [], [], Fct.row 2991 [] 94 73 R73 [(r2960.2, r2976.2)]⟩, ⟨[1, 3, 7], [], [2887], Fct.row 2993 [] 95 73 R73 x2992⟩, ⟨[], [13], [], Fct.val 96 (.pointer (some ⟨g2767, 0, none⟩))⟩, ⟨[5, 4, 8], [], [2883], Fct.by_ [2995] [95] (fun l own w => ∀ (A2994 : Option Addr) (cA2994 : Nat), l.getD 0 undef = .slice A2994 x2992.length cA2994 → BlkO own 2995 w g2767 78 #[.slice A2994 x2992.length cA2994, .int .i64 r2781.2, .int .i64 r2797.2]) (fun hk he h _ _ h0' => BlkO.evo (not_hit hk (by decide)) he (h _ _ h0'))⟩]) (by kernel_rfl) hz2982 hd2982 (by simp only [List.forall_mem_cons]; exact ⟨b2982_A2884, b2982_g2767, fun _ h => nomatch h⟩) ?_ ?_
          · refine sc (fun _ _ _ _ s _ => px (or_field fo78_0 (s.1.trans e2982_13) (by rfl))) ?_
            refine sc (fun own a wx hf hsl hE => ?_) ?_
            · obtain ⟨f_91, (b_g2767 : BlkO own 2883 wx g2767 78 #[.slice A2884 x2886.length c2885, .int .i64 r2781.2, .int .i64 r2797.2]), -⟩ := hf
              exact px (or_load1 to76 f_91 (Blk.at_ b_g2767.2 0 rfl))
            refine sc (fun _ _ _ _ s hE => px (or_load (l := [.int .i64 r2960.2, .int .i64 r2976.2]) ta73 (s.1.trans e2982_7) (Blk.cellsFrom (be_ hE b2982_g2220).2 0 rfl) rfl)) ?_
            refine sc (fun _ _ _ f _ _ => px (or_lit (lab := 2991) (e := 73) (cs := #[.int .i64 r2960.2, .int .i64 r2976.2]) (F := E73) (or_new [(93, .agg #[.int .i64 r2960.2, .int .i64 r2976.2])] rfl rfl ⟨f.1, trivial⟩ (by kernel_rfl)) rfl rfl (show 1 ≤ maxLen by decide))) ?_
            refine sc (fun own a wx hf hsl hE => ?_) ?_
            · obtain ⟨f_92, ⟨⟨A2990, cA2990⟩, f_94, b_A2990⟩, b_A2884, -⟩ := hf
              exact px (or_append (R := R73) (lab := 2887) (lab2 := 2993) (L := []) (L3 := []) tp76 f_92 b_A2884 (by decide) f_94 (RwO.rd b_A2990) hx2992 (by decide) (by decide) (mem_of rfl) (.inl (Rep.fl_flat _)))
            refine sc (fun _ _ _ _ s _ => px (or_field fo78_0 (s.1.trans e2982_13) (by rfl))) ?_
            refine sc (fun own a wx hf hsl hE => ?_) ?_
            · obtain ⟨f_96, ⟨⟨A2994, cA2994⟩, (f_95 : a.eval (.tmp 95) = .slice A2994 x2992.length cA2994), b_A2994⟩, b_g2767, -⟩ := hf
              exact px (or_store1 (lab := 2883) (lab2 := 2995) ts76 f_96 f_95 b_g2767 (by simp) rfl (mem_of rfl) (by decide) rfl (fun own' a' w' ha hb => fun _ _ h0' => by cases (f_95.symm.trans ((ha 95).symm.trans h0')); exact hb))
            exact steps_nil
          intro own2996 a2996 w2996 hd2996 hz2996 hk2996 hf2996 hE2996
          have e2996_2 := (hk2996 2 rfl).trans e2982_2
          have e2996_5 := (hk2996 5 rfl).trans e2982_5
          have e2996_6 := (hk2996 6 rfl).trans e2982_6
          have e2996_7 := (hk2996 7 rfl).trans e2982_7
          have e2996_8 := (hk2996 8 rfl).trans e2982_8
          have e2996_9 := (hk2996 9 rfl).trans e2982_9
          have e2996_10 := (hk2996 10 rfl).trans e2982_10
          have e2996_11 := (hk2996 11 rfl).trans e2982_11
          have e2996_12 := (hk2996 12 rfl).trans e2982_12
          have e2996_13 := (hk2996 13 rfl).trans e2982_13
          have e2996_14 := (hk2996 14 rfl).trans e2982_14
          have e2996_15 := (hk2996 15 rfl).trans e2982_15
          obtain ⟨⟨⟨A2994, cA2994⟩, (f_95 : a2996.eval (.tmp 95) = .slice A2994 x2992.length cA2994), (b2996_A2994 : RwO own2996 2993 [] w2996 73 R73 A2994 cA2994 x2992)⟩, (bq_g2767 : ∀ (A2994 : Option Addr) (cA2994 : Nat), a2996.eval (.tmp 95) = .slice A2994 x2992.length cA2994 → BlkO own2996 2995 w2996 g2767 78 #[.slice A2994 x2992.length cA2994, .int .i64 r2781.2, .int .i64 r2797.2]), -⟩ := hf2996 [4, 6] rfl
          have b2996_g2767 := bq_g2767 _ _ f_95
          have hX2996 := es_ hX2982 hE2996
          have b2996_g2210 := be_ hE2996 b2982_g2210
          have b2996_g2217 := be_ hE2996 b2982_g2217
          have b2996_A2497 := re_ hE2996 b2982_A2497
          have b2996_g2213 := be_ hE2996 b2982_g2213
          have b2996_g2220 := be_ hE2996 b2982_g2220
          have b2996_A2977 := RdO.evo rfl hE2996 b2982_A2977
          refine hn2950 _ _ ?_
          refine hn2949 _ _ ?_
          refine rg0 184 own2996 (bz 3) [⟨[], [15], [], Fct.val 73 (.int .i64 j2888)⟩, ⟨[0], [], [], Fct.val 74 (.int .i64 (ad j2888 1))⟩, ⟨[1], [], [], Fct.val 15 (.int .i64 (ad j2888 1))⟩] hz2996 hd2996 (by kernel_rfl) ?_ ?_
          · refine sc (fun _ _ _ _ s _ => px (or_move (s.1.trans e2996_15))) ?_
            refine sc (fun _ _ _ f _ _ => px (or_add f.1 rfl rfl)) ?_
            refine sc (fun _ _ _ f _ _ => px (or_assign f.1)) ?_
            exact steps_nil
          intro own2997 a2997 w2997 hd2997 hz2997 hk2997 hf2997 hE2997
          have e2997_2 := (hk2997 2 rfl).trans e2996_2
          have e2997_5 := (hk2997 5 rfl).trans e2996_5
          have e2997_6 := (hk2997 6 rfl).trans e2996_6
          have e2997_7 := (hk2997 7 rfl).trans e2996_7
          have e2997_8 := (hk2997 8 rfl).trans e2996_8
          have e2997_9 := (hk2997 9 rfl).trans e2996_9
          have e2997_10 := (hk2997 10 rfl).trans e2996_10
          have e2997_11 := (hk2997 11 rfl).trans e2996_11
          have e2997_12 := (hk2997 12 rfl).trans e2996_12
          have e2997_13 := (hk2997 13 rfl).trans e2996_13
          have e2997_14 := (hk2997 14 rfl).trans e2996_14
          obtain ⟨(e2997_15 : a2997.eval (.tmp 15) = .int .i64 (ad j2888 1)), -⟩ := hf2997 [2] rfl
          have hX2997 := es_ hX2996 hE2997
          have b2997_g2210 := be_ hE2997 b2996_g2210
          have b2997_g2217 := be_ hE2997 b2996_g2217
          have b2997_A2497 := re_ hE2997 b2996_A2497
          have b2997_g2213 := be_ hE2997 b2996_g2213
          have b2997_g2220 := be_ hE2997 b2996_g2220
          have b2997_A2977 := RdO.evo rfl hE2997 b2996_A2977
          have b2997_g2767 := be_ hE2997 b2996_g2767
          have b2997_A2994 := re_ hE2997 b2996_A2994
          exact hn2943 _ _ _ hs ⟨(rl [(2962, 2877), (2963, 2877), (2978, 2877), (2979, 2877), (2980, 2873), (2981, 2881), (2993, 2887), (2995, 2883)] own2997), A2977, cA2977, A2994, cA2994, hd2997, hz2997, e2997_2, e2997_5, e2997_6, e2997_7, e2997_8, e2997_9, e2997_10, e2997_11, e2997_12, e2997_13, e2997_14, e2997_15, (Evo.rl_ hX2997 (fun _ => Nat.le_refl 0) rfl), (BlkO.rl_ (mm := [(2962, 2877), (2963, 2877), (2978, 2877), (2979, 2877), (2980, 2873), (2981, 2881), (2993, 2887), (2995, 2883)]) b2997_g2210), (BlkO.rl_ (mm := [(2962, 2877), (2963, 2877), (2978, 2877), (2979, 2877), (2980, 2873), (2981, 2881), (2993, 2887), (2995, 2883)]) b2997_g2213), (RdO.more (RdO.rl_ (mm := [(2962, 2877), (2963, 2877), (2978, 2877), (2979, 2877), (2980, 2873), (2981, 2881), (2993, 2887), (2995, 2883)]) b2997_A2977) (by decide)), (BlkO.rl_ (mm := [(2962, 2877), (2963, 2877), (2978, 2877), (2979, 2877), (2980, 2873), (2981, 2881), (2993, 2887), (2995, 2883)]) b2997_g2217), (RwO.rl_ (mm := [(2962, 2877), (2963, 2877), (2978, 2877), (2979, 2877), (2980, 2873), (2981, 2881), (2993, 2887), (2995, 2883)]) b2997_A2497), (BlkO.rl_ (mm := [(2962, 2877), (2963, 2877), (2978, 2877), (2979, 2877), (2980, 2873), (2981, 2881), (2993, 2887), (2995, 2883)]) b2997_g2220), (BlkO.rl_ (mm := [(2962, 2877), (2963, 2877), (2978, 2877), (2979, 2877), (2980, 2873), (2981, 2881), (2993, 2887), (2995, 2883)]) b2997_g2767), (RwO.rl_ (mm := [(2962, 2877), (2963, 2877), (2978, 2877), (2979, 2877), (2980, 2873), (2981, 2881), (2993, 2887), (2995, 2883)]) b2997_A2994)⟩
        refine fl_exit ?_
        refine hp2945 _ _ _ rfl ?_
        replace hs := hz2943 _ hs
        refine hp2943 _ _ _ rfl ?_
        refine hx2817 _ _ ?_
        refine hn2815 _ _ ?_
        obtain ⟨x3007, hx3007, hs⟩ := obind hs
        refine rg_plain (n := 184) (rs := [Fct.rowAt 2500 [2880] 78 R78 A2497 c2498 n2499, Fct.at_ 2496 g2217 38 #[.slice A2497 n2499.length c2498, .slice none 0 0]]) (own0 := own2947) (K := [2500, 2496]) (bs := [0, 1, 0, 4, 15, 31, 63]) (ds := [⟨[], [6], [], Fct.val 97 (.pointer (some ⟨g2217, 0, none⟩))⟩, ⟨[0, 8], [], [], Fct.val 98 (.slice A2497 n2499.length c2498)⟩, ⟨[], [13], [], Fct.val 99 (.agg #[.slice A2884 x2886.length c2885, .int .i64 r2781.2, .int .i64 r2797.2])⟩, ⟨[2], [], [], Fct.row 3006 [2887] 100 78 R78 [(x2886, r2781.2, r2797.2)]⟩, ⟨[1, 3, 7], [], [2500], Fct.row 3008 [2880, 2887, 3006] 101 78 R78 x3007⟩, ⟨[], [6], [], Fct.val 102 (.pointer (some ⟨g2217, 0, none⟩))⟩, ⟨[5, 4, 8], [], [2496], Fct.by_ [3010] [101] (fun l own w => ∀ (A3009 : Option Addr) (cA3009 : Nat), l.getD 0 undef = .slice A3009 x3007.length cA3009 → BlkO own 3010 w g2217 38 #[.slice A3009 x3007.length cA3009, .slice none 0 0]) (fun hk he h _ _ h0' => BlkO.evo (not_hit hk (by decide)) he (h _ _ h0'))⟩]) (by kernel_rfl) hz2947 hd2947 (by simp only [List.forall_mem_cons]; exact ⟨b2947_A2497, b2947_g2217, fun _ h => nomatch h⟩) ?_ ?_
        · refine sc (fun _ _ _ _ s _ => px (or_field fo38_0 (s.1.trans e2947_6) (by rfl))) ?_
          refine sc (fun own a wx hf hsl hE => ?_) ?_
          · obtain ⟨f_97, (b_g2217 : BlkO own 2496 wx g2217 38 #[.slice A2497 n2499.length c2498, .slice none 0 0]), -⟩ := hf
            exact px (or_load1 to36 f_97 (Blk.at_ b_g2217.2 0 rfl))
          refine sc (fun _ _ _ _ s hE => px (or_load (l := [.slice A2884 x2886.length c2885, .int .i64 r2781.2, .int .i64 r2797.2]) ta78 (s.1.trans e2947_13) (Blk.cellsFrom (be_ hE b2947_g2767).2 0 rfl) rfl)) ?_
          refine sc (fun _ _ _ f _ hE => px (or_litN (R := R78) (lab := 3006) (L := [2887]) (e := 78) (cs := #[.slice A2884 x2886.length c2885, .int .i64 r2781.2, .int .i64 r2797.2]) (l := [(x2886, r2781.2, r2797.2)]) (n := 1) [(99, .agg #[.slice A2884 x2886.length c2885, .int .i64 r2781.2, .int .i64 r2797.2])] rfl rfl ⟨f.1, trivial⟩ (by kernel_rfl) rfl (by decide) ⟨(Ex.iff X78).2 ⟨((A2884, c2885), (), ()), rfl, ⟨(RwO.rd (re_ hE b2947_A2884)), trivial, trivial⟩⟩, rfl⟩ rfl)) ?_
          refine sc (fun own a wx hf hsl hE => ?_) ?_
          · obtain ⟨f_98, ⟨⟨A3005, cA3005⟩, f_100, b_A3005⟩, b_A2497, -⟩ := hf
            exact px (or_append (R := R78) (lab := 2500) (lab2 := 3008) (L := [2880]) (L3 := [2880, 2887, 3006]) tp36 f_98 b_A2497 (by decide) f_100 (RwO.rd b_A3005) hx3007 (by decide) (by decide) (mem_of rfl) (.inr ⟨rfl, rfl, by decide, by decide⟩))
          refine sc (fun _ _ _ _ s _ => px (or_field fo38_0 (s.1.trans e2947_6) (by rfl))) ?_
          refine sc (fun own a wx hf hsl hE => ?_) ?_
          · obtain ⟨f_102, ⟨⟨A3009, cA3009⟩, (f_101 : a.eval (.tmp 101) = .slice A3009 x3007.length cA3009), b_A3009⟩, b_g2217, -⟩ := hf
            exact px (or_store1 (lab := 2496) (lab2 := 3010) ts36 f_102 f_101 b_g2217 (by simp) rfl (mem_of rfl) (by decide) rfl (fun own' a' w' ha hb => fun _ _ h0' => by cases (f_101.symm.trans ((ha 101).symm.trans h0')); exact hb))
          exact steps_nil
        intro own3011 a3011 w3011 hd3011 hz3011 hk3011 hf3011 hE3011
        have e3011_2 := (hk3011 2 rfl).trans e2947_2
        have e3011_5 := (hk3011 5 rfl).trans e2947_5
        have e3011_6 := (hk3011 6 rfl).trans e2947_6
        have e3011_7 := (hk3011 7 rfl).trans e2947_7
        have e3011_8 := (hk3011 8 rfl).trans e2947_8
        have e3011_9 := (hk3011 9 rfl).trans e2947_9
        have e3011_10 := (hk3011 10 rfl).trans e2947_10
        have e3011_11 := (hk3011 11 rfl).trans e2947_11
        have e3011_12 := (hk3011 12 rfl).trans e2947_12
        obtain ⟨⟨⟨A3009, cA3009⟩, (f_101 : a3011.eval (.tmp 101) = .slice A3009 x3007.length cA3009), (b3011_A3009 : RwO own3011 3008 [2880, 2887, 3006] w3011 78 R78 A3009 cA3009 x3007)⟩, (bq_g2217 : ∀ (A3009 : Option Addr) (cA3009 : Nat), a3011.eval (.tmp 101) = .slice A3009 x3007.length cA3009 → BlkO own3011 3010 w3011 g2217 38 #[.slice A3009 x3007.length cA3009, .slice none 0 0]), -⟩ := hf3011 [4, 6] rfl
        have b3011_g2217 := bq_g2217 _ _ f_101
        have hX3011 := es_ hX2947 hE3011
        have b3011_g2210 := be_ hE3011 b2947_g2210
        have b3011_g2213 := be_ hE3011 b2947_g2213
        have b3011_A2874 := RdO.evo rfl hE3011 b2947_A2874
        have b3011_g2220 := be_ hE3011 b2947_g2220
        refine hn2766 _ _ ?_
        refine hn2765 _ _ ?_
        refine rg0 184 own3011 (bz 3) [⟨[], [12], [], Fct.val 41 (.int .i64 i2505)⟩, ⟨[0], [], [], Fct.val 42 (.int .i64 (ad i2505 1))⟩, ⟨[1], [], [], Fct.val 12 (.int .i64 (ad i2505 1))⟩] hz3011 hd3011 (by kernel_rfl) ?_ ?_
        · refine sc (fun _ _ _ _ s _ => px (or_move (s.1.trans e3011_12))) ?_
          refine sc (fun _ _ _ f _ _ => px (or_add f.1 rfl rfl)) ?_
          refine sc (fun _ _ _ f _ _ => px (or_assign f.1)) ?_
          exact steps_nil
        intro own3012 a3012 w3012 hd3012 hz3012 hk3012 hf3012 hE3012
        have e3012_2 := (hk3012 2 rfl).trans e3011_2
        have e3012_5 := (hk3012 5 rfl).trans e3011_5
        have e3012_6 := (hk3012 6 rfl).trans e3011_6
        have e3012_7 := (hk3012 7 rfl).trans e3011_7
        have e3012_8 := (hk3012 8 rfl).trans e3011_8
        have e3012_9 := (hk3012 9 rfl).trans e3011_9
        have e3012_10 := (hk3012 10 rfl).trans e3011_10
        have e3012_11 := (hk3012 11 rfl).trans e3011_11
        obtain ⟨(e3012_12 : a3012.eval (.tmp 12) = .int .i64 (ad i2505 1)), -⟩ := hf3012 [2] rfl
        have hX3012 := es_ hX3011 hE3012
        have b3012_g2210 := be_ hE3012 b3011_g2210
        have b3012_g2213 := be_ hE3012 b3011_g2213
        have b3012_A2874 := RdO.evo rfl hE3012 b3011_A2874
        have b3012_g2220 := be_ hE3012 b3011_g2220
        have b3012_g2217 := be_ hE3012 b3011_g2217
        have b3012_A3009 := re_ hE3012 b3011_A3009
        exact hn2759 _ _ _ hs ⟨(rl [(2873, 2489), (2877, 2493), (2880, 2501), (2881, 2502), (2887, 2501), (3006, 2501), (3008, 2500), (3010, 2496)] own3012), A2874, c2875, A3009, cA3009, hd3012, hz3012, e3012_2, e3012_5, e3012_6, e3012_7, e3012_8, e3012_9, e3012_10, e3012_11, e3012_12, (Evo.rl_ hX3012 (fun _ => Nat.le_refl 0) rfl), (BlkO.rl_ (mm := [(2873, 2489), (2877, 2493), (2880, 2501), (2881, 2502), (2887, 2501), (3006, 2501), (3008, 2500), (3010, 2496)]) b3012_g2210), (BlkO.rl_ (mm := [(2873, 2489), (2877, 2493), (2880, 2501), (2881, 2502), (2887, 2501), (3006, 2501), (3008, 2500), (3010, 2496)]) b3012_g2213), (RdO.rl_ (mm := [(2873, 2489), (2877, 2493), (2880, 2501), (2881, 2502), (2887, 2501), (3006, 2501), (3008, 2500), (3010, 2496)]) b3012_A2874), (BlkO.rl_ (mm := [(2873, 2489), (2877, 2493), (2880, 2501), (2881, 2502), (2887, 2501), (3006, 2501), (3008, 2500), (3010, 2496)]) b3012_g2217), (RwO.more (RwO.rl_ (mm := [(2873, 2489), (2877, 2493), (2880, 2501), (2881, 2502), (2887, 2501), (3006, 2501), (3008, 2500), (3010, 2496)]) b3012_A3009) (by decide)), (BlkO.rl_ (mm := [(2873, 2489), (2877, 2493), (2880, 2501), (2881, 2502), (2887, 2501), (3006, 2501), (3008, 2500), (3010, 2496)]) b3012_g2220)⟩
    refine fl_exit ?_
    refine hp2761 _ _ _ rfl ?_
    replace hs := hz2759 _ hs
    refine hp2759 _ _ _ rfl ?_
    refine hx2237 _ _ ?_
    refine hn2235 _ _ ?_
    obtain ⟨r3017, hr3017, hs⟩ := obind hs
    refine rg_plain_seq (n := 184) (rs := [Fct.at_ 2489 g2213 72 #[.slice A2490 c2492.length c2491, .int .i64 c2494, .int .i64 c2495]]) (own0 := own2763) (K := [2489]) (bs := [0, 1, 3, 7, 7, 15, 63]) (ds := [⟨[7], [5], [], Fct.val 104 (.agg #[.slice A2490 c2492.length c2491, .int .i64 c2494, .int .i64 c2495])⟩, ⟨[0], [], [], Fct.mems [3019, 3020, 0, 2493] 105 (fun (x : Option Addr × Nat) => .tuple #[.agg #[.slice x.1 r3017.1.1.length x.2, .int .i64 r3017.1.2.1, .int .i64 r3017.1.2.2], .int .i64 r3017.2]) (fun (x : Option Addr × Nat) own w => RdO own [3019, 3020, 0, 2493] w R5 x.1 x.2 r3017.1.1) (fun hk he h => RdO.evo (hits_sub hk (by decide)) he h)⟩, ⟨[1], [], [], Fct.rel [103, 105] (fun l => ∀ (A3018 : Option Addr) (cA3018 : Nat), l.getD 1 undef = .tuple #[.agg #[.slice A3018 r3017.1.1.length cA3018, .int .i64 r3017.1.2.1, .int .i64 r3017.1.2.2], .int .i64 r3017.2] → l.getD 0 undef = .tuple #[.agg #[.slice A3018 r3017.1.1.length cA3018, .int .i64 r3017.1.2.1, .int .i64 r3017.1.2.2], .int .i64 r3017.2])⟩, ⟨[2, 1], [], [], Fct.rel [106, 105] (fun l => ∀ (A3018 : Option Addr) (cA3018 : Nat), l.getD 1 undef = .tuple #[.agg #[.slice A3018 r3017.1.1.length cA3018, .int .i64 r3017.1.2.1, .int .i64 r3017.1.2.2], .int .i64 r3017.2] → l.getD 0 undef = .agg #[.slice A3018 r3017.1.1.length cA3018, .int .i64 r3017.1.2.1, .int .i64 r3017.1.2.2])⟩, ⟨[2, 1], [], [], Fct.val 107 (.int .i64 r3017.2)⟩, ⟨[3, 1, 7], [5], [2489], Fct.by_ [3021] [105] (fun l own w => ∀ (A3018 : Option Addr) (cA3018 : Nat), l.getD 0 undef = .tuple #[.agg #[.slice A3018 r3017.1.1.length cA3018, .int .i64 r3017.1.2.1, .int .i64 r3017.1.2.2], .int .i64 r3017.2] → BlkO own 3021 w g2213 72 #[.slice A3018 r3017.1.1.length cA3018, .int .i64 r3017.1.2.1, .int .i64 r3017.1.2.2]) (fun hk he h _ _ h0' => BlkO.evo (not_hit hk (by decide)) he (h _ _ h0'))⟩, ⟨[4], [], [], Fct.val 16 (.int .i64 r3017.2)⟩]) (by kernel_rfl) hz2763 hd2763 (by simp only [List.forall_mem_cons]; exact ⟨b2763_g2213, fun _ h => nomatch h⟩) ?_ ?_
    · refine sc (fun own a wx hf hsl hE => ?_) ?_
      · obtain ⟨(b_g2213 : BlkO own 2489 wx g2213 72 #[.slice A2490 c2492.length c2491, .int .i64 c2494, .int .i64 c2495]), -⟩ := hf
        obtain ⟨s_5, -⟩ := hsl
        exact px (or_load (l := [.slice A2490 c2492.length c2491, .int .i64 c2494, .int .i64 c2495]) ta72 (s_5.trans e2763_5) (Blk.cellsFrom b_g2213.2 0 rfl) rfl)
      refine sc (fun own _ _ f _ hE => px (or_call cf26 (args3 f.1 rfl rfl) (ref26_Up_w _ (forth own (inL [0, 2493])) (c2492, c2494, c2495) A2490 c2491 32 6 inL_le (RdO.alias_ (La := [0, 2493]) (RdO.evo rfl hE b2763_A2490) (by decide)) r3017 hr3017) (post_alias (La := [0, 2493]) (m' := (look0 [(1, 3019), (2, 3020)])) (fun own' w' a' x ho hsz h1 h => ⟨x, h1, RdO.backN_ ho hsz h (by decide) (by decide) (by decide)⟩)))) ?_
      refine sc (fun own a wx hf hsl hE => ?_) ?_
      · obtain ⟨⟨⟨A3018, cA3018⟩, (f_105 : a.eval (.tmp 105) = .tuple #[.agg #[.slice A3018 r3017.1.1.length cA3018, .int .i64 r3017.1.2.1, .int .i64 r3017.1.2.2], .int .i64 r3017.2]), b_A3018⟩, -⟩ := hf
        exact px (or_mono (f := Fct.val 103 (.tuple #[.agg #[.slice A3018 r3017.1.1.length cA3018, .int .i64 r3017.1.2.1, .int .i64 r3017.1.2.2], .int .i64 r3017.2])) (or_move f_105) (fun own' a' w' v' hp h => fun _ _ h0' => by cases (f_105.symm.trans ((hp.2 105 (by decide)).symm.trans h0')); exact h))
      refine sc (fun own a wx hf hsl hE => ?_) ?_
      · obtain ⟨(q_103 : ∀ (A3018 : Option Addr) (cA3018 : Nat), a.eval (.tmp 105) = .tuple #[.agg #[.slice A3018 r3017.1.1.length cA3018, .int .i64 r3017.1.2.1, .int .i64 r3017.1.2.2], .int .i64 r3017.2] → a.eval (.tmp 103) = .tuple #[.agg #[.slice A3018 r3017.1.1.length cA3018, .int .i64 r3017.1.2.1, .int .i64 r3017.1.2.2], .int .i64 r3017.2]), ⟨⟨A3018, cA3018⟩, (f_105 : a.eval (.tmp 105) = .tuple #[.agg #[.slice A3018 r3017.1.1.length cA3018, .int .i64 r3017.1.2.1, .int .i64 r3017.1.2.2], .int .i64 r3017.2]), b_A3018⟩, -⟩ := hf
        have f_103 := q_103 _ _ f_105
        exact px (or_mono (f := Fct.val 106 (.agg #[.slice A3018 r3017.1.1.length cA3018, .int .i64 r3017.1.2.1, .int .i64 r3017.1.2.2])) (or_k [(103, .tuple #[.agg #[.slice A3018 r3017.1.1.length cA3018, .int .i64 r3017.1.2.1, .int .i64 r3017.1.2.2], .int .i64 r3017.2])] rfl rfl ⟨f_103, trivial⟩ (by kernel_rfl)) (fun own' a' w' v' hp h => fun _ _ h0' => by cases (f_105.symm.trans ((hp.2 105 (by decide)).symm.trans h0')); exact h))
      refine sc (fun own a wx hf hsl hE => ?_) ?_
      · obtain ⟨(q_103 : ∀ (A3018 : Option Addr) (cA3018 : Nat), a.eval (.tmp 105) = .tuple #[.agg #[.slice A3018 r3017.1.1.length cA3018, .int .i64 r3017.1.2.1, .int .i64 r3017.1.2.2], .int .i64 r3017.2] → a.eval (.tmp 103) = .tuple #[.agg #[.slice A3018 r3017.1.1.length cA3018, .int .i64 r3017.1.2.1, .int .i64 r3017.1.2.2], .int .i64 r3017.2]), ⟨⟨A3018, cA3018⟩, f_105, b_A3018⟩, -⟩ := hf
        have f_103 := q_103 _ _ f_105
        exact px (or_k [(103, .tuple #[.agg #[.slice A3018 r3017.1.1.length cA3018, .int .i64 r3017.1.2.1, .int .i64 r3017.1.2.2], .int .i64 r3017.2])] rfl rfl ⟨f_103, trivial⟩ (by kernel_rfl))
      refine sc (fun own a wx hf hsl hE => ?_) ?_
      · obtain ⟨(q_106 : ∀ (A3018 : Option Addr) (cA3018 : Nat), a.eval (.tmp 105) = .tuple #[.agg #[.slice A3018 r3017.1.1.length cA3018, .int .i64 r3017.1.2.1, .int .i64 r3017.1.2.2], .int .i64 r3017.2] → a.eval (.tmp 106) = .agg #[.slice A3018 r3017.1.1.length cA3018, .int .i64 r3017.1.2.1, .int .i64 r3017.1.2.2]), ⟨⟨A3018, cA3018⟩, (f_105 : a.eval (.tmp 105) = .tuple #[.agg #[.slice A3018 r3017.1.1.length cA3018, .int .i64 r3017.1.2.1, .int .i64 r3017.1.2.2], .int .i64 r3017.2]), b_A3018⟩, b_g2213, -⟩ := hf
        have f_106 := q_106 _ _ f_105
        obtain ⟨s_5, -⟩ := hsl
        exact px (or_store (l := #[.slice A3018 r3017.1.1.length cA3018, .int .i64 r3017.1.2.1, .int .i64 r3017.1.2.2]) (lab := 2489) (lab2 := 3021) ts72 (s_5.trans e2763_5) f_106 b_g2213 (by simp) (by kernel_rfl) (mem_of rfl) (by decide) (by kernel_rfl) (fun own' a' w' ha hb => fun _ _ h0' => by cases (f_105.symm.trans ((ha 105).symm.trans h0')); exact hb))
      refine sc (fun _ _ _ f _ _ => px (or_assign f.1)) ?_
      exact steps_nil
    intro own3022 a3022 w3022 hd3022 hz3022 hk3022 hf3022 hE3022
    have e3022_2 := (hk3022 2 rfl).trans e2763_2
    have e3022_5 := (hk3022 5 rfl).trans e2763_5
    have e3022_6 := (hk3022 6 rfl).trans e2763_6
    have e3022_9 := (hk3022 9 rfl).trans e2763_9
    have e3022_10 := (hk3022 10 rfl).trans e2763_10
    obtain ⟨(e3022_16 : a3022.eval (.tmp 16) = .int .i64 r3017.2), ⟨⟨A3018, cA3018⟩, (f_105 : a3022.eval (.tmp 105) = .tuple #[.agg #[.slice A3018 r3017.1.1.length cA3018, .int .i64 r3017.1.2.1, .int .i64 r3017.1.2.2], .int .i64 r3017.2]), (b3022_A3018 : RdO own3022 [3019, 3020, 0, 2493] w3022 R5 A3018 cA3018 r3017.1.1)⟩, (bq_g2213 : ∀ (A3018 : Option Addr) (cA3018 : Nat), a3022.eval (.tmp 105) = .tuple #[.agg #[.slice A3018 r3017.1.1.length cA3018, .int .i64 r3017.1.2.1, .int .i64 r3017.1.2.2], .int .i64 r3017.2] → BlkO own3022 3021 w3022 g2213 72 #[.slice A3018 r3017.1.1.length cA3018, .int .i64 r3017.1.2.1, .int .i64 r3017.1.2.2]), -⟩ := hf3022 [6, 1, 5] rfl
    have b3022_g2213 := bq_g2213 _ _ f_105
    have hX3022 := es_ hX2763 hE3022
    have b3022_g2210 := be_ hE3022 b2763_g2210
    have b3022_g2217 := be_ hE3022 b2763_g2217
    have b3022_A2497 := re_ hE3022 b2763_A2497
    refine fl_seq (fun Q3023 hn3023 hp3023 => ?_)
    refine rg0_seq 184 own3022 (bz 1) [⟨[], [], [], Fct.val 17 (.int .i64 0)⟩] hz3022 hd3022 (by kernel_rfl) ?_ ?_
    · refine sc (fun _ _ _ _ _ _ => px (or_assign rfl)) ?_
      exact steps_nil
    intro own3024 a3024 w3024 hd3024 hz3024 hk3024 hf3024 hE3024
    have e3024_2 := (hk3024 2 rfl).trans e3022_2
    have e3024_5 := (hk3024 5 rfl).trans e3022_5
    have e3024_6 := (hk3024 6 rfl).trans e3022_6
    have e3024_9 := (hk3024 9 rfl).trans e3022_9
    have e3024_10 := (hk3024 10 rfl).trans e3022_10
    have e3024_16 := (hk3024 16 rfl).trans e3022_16
    obtain ⟨(e3024_17 : a3024.eval (.tmp 17) = .int .i64 0), -⟩ := hf3024 [0] rfl
    have hX3024 := es_ hX3022 hE3024
    have b3024_g2210 := be_ hE3024 b3022_g2210
    have b3024_g2217 := be_ hE3024 b3022_g2217
    have b3024_A2497 := re_ hE3024 b3022_A2497
    have b3024_g2213 := be_ hE3024 b3022_g2213
    have b3024_A3018 := RdO.evo rfl hE3024 b3022_A3018
    refine fl_block (fun Q3025 hn3025 hx3025 hp3025 => ?_)
    refine fl_loop (body := (fun s => ref26_Read_b3 n2499 r3017 s.1 s.2.1 s.2.2.1 s.2.2.2.1 s.2.2.2.2.1 s.2.2.2.2.2.1 s.2.2.2.2.2.2)) (z := r) (show loopO _ _ = _ from hs) (fun (s : (List Int) × Int × Int × (List (List (List Int))) × Int × Int × Int) a wx => match s with | (c3477, c3479, c3480, n3485, rings3488, refs3489, i3490) => ∃ (ox : Own) (A3475 : Option Addr) (c3476 : Nat) (A3483 : Option Addr) (c3484 : Nat), a.defers = [] ∧ a.tmps.size = 184 ∧ a.eval (.tmp 2) = .pointer (some ⟨g2210, 0, none⟩) ∧ a.eval (.tmp 5) = .pointer (some ⟨g2213, 0, none⟩) ∧ a.eval (.tmp 6) = .pointer (some ⟨g2217, 0, none⟩) ∧ a.eval (.tmp 9) = .int .i64 rings3488 ∧ a.eval (.tmp 10) = .int .i64 refs3489 ∧ a.eval (.tmp 16) = .int .i64 r3017.2 ∧ a.eval (.tmp 17) = .int .i64 i3490 ∧ Evo [] (fun _ => 0) ox w wx ∧ BlkO ox 2211 wx g2210 38 #[.slice none 0 0, .slice none 0 0] ∧ BlkO ox 3474 wx g2213 72 #[.slice A3475 c3477.length c3476, .int .i64 c3479, .int .i64 c3480] ∧ RdO ox [0, 3478] wx R5 A3475 c3476 c3477 ∧ BlkO ox 3481 wx g2217 38 #[.slice A2497 n2499.length c2498, .slice A3483 n3485.length c3484] ∧ RwO ox 2500 [3482] wx 78 R78 A2497 c2498 n2499 ∧ RwO ox 3486 [3487] wx 27 R27 A3483 c3484 n3485) ?_ ?_
    · exact ⟨(rl [(2493, 3478), (2496, 3481), (2501, 3482), (3019, 3478), (3020, 3478), (3021, 3474)] own3024), A3018, cA3018, none, 0, hd3024, hz3024, e3024_2, e3024_5, e3024_6, e3024_9, e3024_10, e3024_16, e3024_17, (Evo.rl_ hX3024 (fun _ => Nat.le_refl 0) rfl), (BlkO.rl_ (mm := [(2493, 3478), (2496, 3481), (2501, 3482), (3019, 3478), (3020, 3478), (3021, 3474)]) b3024_g2210), (BlkO.rl_ (mm := [(2493, 3478), (2496, 3481), (2501, 3482), (3019, 3478), (3020, 3478), (3021, 3474)]) b3024_g2213), (RdO.more (RdO.rl_ (mm := [(2493, 3478), (2496, 3481), (2501, 3482), (3019, 3478), (3020, 3478), (3021, 3474)]) b3024_A3018) (by decide)), (BlkO.rl_ (mm := [(2493, 3478), (2496, 3481), (2501, 3482), (3019, 3478), (3020, 3478), (3021, 3474)]) b3024_g2217), (RwO.rl_ (mm := [(2493, 3478), (2496, 3481), (2501, 3482), (3019, 3478), (3020, 3478), (3021, 3474)]) b3024_A2497), RwO.nil_⟩
    · rintro ⟨c3477, c3479, c3480, n3485, rings3488, refs3489, i3490⟩ zz3946 a3946 w3946 ⟨own3946, A3475, c3476, A3483, c3484, hd3947, hz3947, e3947_2, e3947_5, e3947_6, e3947_9, e3947_10, e3947_16, e3947_17, hE3947, b3947_g2210, b3947_g2213, b3947_A3475, b3947_g2217, b3947_A2497, b3947_A3483⟩ hs Q3946 hn3946 hp3946 hz3946
      have hs : ref26_Read_b3 n2499 r3017 c3477 c3479 c3480 n3485 rings3488 refs3489 i3490 = some zz3946 := hs
      refine fl_seq (fun Q3948 hn3948 hp3948 => ?_)
      obtain ⟨x3949, hx3949, hs⟩ := obind hs
      refine rg0_seq 184 own3946 [0, 0, 3, 7, 15, 31, 63, 127] [⟨[], [17], [], Fct.val 108 (.int .i64 i3490)⟩, ⟨[], [16], [], Fct.val 109 (.int .i64 r3017.2)⟩, ⟨[0, 1], [], [], Fct.val 110 (.bool (decide (i3490 < r3017.2)))⟩, ⟨[2], [], [], Fct.val 111 (.bool (decide (i3490 < r3017.2)))⟩, ⟨[3], [5], [], Fct.cond (decide (i3490 < r3017.2)) (some 112) (Fct.val 112 (.pointer (some ⟨g2213, 2, none⟩)))⟩, ⟨[3, 4], [], [], Fct.cond (decide (i3490 < r3017.2)) (some 113) (Fct.val 113 (.int .i64 c3480))⟩, ⟨[3, 5], [], [], Fct.cond (decide (i3490 < r3017.2)) (some 114) (Fct.val 114 (.bool (decide (c3480 = 0))))⟩, ⟨[3, 6], [], [], Fct.val 115 (.bool x3949)⟩] hz3947 hd3947 (by kernel_rfl) ?_ ?_
      · refine sc (fun _ _ _ _ s _ => px (or_move (s.1.trans e3947_17))) ?_
        refine sc (fun _ _ _ _ s _ => px (or_move (s.1.trans e3947_16))) ?_
        refine sc (fun _ _ _ f _ _ => px (or_lss f.1 f.2.1 rfl)) ?_
        refine sc (fun _ _ _ f _ _ => px (or_move f.1)) ?_
        refine sc (fun _ _ _ f s _ => sg_t rfl rfl rfl f.1 (fun hg => or_field fo72_2 (s.1.trans e3947_5) (by rfl))) ?_
        refine sc (fun _ _ _ f _ hE => sg_t rfl rfl rfl f.1 (fun hg => or_load1 to3 (f.2.1.1 hg) (Blk.at_ (be_ hE b3947_g2213).2 2 rfl))) ?_
        refine sc (fun _ _ _ f _ _ => sg_t rfl rfl rfl f.1 (fun hg => or_eql (f.2.1.1 hg) rfl rfl)) ?_
        refine sc (fun _ _ _ f _ _ => px (or_and f.1 (fun hx => f.2.1.1 hx) rfl (osome hx3949).symm)) ?_
        exact steps_nil
      intro own3950 a3950 w3950 hd3950 hz3950 hk3950 hf3950 hE3950
      have e3950_2 := (hk3950 2 rfl).trans e3947_2
      have e3950_5 := (hk3950 5 rfl).trans e3947_5
      have e3950_6 := (hk3950 6 rfl).trans e3947_6
      have e3950_9 := (hk3950 9 rfl).trans e3947_9
      have e3950_10 := (hk3950 10 rfl).trans e3947_10
      have e3950_16 := (hk3950 16 rfl).trans e3947_16
      have e3950_17 := (hk3950 17 rfl).trans e3947_17
      obtain ⟨(e3950_115 : a3950.eval (.tmp 115) = .bool x3949), -⟩ := hf3950 [7] rfl
      have hX3950 := es_ hE3947 hE3950
      have b3950_g2210 := be_ hE3950 b3947_g2210
      have b3950_g2213 := be_ hE3950 b3947_g2213
      have b3950_A3475 := RdO.evo rfl hE3950 b3947_A3475
      have b3950_g2217 := be_ hE3950 b3947_g2217
      have b3950_A2497 := re_ hE3950 b3947_A2497
      have b3950_A3483 := re_ hE3950 b3947_A3483
      refine fl_cond e3950_115 hs (fun c3951 hs => ?_) (fun c3951 hs => ?_)
      · refine fl_skip ?_
        refine hn3948 _ _ ?_
        refine fl_seq (fun Q3952 hn3952 hp3952 => ?_)
        refine fl_block (fun Q3953 hn3953 hx3953 hp3953 => ?_)
        refine rg0_seq 184 own3950 (bz 1) [⟨[], [], [], Fct.val 18 (.slice none 0 0)⟩] hz3950 hd3950 (by kernel_rfl) ?_ ?_
        · refine sc (fun _ _ _ _ _ _ => px (or_assign rfl)) ?_
          exact steps_nil
        intro own3954 a3954 w3954 hd3954 hz3954 hk3954 hf3954 hE3954
        have e3954_2 := (hk3954 2 rfl).trans e3950_2
        have e3954_5 := (hk3954 5 rfl).trans e3950_5
        have e3954_6 := (hk3954 6 rfl).trans e3950_6
        have e3954_9 := (hk3954 9 rfl).trans e3950_9
        have e3954_10 := (hk3954 10 rfl).trans e3950_10
        have e3954_16 := (hk3954 16 rfl).trans e3950_16
        have e3954_17 := (hk3954 17 rfl).trans e3950_17
        obtain ⟨(e3954_18 : a3954.eval (.tmp 18) = .slice none 0 0), -⟩ := hf3954 [0] rfl
        have hX3954 := es_ hX3950 hE3954
        have b3954_g2210 := be_ hE3954 b3950_g2210
        have b3954_g2213 := be_ hE3954 b3950_g2213
        have b3954_A3475 := RdO.evo rfl hE3954 b3950_A3475
        have b3954_g2217 := be_ hE3954 b3950_g2217
        have b3954_A2497 := re_ hE3954 b3950_A2497
        have b3954_A3483 := re_ hE3954 b3950_A3483
        refine rg0_seq 184 own3954 (bz 1) [⟨[], [], [], Fct.val 19 (.int .i64 0)⟩] hz3954 hd3954 (by kernel_rfl) ?_ ?_
        · refine sc (fun _ _ _ _ _ _ => px (or_assign rfl)) ?_
          exact steps_nil
        intro own3955 a3955 w3955 hd3955 hz3955 hk3955 hf3955 hE3955
        have e3955_2 := (hk3955 2 rfl).trans e3954_2
        have e3955_5 := (hk3955 5 rfl).trans e3954_5
        have e3955_6 := (hk3955 6 rfl).trans e3954_6
        have e3955_9 := (hk3955 9 rfl).trans e3954_9
        have e3955_10 := (hk3955 10 rfl).trans e3954_10
        have e3955_16 := (hk3955 16 rfl).trans e3954_16
        have e3955_17 := (hk3955 17 rfl).trans e3954_17
        have e3955_18 := (hk3955 18 rfl).trans e3954_18
        have hX3955 := es_ hX3954 hE3955
        have b3955_g2210 := be_ hE3955 b3954_g2210
        have b3955_g2213 := be_ hE3955 b3954_g2213
        have b3955_A3475 := RdO.evo rfl hE3955 b3954_A3475
        have b3955_g2217 := be_ hE3955 b3954_g2217
        have b3955_A2497 := re_ hE3955 b3954_A2497
        have b3955_A3483 := re_ hE3955 b3954_A3483
        obtain ⟨r3960, hr3960, hs⟩ := obind hs
        refine rg_plain_seq (n := 184) (rs := [Fct.at_ 3474 g2213 72 #[.slice A3475 c3477.length c3476, .int .i64 c3479, .int .i64 c3480]]) (own0 := own3955) (K := [3474]) (bs := [0, 0, 3, 7, 15, 15, 31, 127]) (ds := [⟨[8], [5], [], Fct.val 119 (.agg #[.slice A3475 c3477.length c3476, .int .i64 c3479, .int .i64 c3480])⟩, ⟨[], [9], [], Fct.val 120 (.int .i64 rings3488)⟩, ⟨[0, 1], [], [], Fct.mems [3962, 3963, 0, 3478] 121 (fun (x : Option Addr × Nat) => .tuple #[.agg #[.slice x.1 r3960.1.1.length x.2, .int .i64 r3960.1.2.1, .int .i64 r3960.1.2.2], .int .i64 r3960.2]) (fun (x : Option Addr × Nat) own w => RdO own [3962, 3963, 0, 3478] w R5 x.1 x.2 r3960.1.1) (fun hk he h => RdO.evo (hits_sub hk (by decide)) he h)⟩, ⟨[2], [], [], Fct.rel [118, 121] (fun l => ∀ (A3961 : Option Addr) (cA3961 : Nat), l.getD 1 undef = .tuple #[.agg #[.slice A3961 r3960.1.1.length cA3961, .int .i64 r3960.1.2.1, .int .i64 r3960.1.2.2], .int .i64 r3960.2] → l.getD 0 undef = .tuple #[.agg #[.slice A3961 r3960.1.1.length cA3961, .int .i64 r3960.1.2.1, .int .i64 r3960.1.2.2], .int .i64 r3960.2])⟩, ⟨[3, 2], [], [], Fct.rel [122, 121] (fun l => ∀ (A3961 : Option Addr) (cA3961 : Nat), l.getD 1 undef = .tuple #[.agg #[.slice A3961 r3960.1.1.length cA3961, .int .i64 r3960.1.2.1, .int .i64 r3960.1.2.2], .int .i64 r3960.2] → l.getD 0 undef = .agg #[.slice A3961 r3960.1.1.length cA3961, .int .i64 r3960.1.2.1, .int .i64 r3960.1.2.2])⟩, ⟨[3, 2], [], [], Fct.val 123 (.int .i64 r3960.2)⟩, ⟨[4, 2, 8], [5], [3474], Fct.by_ [3964] [121] (fun l own w => ∀ (A3961 : Option Addr) (cA3961 : Nat), l.getD 0 undef = .tuple #[.agg #[.slice A3961 r3960.1.1.length cA3961, .int .i64 r3960.1.2.1, .int .i64 r3960.1.2.2], .int .i64 r3960.2] → BlkO own 3964 w g2213 72 #[.slice A3961 r3960.1.1.length cA3961, .int .i64 r3960.1.2.1, .int .i64 r3960.1.2.2]) (fun hk he h _ _ h0' => BlkO.evo (not_hit hk (by decide)) he (h _ _ h0'))⟩, ⟨[5], [], [], Fct.val 19 (.int .i64 r3960.2)⟩]) (by kernel_rfl) hz3955 hd3955 (by simp only [List.forall_mem_cons]; exact ⟨b3955_g2213, fun _ h => nomatch h⟩) ?_ ?_
        · refine sc (fun own a wx hf hsl hE => ?_) ?_
          · obtain ⟨(b_g2213 : BlkO own 3474 wx g2213 72 #[.slice A3475 c3477.length c3476, .int .i64 c3479, .int .i64 c3480]), -⟩ := hf
            obtain ⟨s_5, -⟩ := hsl
            exact px (or_load (l := [.slice A3475 c3477.length c3476, .int .i64 c3479, .int .i64 c3480]) ta72 (s_5.trans e3955_5) (Blk.cellsFrom b_g2213.2 0 rfl) rfl)
          refine sc (fun _ _ _ _ s _ => px (or_move (s.1.trans e3955_9))) ?_
          refine sc (fun own _ _ f _ hE => px (or_call cf26 (args3 f.1 f.2.1 rfl) (ref26_Up_w _ (forth own (inL [0, 3478])) (c3477, c3479, c3480) A3475 c3476 rings3488 6 inL_le (RdO.alias_ (La := [0, 3478]) (RdO.evo rfl hE b3955_A3475) (by decide)) r3960 hr3960) (post_alias (La := [0, 3478]) (m' := (look0 [(1, 3962), (2, 3963)])) (fun own' w' a' x ho hsz h1 h => ⟨x, h1, RdO.backN_ ho hsz h (by decide) (by decide) (by decide)⟩)))) ?_
          refine sc (fun own a wx hf hsl hE => ?_) ?_
          · obtain ⟨⟨⟨A3961, cA3961⟩, (f_121 : a.eval (.tmp 121) = .tuple #[.agg #[.slice A3961 r3960.1.1.length cA3961, .int .i64 r3960.1.2.1, .int .i64 r3960.1.2.2], .int .i64 r3960.2]), b_A3961⟩, -⟩ := hf
            exact px (or_mono (f := Fct.val 118 (.tuple #[.agg #[.slice A3961 r3960.1.1.length cA3961, .int .i64 r3960.1.2.1, .int .i64 r3960.1.2.2], .int .i64 r3960.2])) (or_move f_121) (fun own' a' w' v' hp h => fun _ _ h0' => by cases (f_121.symm.trans ((hp.2 121 (by decide)).symm.trans h0')); exact h))
          refine sc (fun own a wx hf hsl hE => ?_) ?_
          · obtain ⟨(q_118 : ∀ (A3961 : Option Addr) (cA3961 : Nat), a.eval (.tmp 121) = .tuple #[.agg #[.slice A3961 r3960.1.1.length cA3961, .int .i64 r3960.1.2.1, .int .i64 r3960.1.2.2], .int .i64 r3960.2] → a.eval (.tmp 118) = .tuple #[.agg #[.slice A3961 r3960.1.1.length cA3961, .int .i64 r3960.1.2.1, .int .i64 r3960.1.2.2], .int .i64 r3960.2]), ⟨⟨A3961, cA3961⟩, (f_121 : a.eval (.tmp 121) = .tuple #[.agg #[.slice A3961 r3960.1.1.length cA3961, .int .i64 r3960.1.2.1, .int .i64 r3960.1.2.2], .int .i64 r3960.2]), b_A3961⟩, -⟩ := hf
            have f_118 := q_118 _ _ f_121
            exact px (or_mono (f := Fct.val 122 (.agg #[.slice A3961 r3960.1.1.length cA3961, .int .i64 r3960.1.2.1, .int .i64 r3960.1.2.2])) (or_k [(118, .tuple #[.agg #[.slice A3961 r3960.1.1.length cA3961, .int .i64 r3960.1.2.1, .int .i64 r3960.1.2.2], .int .i64 r3960.2])] rfl rfl ⟨f_118, trivial⟩ (by kernel_rfl)) (fun own' a' w' v' hp h => fun _ _ h0' => by cases (f_121.symm.trans ((hp.2 121 (by decide)).symm.trans h0')); exact h))
          refine sc (fun own a wx hf hsl hE => ?_) ?_
          · obtain ⟨(q_118 : ∀ (A3961 : Option Addr) (cA3961 : Nat), a.eval (.tmp 121) = .tuple #[.agg #[.slice A3961 r3960.1.1.length cA3961, .int .i64 r3960.1.2.1, .int .i64 r3960.1.2.2], .int .i64 r3960.2] → a.eval (.tmp 118) = .tuple #[.agg #[.slice A3961 r3960.1.1.length cA3961, .int .i64 r3960.1.2.1, .int .i64 r3960.1.2.2], .int .i64 r3960.2]), ⟨⟨A3961, cA3961⟩, f_121, b_A3961⟩, -⟩ := hf
            have f_118 := q_118 _ _ f_121
            exact px (or_k [(118, .tuple #[.agg #[.slice A3961 r3960.1.1.length cA3961, .int .i64 r3960.1.2.1, .int .i64 r3960.1.2.2], .int .i64 r3960.2])] rfl rfl ⟨f_118, trivial⟩ (by kernel_rfl))
          refine sc (fun own a wx hf hsl hE => ?_) ?_
          · obtain ⟨(q_122 : ∀ (A3961 : Option Addr) (cA3961 : Nat), a.eval (.tmp 121) = .tuple #[.agg #[.slice A3961 r3960.1.1.length cA3961, .int .i64 r3960.1.2.1, .int .i64 r3960.1.2.2], .int .i64 r3960.2] → a.eval (.tmp 122) = .agg #[.slice A3961 r3960.1.1.length cA3961, .int .i64 r3960.1.2.1, .int .i64 r3960.1.2.2]), ⟨⟨A3961, cA3961⟩, (f_121 : a.eval (.tmp 121) = .tuple #[.agg #[.slice A3961 r3960.1.1.length cA3961, .int .i64 r3960.1.2.1, .int .i64 r3960.1.2.2], .int .i64 r3960.2]), b_A3961⟩, b_g2213, -⟩ := hf
            have f_122 := q_122 _ _ f_121
            obtain ⟨s_5, -⟩ := hsl
            exact px (or_store (l := #[.slice A3961 r3960.1.1.length cA3961, .int .i64 r3960.1.2.1, .int .i64 r3960.1.2.2]) (lab := 3474) (lab2 := 3964) ts72 (s_5.trans e3955_5) f_122 b_g2213 (by simp) (by kernel_rfl) (mem_of rfl) (by decide) (by kernel_rfl) (fun own' a' w' ha hb => fun _ _ h0' => by cases (f_121.symm.trans ((ha 121).symm.trans h0')); exact hb))
          refine sc (fun _ _ _ f _ _ => px (or_assign f.1)) ?_
          exact steps_nil
        intro own3965 a3965 w3965 hd3965 hz3965 hk3965 hf3965 hE3965
        have e3965_2 := (hk3965 2 rfl).trans e3955_2
        have e3965_5 := (hk3965 5 rfl).trans e3955_5
        have e3965_6 := (hk3965 6 rfl).trans e3955_6
        have e3965_9 := (hk3965 9 rfl).trans e3955_9
        have e3965_10 := (hk3965 10 rfl).trans e3955_10
        have e3965_16 := (hk3965 16 rfl).trans e3955_16
        have e3965_17 := (hk3965 17 rfl).trans e3955_17
        have e3965_18 := (hk3965 18 rfl).trans e3955_18
        obtain ⟨(e3965_19 : a3965.eval (.tmp 19) = .int .i64 r3960.2), ⟨⟨A3961, cA3961⟩, (f_121 : a3965.eval (.tmp 121) = .tuple #[.agg #[.slice A3961 r3960.1.1.length cA3961, .int .i64 r3960.1.2.1, .int .i64 r3960.1.2.2], .int .i64 r3960.2]), (b3965_A3961 : RdO own3965 [3962, 3963, 0, 3478] w3965 R5 A3961 cA3961 r3960.1.1)⟩, (bq_g2213 : ∀ (A3961 : Option Addr) (cA3961 : Nat), a3965.eval (.tmp 121) = .tuple #[.agg #[.slice A3961 r3960.1.1.length cA3961, .int .i64 r3960.1.2.1, .int .i64 r3960.1.2.2], .int .i64 r3960.2] → BlkO own3965 3964 w3965 g2213 72 #[.slice A3961 r3960.1.1.length cA3961, .int .i64 r3960.1.2.1, .int .i64 r3960.1.2.2]), -⟩ := hf3965 [7, 2, 6] rfl
        have b3965_g2213 := bq_g2213 _ _ f_121
        have hX3965 := es_ hX3955 hE3965
        have b3965_g2210 := be_ hE3965 b3955_g2210
        have b3965_g2217 := be_ hE3965 b3955_g2217
        have b3965_A2497 := re_ hE3965 b3955_A2497
        have b3965_A3483 := re_ hE3965 b3955_A3483
        refine rg0_seq 184 own3965 [0, 0, 3, 7] [⟨[], [9], [], Fct.val 124 (.int .i64 rings3488)⟩, ⟨[], [19], [], Fct.val 125 (.int .i64 r3960.2)⟩, ⟨[0, 1], [], [], Fct.val 126 (.int .i64 (sb rings3488 r3960.2))⟩, ⟨[2], [], [], Fct.val 9 (.int .i64 (sb rings3488 r3960.2))⟩] hz3965 hd3965 (by kernel_rfl) ?_ ?_
        · refine sc (fun _ _ _ _ s _ => px (or_move (s.1.trans e3965_9))) ?_
          refine sc (fun _ _ _ _ s _ => px (or_move (s.1.trans e3965_19))) ?_
          refine sc (fun _ _ _ f _ _ => px (or_sub f.1 f.2.1 rfl)) ?_
          refine sc (fun _ _ _ f _ _ => px (or_assign f.1)) ?_
          exact steps_nil
        intro own3966 a3966 w3966 hd3966 hz3966 hk3966 hf3966 hE3966
        have e3966_2 := (hk3966 2 rfl).trans e3965_2
        have e3966_5 := (hk3966 5 rfl).trans e3965_5
        have e3966_6 := (hk3966 6 rfl).trans e3965_6
        have e3966_10 := (hk3966 10 rfl).trans e3965_10
        have e3966_16 := (hk3966 16 rfl).trans e3965_16
        have e3966_17 := (hk3966 17 rfl).trans e3965_17
        have e3966_18 := (hk3966 18 rfl).trans e3965_18
        have e3966_19 := (hk3966 19 rfl).trans e3965_19
        obtain ⟨(e3966_9 : a3966.eval (.tmp 9) = .int .i64 (sb rings3488 r3960.2)), -⟩ := hf3966 [3] rfl
        have hX3966 := es_ hX3965 hE3966
        have b3966_g2210 := be_ hE3966 b3965_g2210
        have b3966_g2217 := be_ hE3966 b3965_g2217
        have b3966_A2497 := re_ hE3966 b3965_A2497
        have b3966_A3483 := re_ hE3966 b3965_A3483
        have b3966_g2213 := be_ hE3966 b3965_g2213
        have b3966_A3961 := RdO.evo rfl hE3966 b3965_A3961
        refine fl_seq (fun Q3967 hn3967 hp3967 => ?_)
        refine rg0_seq 184 own3966 (bz 1) [⟨[], [], [], Fct.val 20 (.int .i64 0)⟩] hz3966 hd3966 (by kernel_rfl) ?_ ?_
        · refine sc (fun _ _ _ _ _ _ => px (or_assign rfl)) ?_
          exact steps_nil
        intro own3968 a3968 w3968 hd3968 hz3968 hk3968 hf3968 hE3968
        have e3968_2 := (hk3968 2 rfl).trans e3966_2
        have e3968_5 := (hk3968 5 rfl).trans e3966_5
        have e3968_6 := (hk3968 6 rfl).trans e3966_6
        have e3968_9 := (hk3968 9 rfl).trans e3966_9
        have e3968_10 := (hk3968 10 rfl).trans e3966_10
        have e3968_16 := (hk3968 16 rfl).trans e3966_16
        have e3968_17 := (hk3968 17 rfl).trans e3966_17
        have e3968_18 := (hk3968 18 rfl).trans e3966_18
        have e3968_19 := (hk3968 19 rfl).trans e3966_19
        obtain ⟨(e3968_20 : a3968.eval (.tmp 20) = .int .i64 0), -⟩ := hf3968 [0] rfl
        have hX3968 := es_ hX3966 hE3968
        have b3968_g2210 := be_ hE3968 b3966_g2210
        have b3968_g2217 := be_ hE3968 b3966_g2217
        have b3968_A2497 := re_ hE3968 b3966_A2497
        have b3968_A3483 := re_ hE3968 b3966_A3483
        have b3968_g2213 := be_ hE3968 b3966_g2213
        have b3968_A3961 := RdO.evo rfl hE3968 b3966_A3961
        refine fl_block (fun Q3969 hn3969 hx3969 hp3969 => ?_)
        refine fl_loop (body := (fun s => ref26_Read_b4 n3485 rings3488 i3490 r3960 s.1 s.2.1 s.2.2.1 s.2.2.2.1 s.2.2.2.2.1 s.2.2.2.2.2)) (z := zz3946) (show loopO _ _ = _ from hs) (fun (s : (List Int) × Int × Int × Int × (List (List Int)) × Int) a wx => match s with | (c4109, c4111, c4112, refs4115, l4118, j4121) => ∃ (ox : Own) (A4107 : Option Addr) (c4108 : Nat) (A4116 : Option Addr) (c4117 : Nat), a.defers = [] ∧ a.tmps.size = 184 ∧ a.eval (.tmp 2) = .pointer (some ⟨g2210, 0, none⟩) ∧ a.eval (.tmp 5) = .pointer (some ⟨g2213, 0, none⟩) ∧ a.eval (.tmp 6) = .pointer (some ⟨g2217, 0, none⟩) ∧ a.eval (.tmp 9) = .int .i64 (sb rings3488 r3960.2) ∧ a.eval (.tmp 10) = .int .i64 refs4115 ∧ a.eval (.tmp 16) = .int .i64 r3017.2 ∧ a.eval (.tmp 17) = .int .i64 i3490 ∧ a.eval (.tmp 18) = .slice A4116 l4118.length c4117 ∧ a.eval (.tmp 19) = .int .i64 r3960.2 ∧ a.eval (.tmp 20) = .int .i64 j4121 ∧ Evo [] (fun _ => 0) ox w wx ∧ BlkO ox 2211 wx g2210 38 #[.slice none 0 0, .slice none 0 0] ∧ BlkO ox 4106 wx g2213 72 #[.slice A4107 c4109.length c4108, .int .i64 c4111, .int .i64 c4112] ∧ RdO ox [0, 4110] wx R5 A4107 c4108 c4109 ∧ BlkO ox 3481 wx g2217 38 #[.slice A2497 n2499.length c2498, .slice A3483 n3485.length c3484] ∧ RwO ox 2500 [4113] wx 78 R78 A2497 c2498 n2499 ∧ RwO ox 3486 [4114] wx 27 R27 A3483 c3484 n3485 ∧ RwN ox 4119 4120 [] wx 28 3 R3 A4116 c4117 l4118) ?_ ?_
        · exact ⟨(rl [(3478, 4110), (3482, 4113), (3487, 4114), (3962, 4110), (3963, 4110), (3964, 4106)] own3968), A3961, cA3961, none, 0, hd3968, hz3968, e3968_2, e3968_5, e3968_6, e3968_9, e3968_10, e3968_16, e3968_17, e3968_18, e3968_19, e3968_20, (Evo.rl_ hX3968 (fun _ => Nat.le_refl 0) rfl), (BlkO.rl_ (mm := [(3478, 4110), (3482, 4113), (3487, 4114), (3962, 4110), (3963, 4110), (3964, 4106)]) b3968_g2210), (BlkO.rl_ (mm := [(3478, 4110), (3482, 4113), (3487, 4114), (3962, 4110), (3963, 4110), (3964, 4106)]) b3968_g2213), (RdO.more (RdO.rl_ (mm := [(3478, 4110), (3482, 4113), (3487, 4114), (3962, 4110), (3963, 4110), (3964, 4106)]) b3968_A3961) (by decide)), (BlkO.rl_ (mm := [(3478, 4110), (3482, 4113), (3487, 4114), (3962, 4110), (3963, 4110), (3964, 4106)]) b3968_g2217), (RwO.rl_ (mm := [(3478, 4110), (3482, 4113), (3487, 4114), (3962, 4110), (3963, 4110), (3964, 4106)]) b3968_A2497), (RwO.rl_ (mm := [(3478, 4110), (3482, 4113), (3487, 4114), (3962, 4110), (3963, 4110), (3964, 4106)]) b3968_A3483), RwN.nil_⟩
        · rintro ⟨c4109, c4111, c4112, refs4115, l4118, j4121⟩ zz4254 a4254 w4254 ⟨own4254, A4107, c4108, A4116, c4117, hd4255, hz4255, e4255_2, e4255_5, e4255_6, e4255_9, e4255_10, e4255_16, e4255_17, e4255_18, e4255_19, e4255_20, hE4255, b4255_g2210, b4255_g2213, b4255_A4107, b4255_g2217, b4255_A2497, b4255_A3483, b4255_A4116⟩ hs Q4254 hn4254 hp4254 hz4254
          have hs : ref26_Read_b4 n3485 rings3488 i3490 r3960 c4109 c4111 c4112 refs4115 l4118 j4121 = some zz4254 := hs
          refine fl_seq (fun Q4256 hn4256 hp4256 => ?_)
          obtain ⟨x4257, hx4257, hs⟩ := obind hs
          refine rg0_seq 184 own4254 [0, 0, 3, 7, 15, 31, 63, 127] [⟨[], [20], [], Fct.val 127 (.int .i64 j4121)⟩, ⟨[], [19], [], Fct.val 128 (.int .i64 r3960.2)⟩, ⟨[0, 1], [], [], Fct.val 129 (.bool (decide (j4121 < r3960.2)))⟩, ⟨[2], [], [], Fct.val 130 (.bool (decide (j4121 < r3960.2)))⟩, ⟨[3], [5], [], Fct.cond (decide (j4121 < r3960.2)) (some 131) (Fct.val 131 (.pointer (some ⟨g2213, 2, none⟩)))⟩, ⟨[3, 4], [], [], Fct.cond (decide (j4121 < r3960.2)) (some 132) (Fct.val 132 (.int .i64 c4112))⟩, ⟨[3, 5], [], [], Fct.cond (decide (j4121 < r3960.2)) (some 133) (Fct.val 133 (.bool (decide (c4112 = 0))))⟩, ⟨[3, 6], [], [], Fct.val 134 (.bool x4257)⟩] hz4255 hd4255 (by kernel_rfl) ?_ ?_
          · refine sc (fun _ _ _ _ s _ => px (or_move (s.1.trans e4255_20))) ?_
            refine sc (fun _ _ _ _ s _ => px (or_move (s.1.trans e4255_19))) ?_
            refine sc (fun _ _ _ f _ _ => px (or_lss f.1 f.2.1 rfl)) ?_
            refine sc (fun _ _ _ f _ _ => px (or_move f.1)) ?_
            refine sc (fun _ _ _ f s _ => sg_t rfl rfl rfl f.1 (fun hg => or_field fo72_2 (s.1.trans e4255_5) (by rfl))) ?_
            refine sc (fun _ _ _ f _ hE => sg_t rfl rfl rfl f.1 (fun hg => or_load1 to3 (f.2.1.1 hg) (Blk.at_ (be_ hE b4255_g2213).2 2 rfl))) ?_
            refine sc (fun _ _ _ f _ _ => sg_t rfl rfl rfl f.1 (fun hg => or_eql (f.2.1.1 hg) rfl rfl)) ?_
            refine sc (fun _ _ _ f _ _ => px (or_and f.1 (fun hx => f.2.1.1 hx) rfl (osome hx4257).symm)) ?_
            exact steps_nil
          intro own4258 a4258 w4258 hd4258 hz4258 hk4258 hf4258 hE4258
          have e4258_2 := (hk4258 2 rfl).trans e4255_2
          have e4258_5 := (hk4258 5 rfl).trans e4255_5
          have e4258_6 := (hk4258 6 rfl).trans e4255_6
          have e4258_9 := (hk4258 9 rfl).trans e4255_9
          have e4258_10 := (hk4258 10 rfl).trans e4255_10
          have e4258_16 := (hk4258 16 rfl).trans e4255_16
          have e4258_17 := (hk4258 17 rfl).trans e4255_17
          have e4258_18 := (hk4258 18 rfl).trans e4255_18
          have e4258_19 := (hk4258 19 rfl).trans e4255_19
          have e4258_20 := (hk4258 20 rfl).trans e4255_20
          obtain ⟨(e4258_134 : a4258.eval (.tmp 134) = .bool x4257), -⟩ := hf4258 [7] rfl
          have hX4258 := es_ hE4255 hE4258
          have b4258_g2210 := be_ hE4258 b4255_g2210
          have b4258_g2213 := be_ hE4258 b4255_g2213
          have b4258_A4107 := RdO.evo rfl hE4258 b4255_A4107
          have b4258_g2217 := be_ hE4258 b4255_g2217
          have b4258_A2497 := re_ hE4258 b4255_A2497
          have b4258_A3483 := re_ hE4258 b4255_A3483
          have b4258_A4116 := RwN.evo rfl hE4258 b4255_A4116
          refine fl_cond e4258_134 hs (fun c4259 hs => ?_) (fun c4259 hs => ?_)
          · refine fl_skip ?_
            refine hn4256 _ _ ?_
            refine fl_seq (fun Q4260 hn4260 hp4260 => ?_)
            refine fl_block (fun Q4261 hn4261 hx4261 hp4261 => ?_)
            refine rg0_seq 184 own4258 (bz 1) [⟨[], [], [], Fct.val 21 (.slice none 0 0)⟩] hz4258 hd4258 (by kernel_rfl) ?_ ?_
            · refine sc (fun _ _ _ _ _ _ => px (or_assign rfl)) ?_
              exact steps_nil
            intro own4262 a4262 w4262 hd4262 hz4262 hk4262 hf4262 hE4262
            have e4262_2 := (hk4262 2 rfl).trans e4258_2
            have e4262_5 := (hk4262 5 rfl).trans e4258_5
            have e4262_6 := (hk4262 6 rfl).trans e4258_6
            have e4262_9 := (hk4262 9 rfl).trans e4258_9
            have e4262_10 := (hk4262 10 rfl).trans e4258_10
            have e4262_16 := (hk4262 16 rfl).trans e4258_16
            have e4262_17 := (hk4262 17 rfl).trans e4258_17
            have e4262_18 := (hk4262 18 rfl).trans e4258_18
            have e4262_19 := (hk4262 19 rfl).trans e4258_19
            have e4262_20 := (hk4262 20 rfl).trans e4258_20
            obtain ⟨(e4262_21 : a4262.eval (.tmp 21) = .slice none 0 0), -⟩ := hf4262 [0] rfl
            have hX4262 := es_ hX4258 hE4262
            have b4262_g2210 := be_ hE4262 b4258_g2210
            have b4262_g2213 := be_ hE4262 b4258_g2213
            have b4262_A4107 := RdO.evo rfl hE4262 b4258_A4107
            have b4262_g2217 := be_ hE4262 b4258_g2217
            have b4262_A2497 := re_ hE4262 b4258_A2497
            have b4262_A3483 := re_ hE4262 b4258_A3483
            have b4262_A4116 := RwN.evo rfl hE4262 b4258_A4116
            refine rg0_seq 184 own4262 (bz 1) [⟨[], [], [], Fct.val 22 (.int .i64 0)⟩] hz4262 hd4262 (by kernel_rfl) ?_ ?_
            · refine sc (fun _ _ _ _ _ _ => px (or_assign rfl)) ?_
              exact steps_nil
            intro own4263 a4263 w4263 hd4263 hz4263 hk4263 hf4263 hE4263
            have e4263_2 := (hk4263 2 rfl).trans e4262_2
            have e4263_5 := (hk4263 5 rfl).trans e4262_5
            have e4263_6 := (hk4263 6 rfl).trans e4262_6
            have e4263_9 := (hk4263 9 rfl).trans e4262_9
            have e4263_10 := (hk4263 10 rfl).trans e4262_10
            have e4263_16 := (hk4263 16 rfl).trans e4262_16
            have e4263_17 := (hk4263 17 rfl).trans e4262_17
            have e4263_18 := (hk4263 18 rfl).trans e4262_18
            have e4263_19 := (hk4263 19 rfl).trans e4262_19
            have e4263_20 := (hk4263 20 rfl).trans e4262_20
            have e4263_21 := (hk4263 21 rfl).trans e4262_21
            have hX4263 := es_ hX4262 hE4263
            have b4263_g2210 := be_ hE4263 b4262_g2210
            have b4263_g2213 := be_ hE4263 b4262_g2213
            have b4263_A4107 := RdO.evo rfl hE4263 b4262_A4107
            have b4263_g2217 := be_ hE4263 b4262_g2217
            have b4263_A2497 := re_ hE4263 b4262_A2497
            have b4263_A3483 := re_ hE4263 b4262_A3483
            have b4263_A4116 := RwN.evo rfl hE4263 b4262_A4116
            obtain ⟨r4268, hr4268, hs⟩ := obind hs
            refine rg_plain_seq (n := 184) (rs := [Fct.at_ 4106 g2213 72 #[.slice A4107 c4109.length c4108, .int .i64 c4111, .int .i64 c4112]]) (own0 := own4263) (K := [4106]) (bs := [0, 0, 3, 7, 15, 15, 31, 127]) (ds := [⟨[8], [5], [], Fct.val 138 (.agg #[.slice A4107 c4109.length c4108, .int .i64 c4111, .int .i64 c4112])⟩, ⟨[], [10], [], Fct.val 139 (.int .i64 refs4115)⟩, ⟨[0, 1], [], [], Fct.mems [4270, 4271, 0, 4110] 140 (fun (x : Option Addr × Nat) => .tuple #[.agg #[.slice x.1 r4268.1.1.length x.2, .int .i64 r4268.1.2.1, .int .i64 r4268.1.2.2], .int .i64 r4268.2]) (fun (x : Option Addr × Nat) own w => RdO own [4270, 4271, 0, 4110] w R5 x.1 x.2 r4268.1.1) (fun hk he h => RdO.evo (hits_sub hk (by decide)) he h)⟩, ⟨[2], [], [], Fct.rel [137, 140] (fun l => ∀ (A4269 : Option Addr) (cA4269 : Nat), l.getD 1 undef = .tuple #[.agg #[.slice A4269 r4268.1.1.length cA4269, .int .i64 r4268.1.2.1, .int .i64 r4268.1.2.2], .int .i64 r4268.2] → l.getD 0 undef = .tuple #[.agg #[.slice A4269 r4268.1.1.length cA4269, .int .i64 r4268.1.2.1, .int .i64 r4268.1.2.2], .int .i64 r4268.2])⟩, ⟨[3, 2], [], [], Fct.rel [141, 140] (fun l => ∀ (A4269 : Option Addr) (cA4269 : Nat), l.getD 1 undef = .tuple #[.agg #[.slice A4269 r4268.1.1.length cA4269, .int .i64 r4268.1.2.1, .int .i64 r4268.1.2.2], .int .i64 r4268.2] → l.getD 0 undef = .agg #[.slice A4269 r4268.1.1.length cA4269, .int .i64 r4268.1.2.1, .int .i64 r4268.1.2.2])⟩, ⟨[3, 2], [], [], Fct.val 142 (.int .i64 r4268.2)⟩, ⟨[4, 2, 8], [5], [4106], Fct.by_ [4272] [140] (fun l own w => ∀ (A4269 : Option Addr) (cA4269 : Nat), l.getD 0 undef = .tuple #[.agg #[.slice A4269 r4268.1.1.length cA4269, .int .i64 r4268.1.2.1, .int .i64 r4268.1.2.2], .int .i64 r4268.2] → BlkO own 4272 w g2213 72 #[.slice A4269 r4268.1.1.length cA4269, .int .i64 r4268.1.2.1, .int .i64 r4268.1.2.2]) (fun hk he h _ _ h0' => BlkO.evo (not_hit hk (by decide)) he (h _ _ h0'))⟩, ⟨[5], [], [], Fct.val 22 (.int .i64 r4268.2)⟩]) (by kernel_rfl) hz4263 hd4263 (by simp only [List.forall_mem_cons]; exact ⟨b4263_g2213, fun _ h => nomatch h⟩) ?_ ?_
            · refine sc (fun own a wx hf hsl hE => ?_) ?_
              · obtain ⟨(b_g2213 : BlkO own 4106 wx g2213 72 #[.slice A4107 c4109.length c4108, .int .i64 c4111, .int .i64 c4112]), -⟩ := hf
                obtain ⟨s_5, -⟩ := hsl
                exact px (or_load (l := [.slice A4107 c4109.length c4108, .int .i64 c4111, .int .i64 c4112]) ta72 (s_5.trans e4263_5) (Blk.cellsFrom b_g2213.2 0 rfl) rfl)
              refine sc (fun _ _ _ _ s _ => px (or_move (s.1.trans e4263_10))) ?_
              refine sc (fun own _ _ f _ hE => px (or_call cf26 (args3 f.1 f.2.1 rfl) (ref26_Up_w _ (forth own (inL [0, 4110])) (c4109, c4111, c4112) A4107 c4108 refs4115 6 inL_le (RdO.alias_ (La := [0, 4110]) (RdO.evo rfl hE b4263_A4107) (by decide)) r4268 hr4268) (post_alias (La := [0, 4110]) (m' := (look0 [(1, 4270), (2, 4271)])) (fun own' w' a' x ho hsz h1 h => ⟨x, h1, RdO.backN_ ho hsz h (by decide) (by decide) (by decide)⟩)))) ?_
              refine sc (fun own a wx hf hsl hE => ?_) ?_
              · obtain ⟨⟨⟨A4269, cA4269⟩, (f_140 : a.eval (.tmp 140) = .tuple #[.agg #[.slice A4269 r4268.1.1.length cA4269, .int .i64 r4268.1.2.1, .int .i64 r4268.1.2.2], .int .i64 r4268.2]), b_A4269⟩, -⟩ := hf
                exact px (or_mono (f := Fct.val 137 (.tuple #[.agg #[.slice A4269 r4268.1.1.length cA4269, .int .i64 r4268.1.2.1, .int .i64 r4268.1.2.2], .int .i64 r4268.2])) (or_move f_140) (fun own' a' w' v' hp h => fun _ _ h0' => by cases (f_140.symm.trans ((hp.2 140 (by decide)).symm.trans h0')); exact h))
              refine sc (fun own a wx hf hsl hE => ?_) ?_
              · obtain ⟨(q_137 : ∀ (A4269 : Option Addr) (cA4269 : Nat), a.eval (.tmp 140) = .tuple #[.agg #[.slice A4269 r4268.1.1.length cA4269, .int .i64 r4268.1.2.1, .int .i64 r4268.1.2.2], .int .i64 r4268.2] → a.eval (.tmp 137) = .tuple #[.agg #[.slice A4269 r4268.1.1.length cA4269, .int .i64 r4268.1.2.1, .int .i64 r4268.1.2.2], .int .i64 r4268.2]), ⟨⟨A4269, cA4269⟩, (f_140 : a.eval (.tmp 140) = .tuple #[.agg #[.slice A4269 r4268.1.1.length cA4269, .int .i64 r4268.1.2.1, .int .i64 r4268.1.2.2], .int .i64 r4268.2]), b_A4269⟩, -⟩ := hf
                have f_137 := q_137 _ _ f_140
                exact px (or_mono (f := Fct.val 141 (.agg #[.slice A4269 r4268.1.1.length cA4269, .int .i64 r4268.1.2.1, .int .i64 r4268.1.2.2])) (or_k [(137, .tuple #[.agg #[.slice A4269 r4268.1.1.length cA4269, .int .i64 r4268.1.2.1, .int .i64 r4268.1.2.2], .int .i64 r4268.2])] rfl rfl ⟨f_137, trivial⟩ (by kernel_rfl)) (fun own' a' w' v' hp h => fun _ _ h0' => by cases (f_140.symm.trans ((hp.2 140 (by decide)).symm.trans h0')); exact h))
              refine sc (fun own a wx hf hsl hE => ?_) ?_
              · obtain ⟨(q_137 : ∀ (A4269 : Option Addr) (cA4269 : Nat), a.eval (.tmp 140) = .tuple #[.agg #[.slice A4269 r4268.1.1.length cA4269, .int .i64 r4268.1.2.1, .int .i64 r4268.1.2.2], .int .i64 r4268.2] → a.eval (.tmp 137) = .tuple #[.agg #[.slice A4269 r4268.1.1.length cA4269, .int .i64 r4268.1.2.1, .int .i64 r4268.1.2.2], .int .i64 r4268.2]), ⟨⟨A4269, cA4269⟩, f_140, b_A4269⟩, -⟩ := hf
                have f_137 := q_137 _ _ f_140
                exact px (or_k [(137, .tuple #[.agg #[.slice A4269 r4268.1.1.length cA4269, .int .i64 r4268.1.2.1, .int .i64 r4268.1.2.2], .int .i64 r4268.2])] rfl rfl ⟨f_137, trivial⟩ (by kernel_rfl))
              refine sc (fun own a wx hf hsl hE => ?_) ?_
              · obtain ⟨(q_141 : ∀ (A4269 : Option Addr) (cA4269 : Nat), a.eval (.tmp 140) = .tuple #[.agg #[.slice A4269 r4268.1.1.length cA4269, .int .i64 r4268.1.2.1, .int .i64 r4268.1.2.2], .int .i64 r4268.2] → a.eval (.tmp 141) = .agg #[.slice A4269 r4268.1.1.length cA4269, .int .i64 r4268.1.2.1, .int .i64 r4268.1.2.2]), ⟨⟨A4269, cA4269⟩, (f_140 : a.eval (.tmp 140) = .tuple #[.agg #[.slice A4269 r4268.1.1.length cA4269, .int .i64 r4268.1.2.1, .int .i64 r4268.1.2.2], .int .i64 r4268.2]), b_A4269⟩, b_g2213, -⟩ := hf
                have f_141 := q_141 _ _ f_140
                obtain ⟨s_5, -⟩ := hsl
                exact px (or_store (l := #[.slice A4269 r4268.1.1.length cA4269, .int .i64 r4268.1.2.1, .int .i64 r4268.1.2.2]) (lab := 4106) (lab2 := 4272) ts72 (s_5.trans e4263_5) f_141 b_g2213 (by simp) (by kernel_rfl) (mem_of rfl) (by decide) (by kernel_rfl) (fun own' a' w' ha hb => fun _ _ h0' => by cases (f_140.symm.trans ((ha 140).symm.trans h0')); exact hb))
              refine sc (fun _ _ _ f _ _ => px (or_assign f.1)) ?_
              exact steps_nil
            intro own4273 a4273 w4273 hd4273 hz4273 hk4273 hf4273 hE4273
            have e4273_2 := (hk4273 2 rfl).trans e4263_2
            have e4273_5 := (hk4273 5 rfl).trans e4263_5
            have e4273_6 := (hk4273 6 rfl).trans e4263_6
            have e4273_9 := (hk4273 9 rfl).trans e4263_9
            have e4273_10 := (hk4273 10 rfl).trans e4263_10
            have e4273_16 := (hk4273 16 rfl).trans e4263_16
            have e4273_17 := (hk4273 17 rfl).trans e4263_17
            have e4273_18 := (hk4273 18 rfl).trans e4263_18
            have e4273_19 := (hk4273 19 rfl).trans e4263_19
            have e4273_20 := (hk4273 20 rfl).trans e4263_20
            have e4273_21 := (hk4273 21 rfl).trans e4263_21
            obtain ⟨(e4273_22 : a4273.eval (.tmp 22) = .int .i64 r4268.2), ⟨⟨A4269, cA4269⟩, (f_140 : a4273.eval (.tmp 140) = .tuple #[.agg #[.slice A4269 r4268.1.1.length cA4269, .int .i64 r4268.1.2.1, .int .i64 r4268.1.2.2], .int .i64 r4268.2]), (b4273_A4269 : RdO own4273 [4270, 4271, 0, 4110] w4273 R5 A4269 cA4269 r4268.1.1)⟩, (bq_g2213 : ∀ (A4269 : Option Addr) (cA4269 : Nat), a4273.eval (.tmp 140) = .tuple #[.agg #[.slice A4269 r4268.1.1.length cA4269, .int .i64 r4268.1.2.1, .int .i64 r4268.1.2.2], .int .i64 r4268.2] → BlkO own4273 4272 w4273 g2213 72 #[.slice A4269 r4268.1.1.length cA4269, .int .i64 r4268.1.2.1, .int .i64 r4268.1.2.2]), -⟩ := hf4273 [7, 2, 6] rfl
            have b4273_g2213 := bq_g2213 _ _ f_140
            have hX4273 := es_ hX4263 hE4273
            have b4273_g2210 := be_ hE4273 b4263_g2210
            have b4273_g2217 := be_ hE4273 b4263_g2217
            have b4273_A2497 := re_ hE4273 b4263_A2497
            have b4273_A3483 := re_ hE4273 b4263_A3483
            have b4273_A4116 := RwN.evo rfl hE4273 b4263_A4116
            refine rg0_seq 184 own4273 [0, 0, 3, 7] [⟨[], [10], [], Fct.val 143 (.int .i64 refs4115)⟩, ⟨[], [22], [], Fct.val 144 (.int .i64 r4268.2)⟩, ⟨[0, 1], [], [], Fct.val 145 (.int .i64 (sb refs4115 r4268.2))⟩, ⟨[2], [], [], Fct.val 10 (.int .i64 (sb refs4115 r4268.2))⟩] hz4273 hd4273 (by kernel_rfl) ?_ ?_
            · refine sc (fun _ _ _ _ s _ => px (or_move (s.1.trans e4273_10))) ?_
              refine sc (fun _ _ _ _ s _ => px (or_move (s.1.trans e4273_22))) ?_
              refine sc (fun _ _ _ f _ _ => px (or_sub f.1 f.2.1 rfl)) ?_
              refine sc (fun _ _ _ f _ _ => px (or_assign f.1)) ?_
              exact steps_nil
            intro own4274 a4274 w4274 hd4274 hz4274 hk4274 hf4274 hE4274
            have e4274_2 := (hk4274 2 rfl).trans e4273_2
            have e4274_5 := (hk4274 5 rfl).trans e4273_5
            have e4274_6 := (hk4274 6 rfl).trans e4273_6
            have e4274_9 := (hk4274 9 rfl).trans e4273_9
            have e4274_16 := (hk4274 16 rfl).trans e4273_16
            have e4274_17 := (hk4274 17 rfl).trans e4273_17
            have e4274_18 := (hk4274 18 rfl).trans e4273_18
            have e4274_19 := (hk4274 19 rfl).trans e4273_19
            have e4274_20 := (hk4274 20 rfl).trans e4273_20
            have e4274_21 := (hk4274 21 rfl).trans e4273_21
            have e4274_22 := (hk4274 22 rfl).trans e4273_22
            obtain ⟨(e4274_10 : a4274.eval (.tmp 10) = .int .i64 (sb refs4115 r4268.2)), -⟩ := hf4274 [3] rfl
            have hX4274 := es_ hX4273 hE4274
            have b4274_g2210 := be_ hE4274 b4273_g2210
            have b4274_g2217 := be_ hE4274 b4273_g2217
            have b4274_A2497 := re_ hE4274 b4273_A2497
            have b4274_A3483 := re_ hE4274 b4273_A3483
            have b4274_A4116 := RwN.evo rfl hE4274 b4273_A4116
            have b4274_g2213 := be_ hE4274 b4273_g2213
            have b4274_A4269 := RdO.evo rfl hE4274 b4273_A4269
            refine fl_seq (fun Q4275 hn4275 hp4275 => ?_)
            refine rg0_seq 184 own4274 (bz 1) [⟨[], [], [], Fct.val 23 (.int .i64 0)⟩] hz4274 hd4274 (by kernel_rfl) ?_ ?_
            · refine sc (fun _ _ _ _ _ _ => px (or_assign rfl)) ?_
              exact steps_nil
            intro own4276 a4276 w4276 hd4276 hz4276 hk4276 hf4276 hE4276
            have e4276_2 := (hk4276 2 rfl).trans e4274_2
            have e4276_5 := (hk4276 5 rfl).trans e4274_5
            have e4276_6 := (hk4276 6 rfl).trans e4274_6
            have e4276_9 := (hk4276 9 rfl).trans e4274_9
            have e4276_10 := (hk4276 10 rfl).trans e4274_10
            have e4276_16 := (hk4276 16 rfl).trans e4274_16
            have e4276_17 := (hk4276 17 rfl).trans e4274_17
            have e4276_18 := (hk4276 18 rfl).trans e4274_18
            have e4276_19 := (hk4276 19 rfl).trans e4274_19
            have e4276_20 := (hk4276 20 rfl).trans e4274_20
            have e4276_21 := (hk4276 21 rfl).trans e4274_21
            have e4276_22 := (hk4276 22 rfl).trans e4274_22
            obtain ⟨(e4276_23 : a4276.eval (.tmp 23) = .int .i64 0), -⟩ := hf4276 [0] rfl
            have hX4276 := es_ hX4274 hE4276
            have b4276_g2210 := be_ hE4276 b4274_g2210
            have b4276_g2217 := be_ hE4276 b4274_g2217
            have b4276_A2497 := re_ hE4276 b4274_A2497
            have b4276_A3483 := re_ hE4276 b4274_A3483
            have b4276_A4116 := RwN.evo rfl hE4276 b4274_A4116
            have b4276_g2213 := be_ hE4276 b4274_g2213
            have b4276_A4269 := RdO.evo rfl hE4276 b4274_A4269
            refine fl_block (fun Q4277 hn4277 hx4277 hp4277 => ?_)
            refine fl_loop (body := (fun s => ref26_Read_b5 refs4115 l4118 j4121 r4268 s.1 s.2.1 s.2.2.1 s.2.2.2.1 s.2.2.2.2)) (z := zz4254) (show loopO _ _ = _ from hs) (fun (s : (List Int) × Int × Int × (List Int) × Int) a wx => match s with | (c4309, c4311, c4312, r4317, x4319) => ∃ (ox : Own) (A4307 : Option Addr) (c4308 : Nat) (A4315 : Option Addr) (c4316 : Nat), a.defers = [] ∧ a.tmps.size = 184 ∧ a.eval (.tmp 2) = .pointer (some ⟨g2210, 0, none⟩) ∧ a.eval (.tmp 5) = .pointer (some ⟨g2213, 0, none⟩) ∧ a.eval (.tmp 6) = .pointer (some ⟨g2217, 0, none⟩) ∧ a.eval (.tmp 9) = .int .i64 (sb rings3488 r3960.2) ∧ a.eval (.tmp 10) = .int .i64 (sb refs4115 r4268.2) ∧ a.eval (.tmp 16) = .int .i64 r3017.2 ∧ a.eval (.tmp 17) = .int .i64 i3490 ∧ a.eval (.tmp 18) = .slice A4116 l4118.length c4117 ∧ a.eval (.tmp 19) = .int .i64 r3960.2 ∧ a.eval (.tmp 20) = .int .i64 j4121 ∧ a.eval (.tmp 21) = .slice A4315 r4317.length c4316 ∧ a.eval (.tmp 22) = .int .i64 r4268.2 ∧ a.eval (.tmp 23) = .int .i64 x4319 ∧ Evo [] (fun _ => 0) ox w wx ∧ BlkO ox 2211 wx g2210 38 #[.slice none 0 0, .slice none 0 0] ∧ BlkO ox 4306 wx g2213 72 #[.slice A4307 c4309.length c4308, .int .i64 c4311, .int .i64 c4312] ∧ RdO ox [0, 4310] wx R5 A4307 c4308 c4309 ∧ BlkO ox 3481 wx g2217 38 #[.slice A2497 n2499.length c2498, .slice A3483 n3485.length c3484] ∧ RwO ox 2500 [4313] wx 78 R78 A2497 c2498 n2499 ∧ RwO ox 3486 [4314] wx 27 R27 A3483 c3484 n3485 ∧ RwN ox 4119 4120 [] wx 28 3 R3 A4116 c4117 l4118 ∧ RwO ox 4318 [] wx 3 R3 A4315 c4316 r4317) ?_ ?_
            · exact ⟨(rl [(4110, 4310), (4113, 4313), (4114, 4314), (4270, 4310), (4271, 4310), (4272, 4306)] own4276), A4269, cA4269, none, 0, hd4276, hz4276, e4276_2, e4276_5, e4276_6, e4276_9, e4276_10, e4276_16, e4276_17, e4276_18, e4276_19, e4276_20, e4276_21, e4276_22, e4276_23, (Evo.rl_ hX4276 (fun _ => Nat.le_refl 0) rfl), (BlkO.rl_ (mm := [(4110, 4310), (4113, 4313), (4114, 4314), (4270, 4310), (4271, 4310), (4272, 4306)]) b4276_g2210), (BlkO.rl_ (mm := [(4110, 4310), (4113, 4313), (4114, 4314), (4270, 4310), (4271, 4310), (4272, 4306)]) b4276_g2213), (RdO.more (RdO.rl_ (mm := [(4110, 4310), (4113, 4313), (4114, 4314), (4270, 4310), (4271, 4310), (4272, 4306)]) b4276_A4269) (by decide)), (BlkO.rl_ (mm := [(4110, 4310), (4113, 4313), (4114, 4314), (4270, 4310), (4271, 4310), (4272, 4306)]) b4276_g2217), (RwO.rl_ (mm := [(4110, 4310), (4113, 4313), (4114, 4314), (4270, 4310), (4271, 4310), (4272, 4306)]) b4276_A2497), (RwO.rl_ (mm := [(4110, 4310), (4113, 4313), (4114, 4314), (4270, 4310), (4271, 4310), (4272, 4306)]) b4276_A3483), (RwN.rl_ (mm := [(4110, 4310), (4113, 4313), (4114, 4314), (4270, 4310), (4271, 4310), (4272, 4306)]) b4276_A4116), RwO.nil_⟩
            · rintro ⟨c4309, c4311, c4312, r4317, x4319⟩ zz4347 a4347 w4347 ⟨own4347, A4307, c4308, A4315, c4316, hd4348, hz4348, e4348_2, e4348_5, e4348_6, e4348_9, e4348_10, e4348_16, e4348_17, e4348_18, e4348_19, e4348_20, e4348_21, e4348_22, e4348_23, hE4348, b4348_g2210, b4348_g2213, b4348_A4307, b4348_g2217, b4348_A2497, b4348_A3483, b4348_A4116, b4348_A4315⟩ hs Q4347 hn4347 hp4347 hz4347
              have hs : ref26_Read_b5 refs4115 l4118 j4121 r4268 c4309 c4311 c4312 r4317 x4319 = some zz4347 := hs
              refine fl_seq (fun Q4349 hn4349 hp4349 => ?_)
              obtain ⟨x4350, hx4350, hs⟩ := obind hs
              refine rg0_seq 184 own4347 [0, 0, 3, 7, 15, 31, 63, 127] [⟨[], [23], [], Fct.val 146 (.int .i64 x4319)⟩, ⟨[], [22], [], Fct.val 147 (.int .i64 r4268.2)⟩, ⟨[0, 1], [], [], Fct.val 148 (.bool (decide (x4319 < r4268.2)))⟩, ⟨[2], [], [], Fct.val 149 (.bool (decide (x4319 < r4268.2)))⟩, ⟨[3], [5], [], Fct.cond (decide (x4319 < r4268.2)) (some 150) (Fct.val 150 (.pointer (some ⟨g2213, 2, none⟩)))⟩, ⟨[3, 4], [], [], Fct.cond (decide (x4319 < r4268.2)) (some 151) (Fct.val 151 (.int .i64 c4312))⟩, ⟨[3, 5], [], [], Fct.cond (decide (x4319 < r4268.2)) (some 152) (Fct.val 152 (.bool (decide (c4312 = 0))))⟩, ⟨[3, 6], [], [], Fct.val 153 (.bool x4350)⟩] hz4348 hd4348 (by kernel_rfl) ?_ ?_
              · refine sc (fun _ _ _ _ s _ => px (or_move (s.1.trans e4348_23))) ?_
                refine sc (fun _ _ _ _ s _ => px (or_move (s.1.trans e4348_22))) ?_
                refine sc (fun _ _ _ f _ _ => px (or_lss f.1 f.2.1 rfl)) ?_
                refine sc (fun _ _ _ f _ _ => px (or_move f.1)) ?_
                refine sc (fun _ _ _ f s _ => sg_t rfl rfl rfl f.1 (fun hg => or_field fo72_2 (s.1.trans e4348_5) (by rfl))) ?_
                refine sc (fun _ _ _ f _ hE => sg_t rfl rfl rfl f.1 (fun hg => or_load1 to3 (f.2.1.1 hg) (Blk.at_ (be_ hE b4348_g2213).2 2 rfl))) ?_
                refine sc (fun _ _ _ f _ _ => sg_t rfl rfl rfl f.1 (fun hg => or_eql (f.2.1.1 hg) rfl rfl)) ?_
                refine sc (fun _ _ _ f _ _ => px (or_and f.1 (fun hx => f.2.1.1 hx) rfl (osome hx4350).symm)) ?_
                exact steps_nil
              intro own4351 a4351 w4351 hd4351 hz4351 hk4351 hf4351 hE4351
              have e4351_2 := (hk4351 2 rfl).trans e4348_2
              have e4351_5 := (hk4351 5 rfl).trans e4348_5
              have e4351_6 := (hk4351 6 rfl).trans e4348_6
              have e4351_9 := (hk4351 9 rfl).trans e4348_9
              have e4351_10 := (hk4351 10 rfl).trans e4348_10
              have e4351_16 := (hk4351 16 rfl).trans e4348_16
              have e4351_17 := (hk4351 17 rfl).trans e4348_17
              have e4351_18 := (hk4351 18 rfl).trans e4348_18
              have e4351_19 := (hk4351 19 rfl).trans e4348_19
              have e4351_20 := (hk4351 20 rfl).trans e4348_20
              have e4351_21 := (hk4351 21 rfl).trans e4348_21
              have e4351_22 := (hk4351 22 rfl).trans e4348_22
              have e4351_23 := (hk4351 23 rfl).trans e4348_23
              obtain ⟨(e4351_153 : a4351.eval (.tmp 153) = .bool x4350), -⟩ := hf4351 [7] rfl
              have hX4351 := es_ hE4348 hE4351
              have b4351_g2210 := be_ hE4351 b4348_g2210
              have b4351_g2213 := be_ hE4351 b4348_g2213
              have b4351_A4307 := RdO.evo rfl hE4351 b4348_A4307
              have b4351_g2217 := be_ hE4351 b4348_g2217
              have b4351_A2497 := re_ hE4351 b4348_A2497
              have b4351_A3483 := re_ hE4351 b4348_A3483
              have b4351_A4116 := RwN.evo rfl hE4351 b4348_A4116
              have b4351_A4315 := re_ hE4351 b4348_A4315
              refine fl_cond e4351_153 hs (fun c4352 hs => ?_) (fun c4352 hs => ?_)
              · refine fl_skip ?_
                refine hn4349 _ _ ?_
                refine fl_seq (fun Q4353 hn4353 hp4353 => ?_)
                refine fl_block (fun Q4354 hn4354 hx4354 hp4354 => ?_)
                refine rg0_seq 184 own4351 (bz 1) [⟨[], [], [], Fct.val 24 (.int .i64 0)⟩] hz4351 hd4351 (by kernel_rfl) ?_ ?_
                · refine sc (fun _ _ _ _ _ _ => px (or_assign rfl)) ?_
                  exact steps_nil
                intro own4355 a4355 w4355 hd4355 hz4355 hk4355 hf4355 hE4355
                have e4355_2 := (hk4355 2 rfl).trans e4351_2
                have e4355_5 := (hk4355 5 rfl).trans e4351_5
                have e4355_6 := (hk4355 6 rfl).trans e4351_6
                have e4355_9 := (hk4355 9 rfl).trans e4351_9
                have e4355_10 := (hk4355 10 rfl).trans e4351_10
                have e4355_16 := (hk4355 16 rfl).trans e4351_16
                have e4355_17 := (hk4355 17 rfl).trans e4351_17
                have e4355_18 := (hk4355 18 rfl).trans e4351_18
                have e4355_19 := (hk4355 19 rfl).trans e4351_19
                have e4355_20 := (hk4355 20 rfl).trans e4351_20
                have e4355_21 := (hk4355 21 rfl).trans e4351_21
                have e4355_22 := (hk4355 22 rfl).trans e4351_22
                have e4355_23 := (hk4355 23 rfl).trans e4351_23
                have hX4355 := es_ hX4351 hE4355
                have b4355_g2210 := be_ hE4355 b4351_g2210
                have b4355_g2213 := be_ hE4355 b4351_g2213
                have b4355_A4307 := RdO.evo rfl hE4355 b4351_A4307
                have b4355_g2217 := be_ hE4355 b4351_g2217
                have b4355_A2497 := re_ hE4355 b4351_A2497
                have b4355_A3483 := re_ hE4355 b4351_A3483
                have b4355_A4116 := RwN.evo rfl hE4355 b4351_A4116
                have b4355_A4315 := re_ hE4355 b4351_A4315
                obtain ⟨r4360, hr4360, hs⟩ := obind hs
                refine rg_plain_seq (n := 184) (rs := [Fct.at_ 4306 g2213 72 #[.slice A4307 c4309.length c4308, .int .i64 c4311, .int .i64 c4312]]) (own0 := own4355) (K := [4306]) (bs := [0, 1, 3, 7, 7, 15, 63]) (ds := [⟨[7], [5], [], Fct.val 157 (.agg #[.slice A4307 c4309.length c4308, .int .i64 c4311, .int .i64 c4312])⟩, ⟨[0], [], [], Fct.mems [4362, 4363, 0, 4310] 158 (fun (x : Option Addr × Nat) => .tuple #[.agg #[.slice x.1 r4360.1.1.length x.2, .int .i64 r4360.1.2.1, .int .i64 r4360.1.2.2], .int .i64 r4360.2]) (fun (x : Option Addr × Nat) own w => RdO own [4362, 4363, 0, 4310] w R5 x.1 x.2 r4360.1.1) (fun hk he h => RdO.evo (hits_sub hk (by decide)) he h)⟩, ⟨[1], [], [], Fct.rel [156, 158] (fun l => ∀ (A4361 : Option Addr) (cA4361 : Nat), l.getD 1 undef = .tuple #[.agg #[.slice A4361 r4360.1.1.length cA4361, .int .i64 r4360.1.2.1, .int .i64 r4360.1.2.2], .int .i64 r4360.2] → l.getD 0 undef = .tuple #[.agg #[.slice A4361 r4360.1.1.length cA4361, .int .i64 r4360.1.2.1, .int .i64 r4360.1.2.2], .int .i64 r4360.2])⟩, ⟨[2, 1], [], [], Fct.rel [159, 158] (fun l => ∀ (A4361 : Option Addr) (cA4361 : Nat), l.getD 1 undef = .tuple #[.agg #[.slice A4361 r4360.1.1.length cA4361, .int .i64 r4360.1.2.1, .int .i64 r4360.1.2.2], .int .i64 r4360.2] → l.getD 0 undef = .agg #[.slice A4361 r4360.1.1.length cA4361, .int .i64 r4360.1.2.1, .int .i64 r4360.1.2.2])⟩, ⟨[2, 1], [], [], Fct.val 160 (.int .i64 r4360.2)⟩, ⟨[3, 1, 7], [5], [4306], Fct.by_ [4364] [158] (fun l own w => ∀ (A4361 : Option Addr) (cA4361 : Nat), l.getD 0 undef = .tuple #[.agg #[.slice A4361 r4360.1.1.length cA4361, .int .i64 r4360.1.2.1, .int .i64 r4360.1.2.2], .int .i64 r4360.2] → BlkO own 4364 w g2213 72 #[.slice A4361 r4360.1.1.length cA4361, .int .i64 r4360.1.2.1, .int .i64 r4360.1.2.2]) (fun hk he h _ _ h0' => BlkO.evo (not_hit hk (by decide)) he (h _ _ h0'))⟩, ⟨[4], [], [], Fct.val 24 (.int .i64 r4360.2)⟩]) (by kernel_rfl) hz4355 hd4355 (by simp only [List.forall_mem_cons]; exact ⟨b4355_g2213, fun _ h => nomatch h⟩) ?_ ?_
                · refine sc (fun own a wx hf hsl hE => ?_) ?_
                  · obtain ⟨(b_g2213 : BlkO own 4306 wx g2213 72 #[.slice A4307 c4309.length c4308, .int .i64 c4311, .int .i64 c4312]), -⟩ := hf
                    obtain ⟨s_5, -⟩ := hsl
                    exact px (or_load (l := [.slice A4307 c4309.length c4308, .int .i64 c4311, .int .i64 c4312]) ta72 (s_5.trans e4355_5) (Blk.cellsFrom b_g2213.2 0 rfl) rfl)
                  refine sc (fun own _ _ f _ hE => px (or_call cf27 (args4 f.1 rfl rfl rfl) (ref26_Turned_w _ (forth own (inL [0, 4310])) (c4309, c4311, c4312) A4307 c4308 0 (-65536) 65536 inL_le (RdO.alias_ (La := [0, 4310]) (RdO.evo rfl hE b4355_A4307) (by decide)) r4360 hr4360) (post_alias (La := [0, 4310]) (m' := (look0 [(1, 4362), (2, 4363)])) (fun own' w' a' x ho hsz h1 h => ⟨x, h1, RdO.backN_ ho hsz h (by decide) (by decide) (by decide)⟩)))) ?_
                  refine sc (fun own a wx hf hsl hE => ?_) ?_
                  · obtain ⟨⟨⟨A4361, cA4361⟩, (f_158 : a.eval (.tmp 158) = .tuple #[.agg #[.slice A4361 r4360.1.1.length cA4361, .int .i64 r4360.1.2.1, .int .i64 r4360.1.2.2], .int .i64 r4360.2]), b_A4361⟩, -⟩ := hf
                    exact px (or_mono (f := Fct.val 156 (.tuple #[.agg #[.slice A4361 r4360.1.1.length cA4361, .int .i64 r4360.1.2.1, .int .i64 r4360.1.2.2], .int .i64 r4360.2])) (or_move f_158) (fun own' a' w' v' hp h => fun _ _ h0' => by cases (f_158.symm.trans ((hp.2 158 (by decide)).symm.trans h0')); exact h))
                  refine sc (fun own a wx hf hsl hE => ?_) ?_
                  · obtain ⟨(q_156 : ∀ (A4361 : Option Addr) (cA4361 : Nat), a.eval (.tmp 158) = .tuple #[.agg #[.slice A4361 r4360.1.1.length cA4361, .int .i64 r4360.1.2.1, .int .i64 r4360.1.2.2], .int .i64 r4360.2] → a.eval (.tmp 156) = .tuple #[.agg #[.slice A4361 r4360.1.1.length cA4361, .int .i64 r4360.1.2.1, .int .i64 r4360.1.2.2], .int .i64 r4360.2]), ⟨⟨A4361, cA4361⟩, (f_158 : a.eval (.tmp 158) = .tuple #[.agg #[.slice A4361 r4360.1.1.length cA4361, .int .i64 r4360.1.2.1, .int .i64 r4360.1.2.2], .int .i64 r4360.2]), b_A4361⟩, -⟩ := hf
                    have f_156 := q_156 _ _ f_158
                    exact px (or_mono (f := Fct.val 159 (.agg #[.slice A4361 r4360.1.1.length cA4361, .int .i64 r4360.1.2.1, .int .i64 r4360.1.2.2])) (or_k [(156, .tuple #[.agg #[.slice A4361 r4360.1.1.length cA4361, .int .i64 r4360.1.2.1, .int .i64 r4360.1.2.2], .int .i64 r4360.2])] rfl rfl ⟨f_156, trivial⟩ (by kernel_rfl)) (fun own' a' w' v' hp h => fun _ _ h0' => by cases (f_158.symm.trans ((hp.2 158 (by decide)).symm.trans h0')); exact h))
                  refine sc (fun own a wx hf hsl hE => ?_) ?_
                  · obtain ⟨(q_156 : ∀ (A4361 : Option Addr) (cA4361 : Nat), a.eval (.tmp 158) = .tuple #[.agg #[.slice A4361 r4360.1.1.length cA4361, .int .i64 r4360.1.2.1, .int .i64 r4360.1.2.2], .int .i64 r4360.2] → a.eval (.tmp 156) = .tuple #[.agg #[.slice A4361 r4360.1.1.length cA4361, .int .i64 r4360.1.2.1, .int .i64 r4360.1.2.2], .int .i64 r4360.2]), ⟨⟨A4361, cA4361⟩, f_158, b_A4361⟩, -⟩ := hf
                    have f_156 := q_156 _ _ f_158
                    exact px (or_k [(156, .tuple #[.agg #[.slice A4361 r4360.1.1.length cA4361, .int .i64 r4360.1.2.1, .int .i64 r4360.1.2.2], .int .i64 r4360.2])] rfl rfl ⟨f_156, trivial⟩ (by kernel_rfl))
                  refine sc (fun own a wx hf hsl hE => ?_) ?_
                  · obtain ⟨(q_159 : ∀ (A4361 : Option Addr) (cA4361 : Nat), a.eval (.tmp 158) = .tuple #[.agg #[.slice A4361 r4360.1.1.length cA4361, .int .i64 r4360.1.2.1, .int .i64 r4360.1.2.2], .int .i64 r4360.2] → a.eval (.tmp 159) = .agg #[.slice A4361 r4360.1.1.length cA4361, .int .i64 r4360.1.2.1, .int .i64 r4360.1.2.2]), ⟨⟨A4361, cA4361⟩, (f_158 : a.eval (.tmp 158) = .tuple #[.agg #[.slice A4361 r4360.1.1.length cA4361, .int .i64 r4360.1.2.1, .int .i64 r4360.1.2.2], .int .i64 r4360.2]), b_A4361⟩, b_g2213, -⟩ := hf
                    have f_159 := q_159 _ _ f_158
                    obtain ⟨s_5, -⟩ := hsl
                    exact px (or_store (l := #[.slice A4361 r4360.1.1.length cA4361, .int .i64 r4360.1.2.1, .int .i64 r4360.1.2.2]) (lab := 4306) (lab2 := 4364) ts72 (s_5.trans e4355_5) f_159 b_g2213 (by simp) (by kernel_rfl) (mem_of rfl) (by decide) (by kernel_rfl) (fun own' a' w' ha hb => fun _ _ h0' => by cases (f_158.symm.trans ((ha 158).symm.trans h0')); exact hb))
                  refine sc (fun _ _ _ f _ _ => px (or_assign f.1)) ?_
                  exact steps_nil
                intro own4365 a4365 w4365 hd4365 hz4365 hk4365 hf4365 hE4365
                have e4365_2 := (hk4365 2 rfl).trans e4355_2
                have e4365_5 := (hk4365 5 rfl).trans e4355_5
                have e4365_6 := (hk4365 6 rfl).trans e4355_6
                have e4365_9 := (hk4365 9 rfl).trans e4355_9
                have e4365_10 := (hk4365 10 rfl).trans e4355_10
                have e4365_16 := (hk4365 16 rfl).trans e4355_16
                have e4365_17 := (hk4365 17 rfl).trans e4355_17
                have e4365_18 := (hk4365 18 rfl).trans e4355_18
                have e4365_19 := (hk4365 19 rfl).trans e4355_19
                have e4365_20 := (hk4365 20 rfl).trans e4355_20
                have e4365_21 := (hk4365 21 rfl).trans e4355_21
                have e4365_22 := (hk4365 22 rfl).trans e4355_22
                have e4365_23 := (hk4365 23 rfl).trans e4355_23
                obtain ⟨(e4365_24 : a4365.eval (.tmp 24) = .int .i64 r4360.2), ⟨⟨A4361, cA4361⟩, (f_158 : a4365.eval (.tmp 158) = .tuple #[.agg #[.slice A4361 r4360.1.1.length cA4361, .int .i64 r4360.1.2.1, .int .i64 r4360.1.2.2], .int .i64 r4360.2]), (b4365_A4361 : RdO own4365 [4362, 4363, 0, 4310] w4365 R5 A4361 cA4361 r4360.1.1)⟩, (bq_g2213 : ∀ (A4361 : Option Addr) (cA4361 : Nat), a4365.eval (.tmp 158) = .tuple #[.agg #[.slice A4361 r4360.1.1.length cA4361, .int .i64 r4360.1.2.1, .int .i64 r4360.1.2.2], .int .i64 r4360.2] → BlkO own4365 4364 w4365 g2213 72 #[.slice A4361 r4360.1.1.length cA4361, .int .i64 r4360.1.2.1, .int .i64 r4360.1.2.2]), -⟩ := hf4365 [6, 1, 5] rfl
                have b4365_g2213 := bq_g2213 _ _ f_158
                have hX4365 := es_ hX4355 hE4365
                have b4365_g2210 := be_ hE4365 b4355_g2210
                have b4365_g2217 := be_ hE4365 b4355_g2217
                have b4365_A2497 := re_ hE4365 b4355_A2497
                have b4365_A3483 := re_ hE4365 b4355_A3483
                have b4365_A4116 := RwN.evo rfl hE4365 b4355_A4116
                have b4365_A4315 := re_ hE4365 b4355_A4315
                obtain ⟨x4370, hx4370, hs⟩ := obind hs
                refine rg_plain (n := 184) (rs := [Fct.rowAt 4318 [] 3 R3 A4315 c4316 r4317]) (own0 := own4365) (K := [4318]) (bs := [0, 0, 2, 7, 15]) (ds := [⟨[], [21], [], Fct.val 161 (.slice A4315 r4317.length c4316)⟩, ⟨[], [24], [], Fct.val 162 (.int .i64 r4360.2)⟩, ⟨[1], [], [], Fct.row 4369 [] 163 3 R3 [r4360.2]⟩, ⟨[0, 2, 5], [], [4318], Fct.row 4371 [] 164 3 R3 x4370⟩, ⟨[3], [], [], Fct.rel [21, 164] (fun l => ∀ (A4372 : Option Addr) (cA4372 : Nat), l.getD 1 undef = .slice A4372 x4370.length cA4372 → l.getD 0 undef = .slice A4372 x4370.length cA4372)⟩]) (by kernel_rfl) hz4365 hd4365 (by simp only [List.forall_mem_cons]; exact ⟨b4365_A4315, fun _ h => nomatch h⟩) ?_ ?_
                · refine sc (fun _ _ _ _ s _ => px (or_move (s.1.trans e4365_21))) ?_
                  refine sc (fun _ _ _ _ s _ => px (or_move (s.1.trans e4365_24))) ?_
                  refine sc (fun _ _ _ f _ _ => px (or_lit (lab := 4369) (e := 3) (cs := #[.int .i64 r4360.2]) (F := E3) (or_new [(162, .int .i64 r4360.2)] rfl rfl ⟨f.1, trivial⟩ (by kernel_rfl)) rfl rfl (show 1 ≤ maxLen by decide))) ?_
                  refine sc (fun own a wx hf hsl hE => ?_) ?_
                  · obtain ⟨f_161, ⟨⟨A4368, cA4368⟩, f_163, b_A4368⟩, b_A4315, -⟩ := hf
                    exact px (or_append (R := R3) (lab := 4318) (lab2 := 4371) (L := []) (L3 := []) tp28 f_161 b_A4315 (by decide) f_163 (RwO.rd b_A4368) hx4370 (by decide) (by decide) (mem_of rfl) (.inl (Rep.fl_flat _)))
                  refine sc (fun own a wx hf hsl hE => ?_) ?_
                  · obtain ⟨⟨⟨A4372, cA4372⟩, (f_164 : a.eval (.tmp 164) = .slice A4372 x4370.length cA4372), b_A4372⟩, -⟩ := hf
                    exact px (or_mono (f := Fct.val 21 (.slice A4372 x4370.length cA4372)) (or_assign f_164) (fun own' a' w' v' hp h => fun _ _ h0' => by cases (f_164.symm.trans ((hp.2 164 (by decide)).symm.trans h0')); exact h))
                  exact steps_nil
                intro own4373 a4373 w4373 hd4373 hz4373 hk4373 hf4373 hE4373
                have e4373_2 := (hk4373 2 rfl).trans e4365_2
                have e4373_5 := (hk4373 5 rfl).trans e4365_5
                have e4373_6 := (hk4373 6 rfl).trans e4365_6
                have e4373_9 := (hk4373 9 rfl).trans e4365_9
                have e4373_10 := (hk4373 10 rfl).trans e4365_10
                have e4373_16 := (hk4373 16 rfl).trans e4365_16
                have e4373_17 := (hk4373 17 rfl).trans e4365_17
                have e4373_18 := (hk4373 18 rfl).trans e4365_18
                have e4373_19 := (hk4373 19 rfl).trans e4365_19
                have e4373_20 := (hk4373 20 rfl).trans e4365_20
                have e4373_22 := (hk4373 22 rfl).trans e4365_22
                have e4373_23 := (hk4373 23 rfl).trans e4365_23
                obtain ⟨⟨⟨A4372, cA4372⟩, (f_164 : a4373.eval (.tmp 164) = .slice A4372 x4370.length cA4372), (b4373_A4372 : RwO own4373 4371 [] w4373 3 R3 A4372 cA4372 x4370)⟩, (q_21 : ∀ (A4372 : Option Addr) (cA4372 : Nat), a4373.eval (.tmp 164) = .slice A4372 x4370.length cA4372 → a4373.eval (.tmp 21) = .slice A4372 x4370.length cA4372), -⟩ := hf4373 [3, 4] rfl
                have e4373_21 := q_21 _ _ f_164
                have hX4373 := es_ hX4365 hE4373
                have b4373_g2210 := be_ hE4373 b4365_g2210
                have b4373_g2217 := be_ hE4373 b4365_g2217
                have b4373_A2497 := re_ hE4373 b4365_A2497
                have b4373_A3483 := re_ hE4373 b4365_A3483
                have b4373_A4116 := RwN.evo rfl hE4373 b4365_A4116
                have b4373_g2213 := be_ hE4373 b4365_g2213
                have b4373_A4361 := RdO.evo rfl hE4373 b4365_A4361
                refine hn4354 _ _ ?_
                refine hn4353 _ _ ?_
                refine rg0 184 own4373 (bz 3) [⟨[], [23], [], Fct.val 154 (.int .i64 x4319)⟩, ⟨[0], [], [], Fct.val 155 (.int .i64 (ad x4319 1))⟩, ⟨[1], [], [], Fct.val 23 (.int .i64 (ad x4319 1))⟩] hz4373 hd4373 (by kernel_rfl) ?_ ?_
                · refine sc (fun _ _ _ _ s _ => px (or_move (s.1.trans e4373_23))) ?_
                  refine sc (fun _ _ _ f _ _ => px (or_add f.1 rfl rfl)) ?_
                  refine sc (fun _ _ _ f _ _ => px (or_assign f.1)) ?_
                  exact steps_nil
                intro own4374 a4374 w4374 hd4374 hz4374 hk4374 hf4374 hE4374
                have e4374_2 := (hk4374 2 rfl).trans e4373_2
                have e4374_5 := (hk4374 5 rfl).trans e4373_5
                have e4374_6 := (hk4374 6 rfl).trans e4373_6
                have e4374_9 := (hk4374 9 rfl).trans e4373_9
                have e4374_10 := (hk4374 10 rfl).trans e4373_10
                have e4374_16 := (hk4374 16 rfl).trans e4373_16
                have e4374_17 := (hk4374 17 rfl).trans e4373_17
                have e4374_18 := (hk4374 18 rfl).trans e4373_18
                have e4374_19 := (hk4374 19 rfl).trans e4373_19
                have e4374_20 := (hk4374 20 rfl).trans e4373_20
                have e4374_21 := (hk4374 21 rfl).trans e4373_21
                have e4374_22 := (hk4374 22 rfl).trans e4373_22
                obtain ⟨(e4374_23 : a4374.eval (.tmp 23) = .int .i64 (ad x4319 1)), -⟩ := hf4374 [2] rfl
                have hX4374 := es_ hX4373 hE4374
                have b4374_g2210 := be_ hE4374 b4373_g2210
                have b4374_g2217 := be_ hE4374 b4373_g2217
                have b4374_A2497 := re_ hE4374 b4373_A2497
                have b4374_A3483 := re_ hE4374 b4373_A3483
                have b4374_A4116 := RwN.evo rfl hE4374 b4373_A4116
                have b4374_g2213 := be_ hE4374 b4373_g2213
                have b4374_A4361 := RdO.evo rfl hE4374 b4373_A4361
                have b4374_A4372 := re_ hE4374 b4373_A4372
                exact hn4347 _ _ _ hs ⟨(rl [(4362, 4310), (4363, 4310), (4364, 4306), (4371, 4318)] own4374), A4361, cA4361, A4372, cA4372, hd4374, hz4374, e4374_2, e4374_5, e4374_6, e4374_9, e4374_10, e4374_16, e4374_17, e4374_18, e4374_19, e4374_20, e4374_21, e4374_22, e4374_23, (Evo.rl_ hX4374 (fun _ => Nat.le_refl 0) rfl), (BlkO.rl_ (mm := [(4362, 4310), (4363, 4310), (4364, 4306), (4371, 4318)]) b4374_g2210), (BlkO.rl_ (mm := [(4362, 4310), (4363, 4310), (4364, 4306), (4371, 4318)]) b4374_g2213), (RdO.more (RdO.rl_ (mm := [(4362, 4310), (4363, 4310), (4364, 4306), (4371, 4318)]) b4374_A4361) (by decide)), (BlkO.rl_ (mm := [(4362, 4310), (4363, 4310), (4364, 4306), (4371, 4318)]) b4374_g2217), (RwO.rl_ (mm := [(4362, 4310), (4363, 4310), (4364, 4306), (4371, 4318)]) b4374_A2497), (RwO.rl_ (mm := [(4362, 4310), (4363, 4310), (4364, 4306), (4371, 4318)]) b4374_A3483), (RwN.rl_ (mm := [(4362, 4310), (4363, 4310), (4364, 4306), (4371, 4318)]) b4374_A4116), (RwO.rl_ (mm := [(4362, 4310), (4363, 4310), (4364, 4306), (4371, 4318)]) b4374_A4372)⟩
              refine fl_exit ?_
              refine hp4349 _ _ _ rfl ?_
              replace hs := hz4347 _ hs
              refine hp4347 _ _ _ rfl ?_
              refine hx4277 _ _ ?_
              refine hn4275 _ _ ?_
              obtain ⟨x4381, hx4381, hs⟩ := obind hs
              refine rg_plain (n := 184) (rs := [Fct.rownAt 4119 4120 [] 28 3 R3 A4116 c4117 l4118, Fct.rowAt 4318 [] 3 R3 A4315 c4316 r4317]) (own0 := own4351) (K := [4119, 4120, 4318]) (bs := [0, 0, 2, 7, 15]) (ds := [⟨[], [18], [], Fct.val 165 (.slice A4116 l4118.length c4117)⟩, ⟨[], [21], [], Fct.val 166 (.slice A4315 r4317.length c4316)⟩, ⟨[1, 6], [], [], Fct.rown 4380 4318 [] 167 28 3 R3 [r4317]⟩, ⟨[0, 2, 5], [], [4119, 4120, 4318], Fct.rown 4382 4383 [] 168 28 3 R3 x4381⟩, ⟨[3], [], [], Fct.rel [18, 168] (fun l => ∀ (A4384 : Option Addr) (cA4384 : Nat), l.getD 1 undef = .slice A4384 x4381.length cA4384 → l.getD 0 undef = .slice A4384 x4381.length cA4384)⟩]) (by kernel_rfl) hz4351 hd4351 (by simp only [List.forall_mem_cons]; exact ⟨b4351_A4116, b4351_A4315, fun _ h => nomatch h⟩) ?_ ?_
              · refine sc (fun _ _ _ _ s _ => px (or_move (s.1.trans e4351_18))) ?_
                refine sc (fun _ _ _ _ s _ => px (or_move (s.1.trans e4351_21))) ?_
                refine sc (fun own a wx hf hsl hE => ?_) ?_
                · obtain ⟨f_166, b_A4315, -⟩ := hf
                  exact px (or_litO (R := R3) (lab := 4380) (labE := 4318) (L := []) (e := 28) (e2 := 3) (xl := r4317) [(166, .slice A4315 r4317.length c4316)] rfl rfl ⟨f_166, trivial⟩ (by kernel_rfl) rfl b_A4315 rfl)
                refine sc (fun own a wx hf hsl hE => ?_) ?_
                · obtain ⟨f_165, ⟨⟨A4379, cA4379⟩, f_167, b_A4379⟩, b_A4116, -⟩ := hf
                  exact px (or_appendO (R := R3) (lab := 4119) (labE := 4120) (lab2 := 4382) (lab3 := 4383) (L := []) (L3 := []) tp27 f_165 b_A4116 f_167 b_A4379 hx4381 (by decide) (by decide) (mem_of rfl) (mem_of rfl) (mem_of rfl) (by decide) (by decide) (by decide) (by decide) (by decide) (by decide) (by decide) rfl (by decide) (by decide))
                refine sc (fun own a wx hf hsl hE => ?_) ?_
                · obtain ⟨⟨⟨A4384, cA4384⟩, (f_168 : a.eval (.tmp 168) = .slice A4384 x4381.length cA4384), b_A4384⟩, -⟩ := hf
                  exact px (or_mono (f := Fct.val 18 (.slice A4384 x4381.length cA4384)) (or_assign f_168) (fun own' a' w' v' hp h => fun _ _ h0' => by cases (f_168.symm.trans ((hp.2 168 (by decide)).symm.trans h0')); exact h))
                exact steps_nil
              intro own4385 a4385 w4385 hd4385 hz4385 hk4385 hf4385 hE4385
              have e4385_2 := (hk4385 2 rfl).trans e4351_2
              have e4385_5 := (hk4385 5 rfl).trans e4351_5
              have e4385_6 := (hk4385 6 rfl).trans e4351_6
              have e4385_9 := (hk4385 9 rfl).trans e4351_9
              have e4385_10 := (hk4385 10 rfl).trans e4351_10
              have e4385_16 := (hk4385 16 rfl).trans e4351_16
              have e4385_17 := (hk4385 17 rfl).trans e4351_17
              have e4385_19 := (hk4385 19 rfl).trans e4351_19
              have e4385_20 := (hk4385 20 rfl).trans e4351_20
              obtain ⟨⟨⟨A4384, cA4384⟩, (f_168 : a4385.eval (.tmp 168) = .slice A4384 x4381.length cA4384), (b4385_A4384 : RwN own4385 4382 4383 [] w4385 28 3 R3 A4384 cA4384 x4381)⟩, (q_18 : ∀ (A4384 : Option Addr) (cA4384 : Nat), a4385.eval (.tmp 168) = .slice A4384 x4381.length cA4384 → a4385.eval (.tmp 18) = .slice A4384 x4381.length cA4384), -⟩ := hf4385 [3, 4] rfl
              have e4385_18 := q_18 _ _ f_168
              have hX4385 := es_ hX4351 hE4385
              have b4385_g2210 := be_ hE4385 b4351_g2210
              have b4385_g2213 := be_ hE4385 b4351_g2213
              have b4385_A4307 := RdO.evo rfl hE4385 b4351_A4307
              have b4385_g2217 := be_ hE4385 b4351_g2217
              have b4385_A2497 := re_ hE4385 b4351_A2497
              have b4385_A3483 := re_ hE4385 b4351_A3483
              refine hn4261 _ _ ?_
              refine hn4260 _ _ ?_
              refine rg0 184 own4385 (bz 3) [⟨[], [20], [], Fct.val 135 (.int .i64 j4121)⟩, ⟨[0], [], [], Fct.val 136 (.int .i64 (ad j4121 1))⟩, ⟨[1], [], [], Fct.val 20 (.int .i64 (ad j4121 1))⟩] hz4385 hd4385 (by kernel_rfl) ?_ ?_
              · refine sc (fun _ _ _ _ s _ => px (or_move (s.1.trans e4385_20))) ?_
                refine sc (fun _ _ _ f _ _ => px (or_add f.1 rfl rfl)) ?_
                refine sc (fun _ _ _ f _ _ => px (or_assign f.1)) ?_
                exact steps_nil
              intro own4386 a4386 w4386 hd4386 hz4386 hk4386 hf4386 hE4386
              have e4386_2 := (hk4386 2 rfl).trans e4385_2
              have e4386_5 := (hk4386 5 rfl).trans e4385_5
              have e4386_6 := (hk4386 6 rfl).trans e4385_6
              have e4386_9 := (hk4386 9 rfl).trans e4385_9
              have e4386_10 := (hk4386 10 rfl).trans e4385_10
              have e4386_16 := (hk4386 16 rfl).trans e4385_16
              have e4386_17 := (hk4386 17 rfl).trans e4385_17
              have e4386_18 := (hk4386 18 rfl).trans e4385_18
              have e4386_19 := (hk4386 19 rfl).trans e4385_19
              obtain ⟨(e4386_20 : a4386.eval (.tmp 20) = .int .i64 (ad j4121 1)), -⟩ := hf4386 [2] rfl
              have hX4386 := es_ hX4385 hE4386
              have b4386_g2210 := be_ hE4386 b4385_g2210
              have b4386_g2213 := be_ hE4386 b4385_g2213
              have b4386_A4307 := RdO.evo rfl hE4386 b4385_A4307
              have b4386_g2217 := be_ hE4386 b4385_g2217
              have b4386_A2497 := re_ hE4386 b4385_A2497
              have b4386_A3483 := re_ hE4386 b4385_A3483
              have b4386_A4384 := RwN.evo rfl hE4386 b4385_A4384
              exact hn4254 _ _ _ hs ⟨(rl [(4306, 4106), (4310, 4110), (4313, 4113), (4314, 4114), (4382, 4119), (4383, 4120)] own4386), A4307, c4308, A4384, cA4384, hd4386, hz4386, e4386_2, e4386_5, e4386_6, e4386_9, e4386_10, e4386_16, e4386_17, e4386_18, e4386_19, e4386_20, (Evo.rl_ hX4386 (fun _ => Nat.le_refl 0) rfl), (BlkO.rl_ (mm := [(4306, 4106), (4310, 4110), (4313, 4113), (4314, 4114), (4382, 4119), (4383, 4120)]) b4386_g2210), (BlkO.rl_ (mm := [(4306, 4106), (4310, 4110), (4313, 4113), (4314, 4114), (4382, 4119), (4383, 4120)]) b4386_g2213), (RdO.rl_ (mm := [(4306, 4106), (4310, 4110), (4313, 4113), (4314, 4114), (4382, 4119), (4383, 4120)]) b4386_A4307), (BlkO.rl_ (mm := [(4306, 4106), (4310, 4110), (4313, 4113), (4314, 4114), (4382, 4119), (4383, 4120)]) b4386_g2217), (RwO.rl_ (mm := [(4306, 4106), (4310, 4110), (4313, 4113), (4314, 4114), (4382, 4119), (4383, 4120)]) b4386_A2497), (RwO.rl_ (mm := [(4306, 4106), (4310, 4110), (4313, 4113), (4314, 4114), (4382, 4119), (4383, 4120)]) b4386_A3483), (RwN.rl_ (mm := [(4306, 4106), (4310, 4110), (4313, 4113), (4314, 4114), (4382, 4119), (4383, 4120)]) b4386_A4384)⟩
          refine fl_exit ?_
          refine hp4256 _ _ _ rfl ?_
          replace hs := hz4254 _ hs
          refine hp4254 _ _ _ rfl ?_
          refine hx3969 _ _ ?_
          refine hn3967 _ _ ?_
          obtain ⟨x4396, hx4396, hs⟩ := obind hs
          refine rg_plain (n := 184) (rs := [Fct.rowAt 3486 [4114] 27 R27 A3483 c3484 n3485, Fct.at_ 3481 g2217 38 #[.slice A2497 n2499.length c2498, .slice A3483 n3485.length c3484]]) (own0 := own4258) (K := [3486, 3481]) (bs := [0, 1, 0, 4, 15, 31, 63]) (ds := [⟨[], [6], [], Fct.val 169 (.pointer (some ⟨g2217, 1, none⟩))⟩, ⟨[0, 8], [], [], Fct.val 170 (.slice A3483 n3485.length c3484)⟩, ⟨[], [18], [], Fct.val 171 (.slice A4116 l4118.length c4117)⟩, ⟨[2], [], [], Fct.row 4395 [4119, 4120] 172 27 R27 [l4118]⟩, ⟨[1, 3, 7], [], [3486], Fct.row 4397 [4114, 4119, 4120, 4395] 173 27 R27 x4396⟩, ⟨[], [6], [], Fct.val 174 (.pointer (some ⟨g2217, 1, none⟩))⟩, ⟨[5, 4, 8], [], [3481], Fct.by_ [4399] [173] (fun l own w => ∀ (A4398 : Option Addr) (cA4398 : Nat), l.getD 0 undef = .slice A4398 x4396.length cA4398 → BlkO own 4399 w g2217 38 #[.slice A2497 n2499.length c2498, .slice A4398 x4396.length cA4398]) (fun hk he h _ _ h0' => BlkO.evo (not_hit hk (by decide)) he (h _ _ h0'))⟩]) (by kernel_rfl) hz4258 hd4258 (by simp only [List.forall_mem_cons]; exact ⟨b4258_A3483, b4258_g2217, fun _ h => nomatch h⟩) ?_ ?_
          · refine sc (fun _ _ _ _ s _ => px (or_field fo38_1 (s.1.trans e4258_6) (by rfl))) ?_
            refine sc (fun own a wx hf hsl hE => ?_) ?_
            · obtain ⟨f_169, (b_g2217 : BlkO own 3481 wx g2217 38 #[.slice A2497 n2499.length c2498, .slice A3483 n3485.length c3484]), -⟩ := hf
              exact px (or_load1 to23 f_169 (Blk.at_ b_g2217.2 1 rfl))
            refine sc (fun _ _ _ _ s _ => px (or_move (s.1.trans e4258_18))) ?_
            refine sc (fun _ _ _ f _ hE => px (or_litN (R := R27) (lab := 4395) (L := [4119, 4120]) (e := 27) (cs := #[.slice A4116 l4118.length c4117]) (l := [l4118]) (n := 1) [(171, .slice A4116 l4118.length c4117)] rfl rfl ⟨f.1, trivial⟩ (by kernel_rfl) rfl (by decide) ⟨(Ex.iff X27).2 ⟨(A4116, c4117), rfl, (RwN.rd (RwN.evo rfl hE b4258_A4116))⟩, rfl⟩ rfl)) ?_
            refine sc (fun own a wx hf hsl hE => ?_) ?_
            · obtain ⟨f_170, ⟨⟨A4394, cA4394⟩, f_172, b_A4394⟩, b_A3483, -⟩ := hf
              exact px (or_append (R := R27) (lab := 3486) (lab2 := 4397) (L := [4114]) (L3 := [4114, 4119, 4120, 4395]) tp23 f_170 b_A3483 (by decide) f_172 (RwO.rd b_A4394) hx4396 (by decide) (by decide) (mem_of rfl) (.inr ⟨rfl, rfl, by decide, by decide⟩))
            refine sc (fun _ _ _ _ s _ => px (or_field fo38_1 (s.1.trans e4258_6) (by rfl))) ?_
            refine sc (fun own a wx hf hsl hE => ?_) ?_
            · obtain ⟨f_174, ⟨⟨A4398, cA4398⟩, (f_173 : a.eval (.tmp 173) = .slice A4398 x4396.length cA4398), b_A4398⟩, b_g2217, -⟩ := hf
              exact px (or_store1 (lab := 3481) (lab2 := 4399) ts23 f_174 f_173 b_g2217 (by simp) rfl (mem_of rfl) (by decide) rfl (fun own' a' w' ha hb => fun _ _ h0' => by cases (f_173.symm.trans ((ha 173).symm.trans h0')); exact hb))
            exact steps_nil
          intro own4400 a4400 w4400 hd4400 hz4400 hk4400 hf4400 hE4400
          have e4400_2 := (hk4400 2 rfl).trans e4258_2
          have e4400_5 := (hk4400 5 rfl).trans e4258_5
          have e4400_6 := (hk4400 6 rfl).trans e4258_6
          have e4400_9 := (hk4400 9 rfl).trans e4258_9
          have e4400_10 := (hk4400 10 rfl).trans e4258_10
          have e4400_16 := (hk4400 16 rfl).trans e4258_16
          have e4400_17 := (hk4400 17 rfl).trans e4258_17
          obtain ⟨⟨⟨A4398, cA4398⟩, (f_173 : a4400.eval (.tmp 173) = .slice A4398 x4396.length cA4398), (b4400_A4398 : RwO own4400 4397 [4114, 4119, 4120, 4395] w4400 27 R27 A4398 cA4398 x4396)⟩, (bq_g2217 : ∀ (A4398 : Option Addr) (cA4398 : Nat), a4400.eval (.tmp 173) = .slice A4398 x4396.length cA4398 → BlkO own4400 4399 w4400 g2217 38 #[.slice A2497 n2499.length c2498, .slice A4398 x4396.length cA4398]), -⟩ := hf4400 [4, 6] rfl
          have b4400_g2217 := bq_g2217 _ _ f_173
          have hX4400 := es_ hX4258 hE4400
          have b4400_g2210 := be_ hE4400 b4258_g2210
          have b4400_g2213 := be_ hE4400 b4258_g2213
          have b4400_A4107 := RdO.evo rfl hE4400 b4258_A4107
          have b4400_A2497 := re_ hE4400 b4258_A2497
          refine hn3953 _ _ ?_
          refine hn3952 _ _ ?_
          refine rg0 184 own4400 (bz 3) [⟨[], [17], [], Fct.val 116 (.int .i64 i3490)⟩, ⟨[0], [], [], Fct.val 117 (.int .i64 (ad i3490 1))⟩, ⟨[1], [], [], Fct.val 17 (.int .i64 (ad i3490 1))⟩] hz4400 hd4400 (by kernel_rfl) ?_ ?_
          · refine sc (fun _ _ _ _ s _ => px (or_move (s.1.trans e4400_17))) ?_
            refine sc (fun _ _ _ f _ _ => px (or_add f.1 rfl rfl)) ?_
            refine sc (fun _ _ _ f _ _ => px (or_assign f.1)) ?_
            exact steps_nil
          intro own4401 a4401 w4401 hd4401 hz4401 hk4401 hf4401 hE4401
          have e4401_2 := (hk4401 2 rfl).trans e4400_2
          have e4401_5 := (hk4401 5 rfl).trans e4400_5
          have e4401_6 := (hk4401 6 rfl).trans e4400_6
          have e4401_9 := (hk4401 9 rfl).trans e4400_9
          have e4401_10 := (hk4401 10 rfl).trans e4400_10
          have e4401_16 := (hk4401 16 rfl).trans e4400_16
          obtain ⟨(e4401_17 : a4401.eval (.tmp 17) = .int .i64 (ad i3490 1)), -⟩ := hf4401 [2] rfl
          have hX4401 := es_ hX4400 hE4401
          have b4401_g2210 := be_ hE4401 b4400_g2210
          have b4401_g2213 := be_ hE4401 b4400_g2213
          have b4401_A4107 := RdO.evo rfl hE4401 b4400_A4107
          have b4401_A2497 := re_ hE4401 b4400_A2497
          have b4401_g2217 := be_ hE4401 b4400_g2217
          have b4401_A4398 := re_ hE4401 b4400_A4398
          exact hn3946 _ _ _ hs ⟨(rl [(4106, 3474), (4110, 3478), (4113, 3482), (4114, 3487), (4119, 3487), (4120, 3487), (4395, 3487), (4397, 3486), (4399, 3481)] own4401), A4107, c4108, A4398, cA4398, hd4401, hz4401, e4401_2, e4401_5, e4401_6, e4401_9, e4401_10, e4401_16, e4401_17, (Evo.rl_ hX4401 (fun _ => Nat.le_refl 0) rfl), (BlkO.rl_ (mm := [(4106, 3474), (4110, 3478), (4113, 3482), (4114, 3487), (4119, 3487), (4120, 3487), (4395, 3487), (4397, 3486), (4399, 3481)]) b4401_g2210), (BlkO.rl_ (mm := [(4106, 3474), (4110, 3478), (4113, 3482), (4114, 3487), (4119, 3487), (4120, 3487), (4395, 3487), (4397, 3486), (4399, 3481)]) b4401_g2213), (RdO.rl_ (mm := [(4106, 3474), (4110, 3478), (4113, 3482), (4114, 3487), (4119, 3487), (4120, 3487), (4395, 3487), (4397, 3486), (4399, 3481)]) b4401_A4107), (BlkO.rl_ (mm := [(4106, 3474), (4110, 3478), (4113, 3482), (4114, 3487), (4119, 3487), (4120, 3487), (4395, 3487), (4397, 3486), (4399, 3481)]) b4401_g2217), (RwO.rl_ (mm := [(4106, 3474), (4110, 3478), (4113, 3482), (4114, 3487), (4119, 3487), (4120, 3487), (4395, 3487), (4397, 3486), (4399, 3481)]) b4401_A2497), (RwO.more (RwO.rl_ (mm := [(4106, 3474), (4110, 3478), (4113, 3482), (4114, 3487), (4119, 3487), (4120, 3487), (4395, 3487), (4397, 3486), (4399, 3481)]) b4401_A4398) (by decide))⟩
      refine fl_exit ?_
      refine hp3948 _ _ _ rfl ?_
      replace hs := hz3946 _ hs
      refine hp3946 _ _ _ rfl ?_
      refine hx3025 _ _ ?_
      refine hn3023 _ _ ?_
      refine fl_seq (fun Q4402 hn4402 hp4402 => ?_)
      refine rg0_seq 184 own3950 (bz 3) [⟨[], [5], [], Fct.val 175 (.pointer (some ⟨g2213, 2, none⟩))⟩, ⟨[0], [], [], Fct.val 176 (.int .i64 c3480)⟩, ⟨[1], [], [], Fct.val 177 (.bool (!decide (c3480 = 0)))⟩] hz3950 hd3950 (by kernel_rfl) ?_ ?_
      · refine sc (fun _ _ _ _ s _ => px (or_field fo72_2 (s.1.trans e3950_5) (by rfl))) ?_
        refine sc (fun _ _ _ f _ hE => px (or_load1 to3 f.1 (Blk.at_ (be_ hE b3950_g2213).2 2 rfl))) ?_
        refine sc (fun _ _ _ f _ _ => px (or_neq f.1 rfl rfl)) ?_
        exact steps_nil
      intro own4403 a4403 w4403 hd4403 hz4403 hk4403 hf4403 hE4403
      have e4403_2 := (hk4403 2 rfl).trans e3950_2
      have e4403_5 := (hk4403 5 rfl).trans e3950_5
      have e4403_6 := (hk4403 6 rfl).trans e3950_6
      obtain ⟨(e4403_177 : a4403.eval (.tmp 177) = .bool (!decide (c3480 = 0))), -⟩ := hf4403 [2] rfl
      have hX4403 := es_ hX3950 hE4403
      have b4403_g2210 := be_ hE4403 b3950_g2210
      have b4403_g2213 := be_ hE4403 b3950_g2213
      have b4403_A3475 := RdO.evo rfl hE4403 b3950_A3475
      have b4403_g2217 := be_ hE4403 b3950_g2217
      have b4403_A2497 := re_ hE4403 b3950_A2497
      have b4403_A3483 := re_ hE4403 b3950_A3483
      refine fl_cond e4403_177 hs (fun c4404 hs => ?_) (fun c4404 hs => ?_)
      · refine rg_draw_seq g_mixed (n := 184) (rs := [Fct.at_ 2211 g2210 38 #[.slice none 0 0, .slice none 0 0]]) (own0 := own4403) (K := [2211]) (bs := [0, 0, 2, 1, 9, 31]) (ds := [⟨[], [], [], Fct.val 178 (.agg #[.slice none 0 0, .slice none 0 0])⟩, ⟨[], [5], [], Fct.val 179 (.pointer (some ⟨g2213, 2, none⟩))⟩, ⟨[1], [], [], Fct.val 180 (.int .i64 c3480)⟩, ⟨[0, 6], [2], [2211], Fct.at_ 4405 g2210 38 #[.slice none 0 0, .slice none 0 0]⟩, ⟨[], [], [], Fct.val 3 (.int .i64 0)⟩, ⟨[2], [], [], Fct.val 4 (.int .i64 c3480)⟩]) (by kernel_rfl) hz4403 hd4403 (by simp only [List.forall_mem_cons]; exact ⟨b4403_g2210, fun _ h => nomatch h⟩) ?_ ?_
        · refine sc (fun _ _ _ _ _ _ => px (or_k [] rfl rfl trivial (by kernel_rfl))) ?_
          refine sc (fun _ _ _ _ s _ => px (or_field fo72_2 (s.1.trans e4403_5) (by rfl))) ?_
          refine sc (fun _ _ _ f _ hE => px (or_load1 to3 f.1 (Blk.at_ (be_ hE b4403_g2213).2 2 rfl))) ?_
          refine sc (fun own a wx hf hsl hE => ?_) ?_
          · obtain ⟨f_178, b_g2210, -⟩ := hf
            obtain ⟨s_2, -⟩ := hsl
            exact px (or_store (l := #[.slice none 0 0, .slice none 0 0]) (lab := 2211) (lab2 := 4405) ts38 (s_2.trans e4403_2) f_178 b_g2210 (by simp) (by kernel_rfl) (mem_of rfl) (by decide) (by kernel_rfl) (fun own' a' w' ha hb => hb))
          refine sc (fun _ _ _ _ _ _ => px (or_assign rfl)) ?_
          refine sc (fun _ _ _ f _ _ => px (or_assign f.1)) ?_
          exact steps_nil
        intro own4406 a4406 w4406 hd4406 hz4406 hk4406 hf4406 hE4406
        have e4406_2 := (hk4406 2 rfl).trans e4403_2
        obtain ⟨(e4406_3 : a4406.eval (.tmp 3) = .int .i64 0), (e4406_4 : a4406.eval (.tmp 4) = .int .i64 c3480), (b4406_g2210 : BlkO own4406 4405 w4406 g2210 38 #[.slice none 0 0, .slice none 0 0]), -⟩ := hf4406 [4, 5, 3] rfl
        have hX4406 := es_ hX4403 hE4406
        refine fl_ret ?_
        refine hp4402 _ _ _ rfl ?_
        obtain rfl := osome hs
        exact hret _ _ _ _ (.inl rfl) hd4406 (results3_ rfl (RVal.cell_ e4406_2 (run_loadVarAgg (l := [.slice none 0 0, .slice none 0 0]) ta38 (Blk.cellsFrom b4406_g2210.2 0 rfl) rfl)) (RVal.tmp_ e4406_3) (RVal.tmp_ e4406_4)) ⟨own4406, ((none, 0), (none, 0)), rfl, hX4406, RwO.nil_, RwO.nil_⟩
      refine fl_skip ?_
      refine hn4402 _ _ ?_
      refine rg_draw_seq g_mixed (n := 184) (rs := [Fct.at_ 2211 g2210 38 #[.slice none 0 0, .slice none 0 0]]) (own0 := own4403) (K := [2211]) (bs := [0, 0, 2, 1, 15, 31]) (ds := [⟨[], [6], [], Fct.val 181 (.agg #[.slice A2497 n2499.length c2498, .slice A3483 n3485.length c3484])⟩, ⟨[], [5], [], Fct.val 182 (.pointer (some ⟨g2213, 1, none⟩))⟩, ⟨[1], [], [], Fct.val 183 (.int .i64 c3479)⟩, ⟨[0, 6], [2], [2211], Fct.at_ 4407 g2210 38 #[.slice A2497 n2499.length c2498, .slice A3483 n3485.length c3484]⟩, ⟨[2], [], [], Fct.val 3 (.int .i64 c3479)⟩, ⟨[], [], [], Fct.val 4 (.int .i64 0)⟩]) (by kernel_rfl) hz4403 hd4403 (by simp only [List.forall_mem_cons]; exact ⟨b4403_g2210, fun _ h => nomatch h⟩) ?_ ?_
      · refine sc (fun _ _ _ _ s hE => px (or_load (l := [.slice A2497 n2499.length c2498, .slice A3483 n3485.length c3484]) ta38 (s.1.trans e4403_6) (Blk.cellsFrom (be_ hE b4403_g2217).2 0 rfl) rfl)) ?_
        refine sc (fun _ _ _ _ s _ => px (or_field fo72_1 (s.1.trans e4403_5) (by rfl))) ?_
        refine sc (fun _ _ _ f _ hE => px (or_load1 to3 f.1 (Blk.at_ (be_ hE b4403_g2213).2 1 rfl))) ?_
        refine sc (fun own a wx hf hsl hE => ?_) ?_
        · obtain ⟨f_181, b_g2210, -⟩ := hf
          obtain ⟨s_2, -⟩ := hsl
          exact px (or_store (l := #[.slice A2497 n2499.length c2498, .slice A3483 n3485.length c3484]) (lab := 2211) (lab2 := 4407) ts38 (s_2.trans e4403_2) f_181 b_g2210 (by simp) (by kernel_rfl) (mem_of rfl) (by decide) (by kernel_rfl) (fun own' a' w' ha hb => hb))
        refine sc (fun _ _ _ f _ _ => px (or_assign f.1)) ?_
        refine sc (fun _ _ _ _ _ _ => px (or_assign rfl)) ?_
        exact steps_nil
      intro own4408 a4408 w4408 hd4408 hz4408 hk4408 hf4408 hE4408
      have e4408_2 := (hk4408 2 rfl).trans e4403_2
      obtain ⟨(e4408_3 : a4408.eval (.tmp 3) = .int .i64 c3479), (e4408_4 : a4408.eval (.tmp 4) = .int .i64 0), (b4408_g2210 : BlkO own4408 4407 w4408 g2210 38 #[.slice A2497 n2499.length c2498, .slice A3483 n3485.length c3484]), -⟩ := hf4408 [4, 5, 3] rfl
      have hX4408 := es_ hX4403 hE4408
      have b4408_A2497 := re_ hE4408 b4403_A2497
      have b4408_A3483 := re_ hE4408 b4403_A3483
      refine fl_ret ?_
      obtain rfl := osome hs
      exact hret _ _ _ _ (.inl rfl) hd4408 (results3_ rfl (RVal.cell_ e4408_2 (run_loadVarAgg (l := [.slice A2497 n2499.length c2498, .slice A3483 n3485.length c3484]) ta38 (Blk.cellsFrom b4408_g2210.2 0 rfl) rfl)) (RVal.tmp_ e4408_3) (RVal.tmp_ e4408_4)) ⟨(rl [(2500, 1), (3482, 2), (3486, 3), (3487, 4)] own4408), ((A2497, c2498), (A3483, c3484)), rfl, (Evo.rl_ hX4408 (fun _ => Nat.le_refl 0) rfl), (RwO.rl_ (mm := [(2500, 1), (3482, 2), (3486, 3), (3487, 4)]) b4408_A2497), (RwO.rl_ (mm := [(2500, 1), (3482, 2), (3486, 3), (3487, 4)]) b4408_A3483)⟩
end Go.Proofs.Ytaobbaohelpdgaa
