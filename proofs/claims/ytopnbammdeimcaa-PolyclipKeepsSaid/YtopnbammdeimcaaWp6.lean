import Derived.Test.YtopnbammdeimcaaWp2
import Derived.Test.YtopnbammdeimcaaWp3
import Derived.Test.YtopnbammdeimcaaSp6
namespace Go.Proofs.Ytopnbammdeimcaa
open Go.RowKit
set_option linter.unusedVariables false
set_option maxRecDepth 10000
theorem rows_Meet_w (w : World) (x1 : (Int × Int) × (Int × Int)) (b2 : (Int × Int) × (Int × Int)) (r : Bool) (hs : rows_Meet x1 b2 = some r) :
    Calls Try.prog 15 #[.agg #[.int .i64 x1.1.1, .int .i64 x1.1.2, .int .i64 x1.2.1, .int .i64 x1.2.2], .agg #[.int .i64 b2.1.1, .int .i64 b2.1.2, .int .i64 b2.2.1, .int .i64 b2.2.2]] w fun e w' => ∃ own' : Own, e = .returned (.bool r) ∧ Evo [] (fun _ => 0) own' w w' := by
  refine fl_enter (n := 47) rfl rfl rfl (Nat.le_of_ble_eq_true rfl) ?_
  intro a0 Q hd0 hz0 harg hret
  have ha0 := harg 0 _ rfl
  have ha1 := harg 1 _ rfl
  clear harg
  have hE0 : Evo [] (fun _ => 0) (fun _ => 0) w w := Evo.refl _ _ _
  refine rg0_seq 47 (fun _ => 0) [0, 0, 0] [⟨[], [0], [], Fct.blk 22 2 (fun g => .pointer (some ⟨g, 0, none⟩)) 31 #[.int .i64 x1.1.1, .int .i64 x1.1.2, .int .i64 x1.2.1, .int .i64 x1.2.2]⟩, ⟨[], [1], [], Fct.blk 24 3 (fun g => .pointer (some ⟨g, 0, none⟩)) 31 #[.int .i64 b2.1.1, .int .i64 b2.1.2, .int .i64 b2.2.1, .int .i64 b2.2.2]⟩, ⟨[], [], [], Fct.val 4 (.bool false)⟩] hz0 hd0 (by kernel_rfl) ?_ ?_
  · refine sc (fun _ _ _ _ s _ => px (or_new [(0, .agg #[.int .i64 x1.1.1, .int .i64 x1.1.2, .int .i64 x1.2.1, .int .i64 x1.2.2])] rfl rfl ⟨(s.1.trans ha0), trivial⟩ (by kernel_rfl))) ?_
    refine sc (fun _ _ _ _ s _ => px (or_new [(1, .agg #[.int .i64 b2.1.1, .int .i64 b2.1.2, .int .i64 b2.2.1, .int .i64 b2.2.2])] rfl rfl ⟨(s.1.trans ha1), trivial⟩ (by kernel_rfl))) ?_
    refine sc (fun _ _ _ _ _ _ => px (or_assign rfl)) ?_
    exact steps_nil
  intro own25 a25 w25 hd25 hz25 hk25 hf25 hE25
  obtain ⟨⟨g21, (e25_2 : a25.eval (.tmp 2) = .pointer (some ⟨g21, 0, none⟩)), (b25_g21 : BlkO own25 22 w25 g21 31 #[.int .i64 x1.1.1, .int .i64 x1.1.2, .int .i64 x1.2.1, .int .i64 x1.2.2])⟩, ⟨g23, (e25_3 : a25.eval (.tmp 3) = .pointer (some ⟨g23, 0, none⟩)), (b25_g23 : BlkO own25 24 w25 g23 31 #[.int .i64 b2.1.1, .int .i64 b2.1.2, .int .i64 b2.2.1, .int .i64 b2.2.2])⟩, -⟩ := hf25 [0, 1] rfl
  have hX25 := es_ hE0 hE25
  obtain ⟨r26, hr26, hs⟩ := obind hs
  obtain ⟨r27, hr27, hs⟩ := obind hs
  obtain ⟨x28, hx28, hs⟩ := obind hs
  obtain ⟨x29, hx29, hs⟩ := obind hs
  refine rg0_seq 47 own25 [0, 1, 3, 7, 15, 31, 63, 127, 255, 511, 127, 1151, 3199, 8191, 16383, 32767, 65535, 131071, 262143, 65535, 589823, 1638399, 4194303, 8388607, 16777215, 33554431, 67108863, 134217727, 33554431, 301989887, 838860799, 2147483647, 4294967295, 8589934591, 17179869183, 34359738367, 68719476735, 17179869183, 154618822655, 429496729599, 1099511627775, 2199023255551, 4398046511103] [⟨[], [2], [], Fct.val 5 (.agg #[.int .i64 x1.1.1, .int .i64 x1.1.2, .int .i64 x1.2.1, .int .i64 x1.2.2])⟩, ⟨[0], [], [], Fct.val 6 (.bool r26)⟩, ⟨[1], [], [], Fct.val 7 (.bool r26)⟩, ⟨[2], [3], [], Fct.cond r26 (some 8) (Fct.val 8 (.agg #[.int .i64 b2.1.1, .int .i64 b2.1.2, .int .i64 b2.2.1, .int .i64 b2.2.2]))⟩, ⟨[2, 3], [], [], Fct.cond r26 (some 9) (Fct.val 9 (.bool r27))⟩, ⟨[2, 4], [], [], Fct.val 10 (.bool (r26 && r27))⟩, ⟨[5], [], [], Fct.val 11 (.bool (r26 && r27))⟩, ⟨[6], [2], [], Fct.cond (r26 && r27) (some 12) (Fct.val 12 (.pointer (some ⟨g21, 0, none⟩)))⟩, ⟨[6, 7], [], [], Fct.cond (r26 && r27) (some 13) (Fct.val 13 (.pointer (some ⟨g21, 0, none⟩)))⟩, ⟨[6, 8], [], [], Fct.cond (r26 && r27) (some 14) (Fct.val 14 (.int .i64 x1.1.1))⟩, ⟨[6], [3], [], Fct.cond (r26 && r27) (some 15) (Fct.val 15 (.pointer (some ⟨g23, 2, none⟩)))⟩, ⟨[6, 10], [], [], Fct.cond (r26 && r27) (some 16) (Fct.val 16 (.pointer (some ⟨g23, 2, none⟩)))⟩, ⟨[6, 11], [], [], Fct.cond (r26 && r27) (some 17) (Fct.val 17 (.int .i64 b2.2.1))⟩, ⟨[6, 9, 12], [], [], Fct.cond (r26 && r27) (some 18) (Fct.val 18 (.bool (decide (x1.1.1 ≤ b2.2.1))))⟩, ⟨[6, 13], [], [], Fct.val 19 (.bool x28)⟩, ⟨[14], [], [], Fct.val 20 (.bool x28)⟩, ⟨[15], [3], [], Fct.cond x28 (some 21) (Fct.val 21 (.pointer (some ⟨g23, 0, none⟩)))⟩, ⟨[15, 16], [], [], Fct.cond x28 (some 22) (Fct.val 22 (.pointer (some ⟨g23, 0, none⟩)))⟩, ⟨[15, 17], [], [], Fct.cond x28 (some 23) (Fct.val 23 (.int .i64 b2.1.1))⟩, ⟨[15], [2], [], Fct.cond x28 (some 24) (Fct.val 24 (.pointer (some ⟨g21, 2, none⟩)))⟩, ⟨[15, 19], [], [], Fct.cond x28 (some 25) (Fct.val 25 (.pointer (some ⟨g21, 2, none⟩)))⟩, ⟨[15, 20], [], [], Fct.cond x28 (some 26) (Fct.val 26 (.int .i64 x1.2.1))⟩, ⟨[15, 18, 21], [], [], Fct.cond x28 (some 27) (Fct.val 27 (.bool (decide (b2.1.1 ≤ x1.2.1))))⟩, ⟨[15, 22], [], [], Fct.val 28 (.bool (x28 && (decide (b2.1.1 ≤ x1.2.1))))⟩, ⟨[23], [], [], Fct.val 29 (.bool (x28 && (decide (b2.1.1 ≤ x1.2.1))))⟩, ⟨[24], [2], [], Fct.cond (x28 && (decide (b2.1.1 ≤ x1.2.1))) (some 30) (Fct.val 30 (.pointer (some ⟨g21, 0, none⟩)))⟩, ⟨[24, 25], [], [], Fct.cond (x28 && (decide (b2.1.1 ≤ x1.2.1))) (some 31) (Fct.val 31 (.pointer (some ⟨g21, 1, none⟩)))⟩, ⟨[24, 26], [], [], Fct.cond (x28 && (decide (b2.1.1 ≤ x1.2.1))) (some 32) (Fct.val 32 (.int .i64 x1.1.2))⟩, ⟨[24], [3], [], Fct.cond (x28 && (decide (b2.1.1 ≤ x1.2.1))) (some 33) (Fct.val 33 (.pointer (some ⟨g23, 2, none⟩)))⟩, ⟨[24, 28], [], [], Fct.cond (x28 && (decide (b2.1.1 ≤ x1.2.1))) (some 34) (Fct.val 34 (.pointer (some ⟨g23, 3, none⟩)))⟩, ⟨[24, 29], [], [], Fct.cond (x28 && (decide (b2.1.1 ≤ x1.2.1))) (some 35) (Fct.val 35 (.int .i64 b2.2.2))⟩, ⟨[24, 27, 30], [], [], Fct.cond (x28 && (decide (b2.1.1 ≤ x1.2.1))) (some 36) (Fct.val 36 (.bool (decide (x1.1.2 ≤ b2.2.2))))⟩, ⟨[24, 31], [], [], Fct.val 37 (.bool x29)⟩, ⟨[32], [], [], Fct.val 38 (.bool x29)⟩, ⟨[33], [3], [], Fct.cond x29 (some 39) (Fct.val 39 (.pointer (some ⟨g23, 0, none⟩)))⟩, ⟨[33, 34], [], [], Fct.cond x29 (some 40) (Fct.val 40 (.pointer (some ⟨g23, 1, none⟩)))⟩, ⟨[33, 35], [], [], Fct.cond x29 (some 41) (Fct.val 41 (.int .i64 b2.1.2))⟩, ⟨[33], [2], [], Fct.cond x29 (some 42) (Fct.val 42 (.pointer (some ⟨g21, 2, none⟩)))⟩, ⟨[33, 37], [], [], Fct.cond x29 (some 43) (Fct.val 43 (.pointer (some ⟨g21, 3, none⟩)))⟩, ⟨[33, 38], [], [], Fct.cond x29 (some 44) (Fct.val 44 (.int .i64 x1.2.2))⟩, ⟨[33, 36, 39], [], [], Fct.cond x29 (some 45) (Fct.val 45 (.bool (decide (b2.1.2 ≤ x1.2.2))))⟩, ⟨[33, 40], [], [], Fct.val 46 (.bool (x29 && (decide (b2.1.2 ≤ x1.2.2))))⟩, ⟨[41], [], [], Fct.val 4 (.bool (x29 && (decide (b2.1.2 ≤ x1.2.2))))⟩] hz25 hd25 (by kernel_rfl) ?_ ?_
  · refine sc (fun _ _ _ _ s hE => px (or_load (l := [.int .i64 x1.1.1, .int .i64 x1.1.2, .int .i64 x1.2.1, .int .i64 x1.2.2]) ta31 (s.1.trans e25_2) (Blk.cellsFrom (be_ hE b25_g21).2 0 rfl) rfl)) ?_
    refine sc (fun _ _ _ f _ _ => px (or_call cf14 (args1 f.1) (rows_Right_w _ x1  r26 hr26) post_val)) ?_
    refine sc (fun _ _ _ f _ _ => px (or_move f.1)) ?_
    refine sc (fun _ _ _ f s hE => sg_t rfl rfl rfl f.1 (fun hg => or_load (l := [.int .i64 b2.1.1, .int .i64 b2.1.2, .int .i64 b2.2.1, .int .i64 b2.2.2]) ta31 (s.1.trans e25_3) (Blk.cellsFrom (be_ hE b25_g23).2 0 rfl) rfl)) ?_
    refine sc (fun _ _ _ f _ _ => sg_t rfl rfl rfl f.1 (fun hg => or_call cf14 (args1 (f.2.1.1 hg)) (rows_Right_w _ b2  r27 (gd_t hr27 hg)) post_val)) ?_
    refine sc (fun _ _ _ f _ _ => px (or_and f.1 (fun hx => f.2.1.1 hx) rfl rfl)) ?_
    refine sc (fun _ _ _ f _ _ => px (or_move f.1)) ?_
    refine sc (fun _ _ _ f s _ => sg_t rfl rfl rfl f.1 (fun hg => or_field fo31_0 (s.1.trans e25_2) (by rfl))) ?_
    refine sc (fun _ _ _ f _ _ => sg_t rfl rfl rfl f.1 (fun hg => or_field fo25_0 (f.2.1.1 hg) (by rfl))) ?_
    refine sc (fun _ _ _ f _ hE => sg_t rfl rfl rfl f.1 (fun hg => or_load1 to3 (f.2.1.1 hg) (Blk.at_ (be_ hE b25_g21).2 0 rfl))) ?_
    refine sc (fun _ _ _ f s _ => sg_t rfl rfl rfl f.1 (fun hg => or_field fo31_1 (s.1.trans e25_3) (by rfl))) ?_
    refine sc (fun _ _ _ f _ _ => sg_t rfl rfl rfl f.1 (fun hg => or_field fo25_0 (f.2.1.1 hg) (by rfl))) ?_
    refine sc (fun _ _ _ f _ hE => sg_t rfl rfl rfl f.1 (fun hg => or_load1 to3 (f.2.1.1 hg) (Blk.at_ (be_ hE b25_g23).2 2 rfl))) ?_
    refine sc (fun _ _ _ f _ _ => sg_t rfl rfl rfl f.1 (fun hg => or_leq (f.2.1.1 hg) (f.2.2.1.1 hg) rfl)) ?_
    refine sc (fun _ _ _ f _ _ => px (or_and f.1 (fun hx => f.2.1.1 hx) rfl (osome hx28).symm)) ?_
    refine sc (fun _ _ _ f _ _ => px (or_move f.1)) ?_
    refine sc (fun _ _ _ f s _ => sg_t rfl rfl rfl f.1 (fun hg => or_field fo31_0 (s.1.trans e25_3) (by rfl))) ?_
    refine sc (fun _ _ _ f _ _ => sg_t rfl rfl rfl f.1 (fun hg => or_field fo25_0 (f.2.1.1 hg) (by rfl))) ?_
    refine sc (fun _ _ _ f _ hE => sg_t rfl rfl rfl f.1 (fun hg => or_load1 to3 (f.2.1.1 hg) (Blk.at_ (be_ hE b25_g23).2 0 rfl))) ?_
    refine sc (fun _ _ _ f s _ => sg_t rfl rfl rfl f.1 (fun hg => or_field fo31_1 (s.1.trans e25_2) (by rfl))) ?_
    refine sc (fun _ _ _ f _ _ => sg_t rfl rfl rfl f.1 (fun hg => or_field fo25_0 (f.2.1.1 hg) (by rfl))) ?_
    refine sc (fun _ _ _ f _ hE => sg_t rfl rfl rfl f.1 (fun hg => or_load1 to3 (f.2.1.1 hg) (Blk.at_ (be_ hE b25_g21).2 2 rfl))) ?_
    refine sc (fun _ _ _ f _ _ => sg_t rfl rfl rfl f.1 (fun hg => or_leq (f.2.1.1 hg) (f.2.2.1.1 hg) rfl)) ?_
    refine sc (fun _ _ _ f _ _ => px (or_and f.1 (fun hx => f.2.1.1 hx) rfl rfl)) ?_
    refine sc (fun _ _ _ f _ _ => px (or_move f.1)) ?_
    refine sc (fun _ _ _ f s _ => sg_t rfl rfl rfl f.1 (fun hg => or_field fo31_0 (s.1.trans e25_2) (by rfl))) ?_
    refine sc (fun _ _ _ f _ _ => sg_t rfl rfl rfl f.1 (fun hg => or_field fo25_1 (f.2.1.1 hg) (by rfl))) ?_
    refine sc (fun _ _ _ f _ hE => sg_t rfl rfl rfl f.1 (fun hg => or_load1 to3 (f.2.1.1 hg) (Blk.at_ (be_ hE b25_g21).2 1 rfl))) ?_
    refine sc (fun _ _ _ f s _ => sg_t rfl rfl rfl f.1 (fun hg => or_field fo31_1 (s.1.trans e25_3) (by rfl))) ?_
    refine sc (fun _ _ _ f _ _ => sg_t rfl rfl rfl f.1 (fun hg => or_field fo25_1 (f.2.1.1 hg) (by rfl))) ?_
    refine sc (fun _ _ _ f _ hE => sg_t rfl rfl rfl f.1 (fun hg => or_load1 to3 (f.2.1.1 hg) (Blk.at_ (be_ hE b25_g23).2 3 rfl))) ?_
    refine sc (fun _ _ _ f _ _ => sg_t rfl rfl rfl f.1 (fun hg => or_leq (f.2.1.1 hg) (f.2.2.1.1 hg) rfl)) ?_
    refine sc (fun _ _ _ f _ _ => px (or_and f.1 (fun hx => f.2.1.1 hx) rfl (osome hx29).symm)) ?_
    refine sc (fun _ _ _ f _ _ => px (or_move f.1)) ?_
    refine sc (fun _ _ _ f s _ => sg_t rfl rfl rfl f.1 (fun hg => or_field fo31_0 (s.1.trans e25_3) (by rfl))) ?_
    refine sc (fun _ _ _ f _ _ => sg_t rfl rfl rfl f.1 (fun hg => or_field fo25_1 (f.2.1.1 hg) (by rfl))) ?_
    refine sc (fun _ _ _ f _ hE => sg_t rfl rfl rfl f.1 (fun hg => or_load1 to3 (f.2.1.1 hg) (Blk.at_ (be_ hE b25_g23).2 1 rfl))) ?_
    refine sc (fun _ _ _ f s _ => sg_t rfl rfl rfl f.1 (fun hg => or_field fo31_1 (s.1.trans e25_2) (by rfl))) ?_
    refine sc (fun _ _ _ f _ _ => sg_t rfl rfl rfl f.1 (fun hg => or_field fo25_1 (f.2.1.1 hg) (by rfl))) ?_
    refine sc (fun _ _ _ f _ hE => sg_t rfl rfl rfl f.1 (fun hg => or_load1 to3 (f.2.1.1 hg) (Blk.at_ (be_ hE b25_g21).2 3 rfl))) ?_
    refine sc (fun _ _ _ f _ _ => sg_t rfl rfl rfl f.1 (fun hg => or_leq (f.2.1.1 hg) (f.2.2.1.1 hg) rfl)) ?_
    refine sc (fun _ _ _ f _ _ => px (or_and f.1 (fun hx => f.2.1.1 hx) rfl rfl)) ?_
    refine sc (fun _ _ _ f _ _ => px (or_assign f.1)) ?_
    exact steps_nil
  intro own30 a30 w30 hd30 hz30 hk30 hf30 hE30
  obtain ⟨(e30_4 : a30.eval (.tmp 4) = .bool (x29 && (decide (b2.1.2 ≤ x1.2.2)))), -⟩ := hf30 [42] rfl
  have hX30 := es_ hX25 hE30
  refine fl_ret ?_
  obtain rfl := osome hs
  exact hret _ _ _ _ (.inl rfl) hd30 (results1_ rfl (RVal.tmp_ e30_4)) ⟨own30, rfl, hX30⟩
theorem exact_Turn_w (w : World) (x1 : Int × Int) (b2 : Int × Int) (c3 : Int × Int) (r : Int) (hs : exact_Turn x1 b2 c3 = some r) :
    Calls Try.prog 33 #[.agg #[.int .i64 x1.1, .int .i64 x1.2], .agg #[.int .i64 b2.1, .int .i64 b2.2], .agg #[.int .i64 c3.1, .int .i64 c3.2]] w fun e w' => ∃ own' : Own, e = .returned (.int .i64 r) ∧ Evo [] (fun _ => 0) own' w w' := by
  refine fl_enter (n := 18) rfl rfl rfl (Nat.le_of_ble_eq_true rfl) ?_
  intro a0 Q hd0 hz0 harg hret
  have ha0 := harg 0 _ rfl
  have ha1 := harg 1 _ rfl
  have ha2 := harg 2 _ rfl
  clear harg
  have hE0 : Evo [] (fun _ => 0) (fun _ => 0) w w := Evo.refl _ _ _
  refine rg0_seq 18 (fun _ => 0) [0, 0, 0, 0] [⟨[], [0], [], Fct.blk 30 3 (fun g => .pointer (some ⟨g, 0, none⟩)) 25 #[.int .i64 x1.1, .int .i64 x1.2]⟩, ⟨[], [1], [], Fct.blk 32 4 (fun g => .pointer (some ⟨g, 0, none⟩)) 25 #[.int .i64 b2.1, .int .i64 b2.2]⟩, ⟨[], [2], [], Fct.blk 34 5 (fun g => .pointer (some ⟨g, 0, none⟩)) 25 #[.int .i64 c3.1, .int .i64 c3.2]⟩, ⟨[], [], [], Fct.val 6 (.int .i64 0)⟩] hz0 hd0 (by kernel_rfl) ?_ ?_
  · refine sc (fun _ _ _ _ s _ => px (or_new [(0, .agg #[.int .i64 x1.1, .int .i64 x1.2])] rfl rfl ⟨(s.1.trans ha0), trivial⟩ (by kernel_rfl))) ?_
    refine sc (fun _ _ _ _ s _ => px (or_new [(1, .agg #[.int .i64 b2.1, .int .i64 b2.2])] rfl rfl ⟨(s.1.trans ha1), trivial⟩ (by kernel_rfl))) ?_
    refine sc (fun _ _ _ _ s _ => px (or_new [(2, .agg #[.int .i64 c3.1, .int .i64 c3.2])] rfl rfl ⟨(s.1.trans ha2), trivial⟩ (by kernel_rfl))) ?_
    refine sc (fun _ _ _ _ _ _ => px (or_assign rfl)) ?_
    exact steps_nil
  intro own35 a35 w35 hd35 hz35 hk35 hf35 hE35
  obtain ⟨⟨g29, (e35_3 : a35.eval (.tmp 3) = .pointer (some ⟨g29, 0, none⟩)), (b35_g29 : BlkO own35 30 w35 g29 25 #[.int .i64 x1.1, .int .i64 x1.2])⟩, ⟨g31, (e35_4 : a35.eval (.tmp 4) = .pointer (some ⟨g31, 0, none⟩)), (b35_g31 : BlkO own35 32 w35 g31 25 #[.int .i64 b2.1, .int .i64 b2.2])⟩, ⟨g33, (e35_5 : a35.eval (.tmp 5) = .pointer (some ⟨g33, 0, none⟩)), (b35_g33 : BlkO own35 34 w35 g33 25 #[.int .i64 c3.1, .int .i64 c3.2])⟩, -⟩ := hf35 [0, 1, 2] rfl
  have hX35 := es_ hE0 hE35
  refine fl_seq (fun Q36 hn36 hp36 => ?_)
  obtain ⟨r37, hr37, hs⟩ := obind hs
  refine rg0_seq 18 own35 [0, 0, 0, 7, 15] [⟨[], [3], [], Fct.val 8 (.agg #[.int .i64 x1.1, .int .i64 x1.2])⟩, ⟨[], [4], [], Fct.val 9 (.agg #[.int .i64 b2.1, .int .i64 b2.2])⟩, ⟨[], [5], [], Fct.val 10 (.agg #[.int .i64 c3.1, .int .i64 c3.2])⟩, ⟨[0, 1, 2], [], [], Fct.val 11 (.int .i64 r37)⟩, ⟨[3], [], [], Fct.val 7 (.int .i64 r37)⟩] hz35 hd35 (by kernel_rfl) ?_ ?_
  · refine sc (fun _ _ _ _ s hE => px (or_load (l := [.int .i64 x1.1, .int .i64 x1.2]) ta25 (s.1.trans e35_3) (Blk.cellsFrom (be_ hE b35_g29).2 0 rfl) rfl)) ?_
    refine sc (fun _ _ _ _ s hE => px (or_load (l := [.int .i64 b2.1, .int .i64 b2.2]) ta25 (s.1.trans e35_4) (Blk.cellsFrom (be_ hE b35_g31).2 0 rfl) rfl)) ?_
    refine sc (fun _ _ _ _ s hE => px (or_load (l := [.int .i64 c3.1, .int .i64 c3.2]) ta25 (s.1.trans e35_5) (Blk.cellsFrom (be_ hE b35_g33).2 0 rfl) rfl)) ?_
    refine sc (fun _ _ _ f _ _ => px (or_call cf26 (args3 f.1 f.2.1 f.2.2.1) (exact_Cross_w _ x1 b2 c3  r37 hr37) post_val)) ?_
    refine sc (fun _ _ _ f _ _ => px (or_assign f.1)) ?_
    exact steps_nil
  intro own38 a38 w38 hd38 hz38 hk38 hf38 hE38
  obtain ⟨(e38_7 : a38.eval (.tmp 7) = .int .i64 r37), -⟩ := hf38 [4] rfl
  have hX38 := es_ hX35 hE38
  refine fl_block (fun Q39 hn39 hx39 hp39 => ?_)
  refine rg0_seq 18 own38 (bz 3) [⟨[], [7], [], Fct.val 13 (.int .i64 r37)⟩, ⟨[0], [], [], Fct.val 14 (.bool (decide (0 < r37)))⟩, ⟨[1], [], [], Fct.val 12 (.bool (decide (0 < r37)))⟩] hz38 hd38 (by kernel_rfl) ?_ ?_
  · refine sc (fun _ _ _ _ s _ => px (or_move (s.1.trans e38_7))) ?_
    refine sc (fun _ _ _ f _ _ => px (or_gtr f.1 rfl rfl)) ?_
    refine sc (fun _ _ _ f _ _ => px (or_assign f.1)) ?_
    exact steps_nil
  intro own40 a40 w40 hd40 hz40 hk40 hf40 hE40
  have e40_7 := (hk40 7 rfl).trans e38_7
  obtain ⟨(e40_12 : a40.eval (.tmp 12) = .bool (decide (0 < r37))), -⟩ := hf40 [2] rfl
  have hX40 := es_ hX38 hE40
  refine fl_cond e40_12 hs (fun c41 hs => ?_) (fun c41 hs => ?_)
  · refine rg0_seq 18 own40 (bz 1) [⟨[], [], [], Fct.val 6 (.int .i64 1)⟩] hz40 hd40 (by kernel_rfl) ?_ ?_
    · refine sc (fun _ _ _ _ _ _ => px (or_assign rfl)) ?_
      exact steps_nil
    intro own42 a42 w42 hd42 hz42 hk42 hf42 hE42
    obtain ⟨(e42_6 : a42.eval (.tmp 6) = .int .i64 1), -⟩ := hf42 [0] rfl
    have hX42 := es_ hX40 hE42
    refine fl_ret ?_
    refine hp39 _ _ _ rfl ?_
    refine hp36 _ _ _ rfl ?_
    obtain rfl := osome hs
    exact hret _ _ _ _ (.inl rfl) hd42 (results1_ rfl (RVal.tmp_ e42_6)) ⟨own42, rfl, hX42⟩
  refine rg0_seq 18 own40 (bz 3) [⟨[], [7], [], Fct.val 16 (.int .i64 r37)⟩, ⟨[0], [], [], Fct.val 17 (.bool (decide (r37 < 0)))⟩, ⟨[1], [], [], Fct.val 15 (.bool (decide (r37 < 0)))⟩] hz40 hd40 (by kernel_rfl) ?_ ?_
  · refine sc (fun _ _ _ _ s _ => px (or_move (s.1.trans e40_7))) ?_
    refine sc (fun _ _ _ f _ _ => px (or_lss f.1 rfl rfl)) ?_
    refine sc (fun _ _ _ f _ _ => px (or_assign f.1)) ?_
    exact steps_nil
  intro own43 a43 w43 hd43 hz43 hk43 hf43 hE43
  obtain ⟨(e43_15 : a43.eval (.tmp 15) = .bool (decide (r37 < 0))), -⟩ := hf43 [2] rfl
  have hX43 := es_ hX40 hE43
  refine fl_cond e43_15 hs (fun c44 hs => ?_) (fun c44 hs => ?_)
  · refine rg0_seq 18 own43 (bz 1) [⟨[], [], [], Fct.val 6 (.int .i64 (-1))⟩] hz43 hd43 (by kernel_rfl) ?_ ?_
    · refine sc (fun _ _ _ _ _ _ => px (or_assign rfl)) ?_
      exact steps_nil
    intro own45 a45 w45 hd45 hz45 hk45 hf45 hE45
    obtain ⟨(e45_6 : a45.eval (.tmp 6) = .int .i64 (-1)), -⟩ := hf45 [0] rfl
    have hX45 := es_ hX43 hE45
    refine fl_ret ?_
    refine hp39 _ _ _ rfl ?_
    refine hp36 _ _ _ rfl ?_
    obtain rfl := osome hs
    exact hret _ _ _ _ (.inl rfl) hd45 (results1_ rfl (RVal.tmp_ e45_6)) ⟨own45, rfl, hX45⟩
  refine fl_skip ?_
  refine hn39 _ _ ?_
  refine hn36 _ _ ?_
  refine rg0_seq 18 own43 (bz 1) [⟨[], [], [], Fct.val 6 (.int .i64 0)⟩] hz43 hd43 (by kernel_rfl) ?_ ?_
  · refine sc (fun _ _ _ _ _ _ => px (or_assign rfl)) ?_
    exact steps_nil
  intro own46 a46 w46 hd46 hz46 hk46 hf46 hE46
  obtain ⟨(e46_6 : a46.eval (.tmp 6) = .int .i64 0), -⟩ := hf46 [0] rfl
  have hX46 := es_ hX43 hE46
  refine fl_ret ?_
  obtain rfl := osome hs
  exact hret _ _ _ _ (.inl rfl) hd46 (results1_ rfl (RVal.tmp_ e46_6)) ⟨own46, rfl, hX46⟩
theorem exact_Less_w (w : World) (x1 : Int × Int) (b2 : Int × Int) (r : Bool) (hs : exact_Less x1 b2 = some r) :
    Calls Try.prog 44 #[.agg #[.int .i64 x1.1, .int .i64 x1.2], .agg #[.int .i64 b2.1, .int .i64 b2.2]] w fun e w' => ∃ own' : Own, e = .returned (.bool r) ∧ Evo [] (fun _ => 0) own' w w' := by
  refine fl_enter (n := 24) rfl rfl rfl (Nat.le_of_ble_eq_true rfl) ?_
  intro a0 Q hd0 hz0 harg hret
  have ha0 := harg 0 _ rfl
  have ha1 := harg 1 _ rfl
  clear harg
  have hE0 : Evo [] (fun _ => 0) (fun _ => 0) w w := Evo.refl _ _ _
  refine rg0_seq 24 (fun _ => 0) [0, 0, 0] [⟨[], [0], [], Fct.blk 19 2 (fun g => .pointer (some ⟨g, 0, none⟩)) 25 #[.int .i64 x1.1, .int .i64 x1.2]⟩, ⟨[], [1], [], Fct.blk 21 3 (fun g => .pointer (some ⟨g, 0, none⟩)) 25 #[.int .i64 b2.1, .int .i64 b2.2]⟩, ⟨[], [], [], Fct.val 4 (.bool false)⟩] hz0 hd0 (by kernel_rfl) ?_ ?_
  · refine sc (fun _ _ _ _ s _ => px (or_new [(0, .agg #[.int .i64 x1.1, .int .i64 x1.2])] rfl rfl ⟨(s.1.trans ha0), trivial⟩ (by kernel_rfl))) ?_
    refine sc (fun _ _ _ _ s _ => px (or_new [(1, .agg #[.int .i64 b2.1, .int .i64 b2.2])] rfl rfl ⟨(s.1.trans ha1), trivial⟩ (by kernel_rfl))) ?_
    refine sc (fun _ _ _ _ _ _ => px (or_assign rfl)) ?_
    exact steps_nil
  intro own22 a22 w22 hd22 hz22 hk22 hf22 hE22
  obtain ⟨⟨g18, (e22_2 : a22.eval (.tmp 2) = .pointer (some ⟨g18, 0, none⟩)), (b22_g18 : BlkO own22 19 w22 g18 25 #[.int .i64 x1.1, .int .i64 x1.2])⟩, ⟨g20, (e22_3 : a22.eval (.tmp 3) = .pointer (some ⟨g20, 0, none⟩)), (b22_g20 : BlkO own22 21 w22 g20 25 #[.int .i64 b2.1, .int .i64 b2.2])⟩, -⟩ := hf22 [0, 1] rfl
  have hX22 := es_ hE0 hE22
  obtain ⟨x23, hx23, hs⟩ := obind hs
  refine rg0_seq 24 own22 [0, 1, 0, 4, 15, 31, 63, 127, 63, 319, 1023, 2047, 4095, 8191, 4095, 20479, 65535, 131071, 262143, 524287] [⟨[], [2], [], Fct.val 5 (.pointer (some ⟨g18, 0, none⟩))⟩, ⟨[0], [], [], Fct.val 6 (.int .i64 x1.1)⟩, ⟨[], [3], [], Fct.val 7 (.pointer (some ⟨g20, 0, none⟩))⟩, ⟨[2], [], [], Fct.val 8 (.int .i64 b2.1)⟩, ⟨[1, 3], [], [], Fct.val 9 (.bool (decide (x1.1 < b2.1)))⟩, ⟨[4], [], [], Fct.val 10 (.bool (decide (x1.1 < b2.1)))⟩, ⟨[5], [2], [], Fct.cond (!(decide (x1.1 < b2.1))) (some 11) (Fct.val 11 (.pointer (some ⟨g18, 0, none⟩)))⟩, ⟨[5, 6], [], [], Fct.cond (!(decide (x1.1 < b2.1))) (some 12) (Fct.val 12 (.int .i64 x1.1))⟩, ⟨[5], [3], [], Fct.cond (!(decide (x1.1 < b2.1))) (some 13) (Fct.val 13 (.pointer (some ⟨g20, 0, none⟩)))⟩, ⟨[5, 8], [], [], Fct.cond (!(decide (x1.1 < b2.1))) (some 14) (Fct.val 14 (.int .i64 b2.1))⟩, ⟨[5, 7, 9], [], [], Fct.cond (!(decide (x1.1 < b2.1))) (some 15) (Fct.val 15 (.bool (decide (x1.1 = b2.1))))⟩, ⟨[5, 10], [], [], Fct.cond (!(decide (x1.1 < b2.1))) (some 16) (Fct.val 16 (.bool (decide (x1.1 = b2.1))))⟩, ⟨[11], [2], [], Fct.cond ((!(decide (x1.1 < b2.1))) && (decide (x1.1 = b2.1))) (some 17) (Fct.val 17 (.pointer (some ⟨g18, 1, none⟩)))⟩, ⟨[11, 12], [], [], Fct.cond ((!(decide (x1.1 < b2.1))) && (decide (x1.1 = b2.1))) (some 18) (Fct.val 18 (.int .i64 x1.2))⟩, ⟨[11], [3], [], Fct.cond ((!(decide (x1.1 < b2.1))) && (decide (x1.1 = b2.1))) (some 19) (Fct.val 19 (.pointer (some ⟨g20, 1, none⟩)))⟩, ⟨[11, 14], [], [], Fct.cond ((!(decide (x1.1 < b2.1))) && (decide (x1.1 = b2.1))) (some 20) (Fct.val 20 (.int .i64 b2.2))⟩, ⟨[11, 13, 15], [], [], Fct.cond ((!(decide (x1.1 < b2.1))) && (decide (x1.1 = b2.1))) (some 21) (Fct.val 21 (.bool (decide (x1.2 < b2.2))))⟩, ⟨[5, 11, 16], [], [], Fct.cond (!(decide (x1.1 < b2.1))) (some 22) (Fct.val 22 (.bool x23))⟩, ⟨[5, 17], [], [], Fct.val 23 (.bool ((decide (x1.1 < b2.1)) || x23))⟩, ⟨[18], [], [], Fct.val 4 (.bool ((decide (x1.1 < b2.1)) || x23))⟩] hz22 hd22 (by kernel_rfl) ?_ ?_
  · refine sc (fun _ _ _ _ s _ => px (or_field fo25_0 (s.1.trans e22_2) (by rfl))) ?_
    refine sc (fun _ _ _ f _ hE => px (or_load1 to3 f.1 (Blk.at_ (be_ hE b22_g18).2 0 rfl))) ?_
    refine sc (fun _ _ _ _ s _ => px (or_field fo25_0 (s.1.trans e22_3) (by rfl))) ?_
    refine sc (fun _ _ _ f _ hE => px (or_load1 to3 f.1 (Blk.at_ (be_ hE b22_g20).2 0 rfl))) ?_
    refine sc (fun _ _ _ f _ _ => px (or_lss f.1 f.2.1 rfl)) ?_
    refine sc (fun _ _ _ f _ _ => px (or_move f.1)) ?_
    refine sc (fun _ _ _ f s _ => sg_f rfl rfl rfl f.1 (fun hg => or_field fo25_0 (s.1.trans e22_2) (by rfl))) ?_
    refine sc (fun _ _ _ f _ hE => sg_f rfl rfl rfl f.1 (fun hg => or_load1 to3 (f.2.1.1 hg) (Blk.at_ (be_ hE b22_g18).2 0 rfl))) ?_
    refine sc (fun _ _ _ f s _ => sg_f rfl rfl rfl f.1 (fun hg => or_field fo25_0 (s.1.trans e22_3) (by rfl))) ?_
    refine sc (fun _ _ _ f _ hE => sg_f rfl rfl rfl f.1 (fun hg => or_load1 to3 (f.2.1.1 hg) (Blk.at_ (be_ hE b22_g20).2 0 rfl))) ?_
    refine sc (fun _ _ _ f _ _ => sg_f rfl rfl rfl f.1 (fun hg => or_eql (f.2.1.1 hg) (f.2.2.1.1 hg) rfl)) ?_
    refine sc (fun _ _ _ f _ _ => sg_f rfl rfl rfl f.1 (fun hg => or_move (f.2.1.1 hg))) ?_
    refine sc (fun _ _ _ f s _ => sg_tc rfl rfl rfl f.1 (fun hg => or_field fo25_1 (s.1.trans e22_2) (by rfl))) ?_
    refine sc (fun _ _ _ f _ hE => sg_tc rfl rfl rfl f.1 (fun hg => or_load1 to3 (f.2.1.1 hg) (Blk.at_ (be_ hE b22_g18).2 1 rfl))) ?_
    refine sc (fun _ _ _ f s _ => sg_tc rfl rfl rfl f.1 (fun hg => or_field fo25_1 (s.1.trans e22_3) (by rfl))) ?_
    refine sc (fun _ _ _ f _ hE => sg_tc rfl rfl rfl f.1 (fun hg => or_load1 to3 (f.2.1.1 hg) (Blk.at_ (be_ hE b22_g20).2 1 rfl))) ?_
    refine sc (fun _ _ _ f _ _ => sg_tc rfl rfl rfl f.1 (fun hg => or_lss (f.2.1.1 hg) (f.2.2.1.1 hg) rfl)) ?_
    refine sc (fun _ _ _ f _ _ => sg_f rfl rfl rfl f.1 (fun hg => or_and (f.2.1.1 hg) (fun hx => f.2.2.1.1 (gI hg hx)) rfl (osome hx23).symm)) ?_
    refine sc (fun _ _ _ f _ _ => px (or_or f.1 rfl (fun hx => f.2.1.1 hx) rfl)) ?_
    refine sc (fun _ _ _ f _ _ => px (or_assign f.1)) ?_
    exact steps_nil
  intro own24 a24 w24 hd24 hz24 hk24 hf24 hE24
  obtain ⟨(e24_4 : a24.eval (.tmp 4) = .bool ((decide (x1.1 < b2.1)) || x23)), -⟩ := hf24 [19] rfl
  have hX24 := es_ hX22 hE24
  refine fl_ret ?_
  obtain rfl := osome hs
  exact hret _ _ _ _ (.inl rfl) hd24 (results1_ rfl (RVal.tmp_ e24_4)) ⟨own24, rfl, hX24⟩
theorem seg_line_w (w : World) (x1 : Int × Int) (b2 : Int × Int) (c3 : Int × Int) (d4 : Int × Int) (r : Int) (hs : seg_line x1 b2 c3 d4 = some r) :
    Calls Try.prog 40 #[.agg #[.int .i64 x1.1, .int .i64 x1.2], .agg #[.int .i64 b2.1, .int .i64 b2.2], .agg #[.int .i64 c3.1, .int .i64 c3.2], .agg #[.int .i64 d4.1, .int .i64 d4.2]] w fun e w' => ∃ own' : Own, e = .returned (.int .i64 r) ∧ Evo [] (fun _ => 0) own' w w' := by
  refine fl_enter (n := 37) rfl rfl rfl (Nat.le_of_ble_eq_true rfl) ?_
  intro a0 Q hd0 hz0 harg hret
  have ha0 := harg 0 _ rfl
  have ha1 := harg 1 _ rfl
  have ha2 := harg 2 _ rfl
  have ha3 := harg 3 _ rfl
  clear harg
  have hE0 : Evo [] (fun _ => 0) (fun _ => 0) w w := Evo.refl _ _ _
  refine rg0_seq 37 (fun _ => 0) [0, 0, 0, 0, 0] [⟨[], [0], [], Fct.blk 75 4 (fun g => .pointer (some ⟨g, 0, none⟩)) 25 #[.int .i64 x1.1, .int .i64 x1.2]⟩, ⟨[], [1], [], Fct.blk 77 5 (fun g => .pointer (some ⟨g, 0, none⟩)) 25 #[.int .i64 b2.1, .int .i64 b2.2]⟩, ⟨[], [2], [], Fct.blk 79 6 (fun g => .pointer (some ⟨g, 0, none⟩)) 25 #[.int .i64 c3.1, .int .i64 c3.2]⟩, ⟨[], [3], [], Fct.blk 81 7 (fun g => .pointer (some ⟨g, 0, none⟩)) 25 #[.int .i64 d4.1, .int .i64 d4.2]⟩, ⟨[], [], [], Fct.val 8 (.int .i64 0)⟩] hz0 hd0 (by kernel_rfl) ?_ ?_
  · refine sc (fun _ _ _ _ s _ => px (or_new [(0, .agg #[.int .i64 x1.1, .int .i64 x1.2])] rfl rfl ⟨(s.1.trans ha0), trivial⟩ (by kernel_rfl))) ?_
    refine sc (fun _ _ _ _ s _ => px (or_new [(1, .agg #[.int .i64 b2.1, .int .i64 b2.2])] rfl rfl ⟨(s.1.trans ha1), trivial⟩ (by kernel_rfl))) ?_
    refine sc (fun _ _ _ _ s _ => px (or_new [(2, .agg #[.int .i64 c3.1, .int .i64 c3.2])] rfl rfl ⟨(s.1.trans ha2), trivial⟩ (by kernel_rfl))) ?_
    refine sc (fun _ _ _ _ s _ => px (or_new [(3, .agg #[.int .i64 d4.1, .int .i64 d4.2])] rfl rfl ⟨(s.1.trans ha3), trivial⟩ (by kernel_rfl))) ?_
    refine sc (fun _ _ _ _ _ _ => px (or_assign rfl)) ?_
    exact steps_nil
  intro own82 a82 w82 hd82 hz82 hk82 hf82 hE82
  obtain ⟨⟨g74, (e82_4 : a82.eval (.tmp 4) = .pointer (some ⟨g74, 0, none⟩)), (b82_g74 : BlkO own82 75 w82 g74 25 #[.int .i64 x1.1, .int .i64 x1.2])⟩, ⟨g76, (e82_5 : a82.eval (.tmp 5) = .pointer (some ⟨g76, 0, none⟩)), (b82_g76 : BlkO own82 77 w82 g76 25 #[.int .i64 b2.1, .int .i64 b2.2])⟩, ⟨g78, (e82_6 : a82.eval (.tmp 6) = .pointer (some ⟨g78, 0, none⟩)), (b82_g78 : BlkO own82 79 w82 g78 25 #[.int .i64 c3.1, .int .i64 c3.2])⟩, ⟨g80, (e82_7 : a82.eval (.tmp 7) = .pointer (some ⟨g80, 0, none⟩)), (b82_g80 : BlkO own82 81 w82 g80 25 #[.int .i64 d4.1, .int .i64 d4.2])⟩, -⟩ := hf82 [0, 1, 2, 3] rfl
  have hX82 := es_ hE0 hE82
  refine fl_seq (fun Q83 hn83 hp83 => ?_)
  have K95 : ∀ (a95 : Act) (w95 : World) (own95 : Own) (x92 : Int × Int) (b94 : Int × Int), a95.defers = [] → a95.tmps.size = 37 → a95.eval (.tmp 4) = .pointer (some ⟨g74, 0, none⟩) → a95.eval (.tmp 5) = .pointer (some ⟨g76, 0, none⟩) → a95.eval (.tmp 6) = .pointer (some ⟨g78, 0, none⟩) → a95.eval (.tmp 7) = .pointer (some ⟨g80, 0, none⟩) → Evo [] (fun _ => 0) own95 w w95 → BlkO own95 91 w95 g74 25 #[.int .i64 x92.1, .int .i64 x92.2] → BlkO own95 93 w95 g76 25 #[.int .i64 b94.1, .int .i64 b94.2] → BlkO own95 79 w95 g78 25 #[.int .i64 c3.1, .int .i64 c3.2] → BlkO own95 81 w95 g80 25 #[.int .i64 d4.1, .int .i64 d4.2] → seg_line_k1 c3 d4 x92 b94 = some r → Q83 .normal a95 w95 := by
    intro a95 w95 own95 x92 b94 hd96 hz96 e96_4 e96_5 e96_6 e96_7 hE96 b96_g74 b96_g76 b96_g78 b96_g80 hs
    refine hn83 _ _ ?_
    refine fl_seq (fun Q97 hn97 hp97 => ?_)
    have K109 : ∀ (a109 : Act) (w109 : World) (own109 : Own) (c106 : Int × Int) (d108 : Int × Int), a109.defers = [] → a109.tmps.size = 37 → a109.eval (.tmp 4) = .pointer (some ⟨g74, 0, none⟩) → a109.eval (.tmp 5) = .pointer (some ⟨g76, 0, none⟩) → a109.eval (.tmp 6) = .pointer (some ⟨g78, 0, none⟩) → a109.eval (.tmp 7) = .pointer (some ⟨g80, 0, none⟩) → Evo [] (fun _ => 0) own109 w w109 → BlkO own109 91 w109 g74 25 #[.int .i64 x92.1, .int .i64 x92.2] → BlkO own109 93 w109 g76 25 #[.int .i64 b94.1, .int .i64 b94.2] → BlkO own109 105 w109 g78 25 #[.int .i64 c106.1, .int .i64 c106.2] → BlkO own109 107 w109 g80 25 #[.int .i64 d108.1, .int .i64 d108.2] → seg_line_k2 x92 b94 c106 d108 = some r → Q97 .normal a109 w109 := by
      intro a109 w109 own109 c106 d108 hd110 hz110 e110_4 e110_5 e110_6 e110_7 hE110 b110_g74 b110_g76 b110_g78 b110_g80 hs
      refine hn97 _ _ ?_
      refine fl_seq (fun Q111 hn111 hp111 => ?_)
      refine fl_block (fun Q112 hn112 hx112 hp112 => ?_)
      obtain ⟨r113, hr113, hs⟩ := obind hs
      obtain ⟨r114, hr114, hs⟩ := obind hs
      refine rg0_seq 37 own109 [0, 0, 3, 7, 15, 15, 63, 127, 255] [⟨[], [5], [], Fct.val 20 (.agg #[.int .i64 b94.1, .int .i64 b94.2])⟩, ⟨[], [6], [], Fct.val 21 (.agg #[.int .i64 c106.1, .int .i64 c106.2])⟩, ⟨[0, 1], [], [], Fct.val 22 (.bool r113)⟩, ⟨[2], [], [], Fct.val 23 (.bool r113)⟩, ⟨[3], [7], [], Fct.cond (!r113) (some 24) (Fct.val 24 (.agg #[.int .i64 d108.1, .int .i64 d108.2]))⟩, ⟨[3], [4], [], Fct.cond (!r113) (some 25) (Fct.val 25 (.agg #[.int .i64 x92.1, .int .i64 x92.2]))⟩, ⟨[3, 4, 5], [], [], Fct.cond (!r113) (some 26) (Fct.val 26 (.bool r114))⟩, ⟨[3, 6], [], [], Fct.val 27 (.bool (r113 || r114))⟩, ⟨[7], [], [], Fct.val 19 (.bool (r113 || r114))⟩] hz110 hd110 (by kernel_rfl) ?_ ?_
      · refine sc (fun _ _ _ _ s hE => px (or_load (l := [.int .i64 b94.1, .int .i64 b94.2]) ta25 (s.1.trans e110_5) (Blk.cellsFrom (be_ hE b110_g76).2 0 rfl) rfl)) ?_
        refine sc (fun _ _ _ _ s hE => px (or_load (l := [.int .i64 c106.1, .int .i64 c106.2]) ta25 (s.1.trans e110_6) (Blk.cellsFrom (be_ hE b110_g78).2 0 rfl) rfl)) ?_
        refine sc (fun _ _ _ f _ _ => px (or_call cf44 (args2 f.1 f.2.1) (exact_Less_w _ b94 c106  r113 hr113) post_val)) ?_
        refine sc (fun _ _ _ f _ _ => px (or_move f.1)) ?_
        refine sc (fun _ _ _ f s hE => sg_f rfl rfl rfl f.1 (fun hg => or_load (l := [.int .i64 d108.1, .int .i64 d108.2]) ta25 (s.1.trans e110_7) (Blk.cellsFrom (be_ hE b110_g80).2 0 rfl) rfl)) ?_
        refine sc (fun _ _ _ f s hE => sg_f rfl rfl rfl f.1 (fun hg => or_load (l := [.int .i64 x92.1, .int .i64 x92.2]) ta25 (s.1.trans e110_4) (Blk.cellsFrom (be_ hE b110_g74).2 0 rfl) rfl)) ?_
        refine sc (fun _ _ _ f _ _ => sg_f rfl rfl rfl f.1 (fun hg => or_call cf44 (args2 (f.2.1.1 hg) (f.2.2.1.1 hg)) (exact_Less_w _ d108 x92  r114 (gd_t hr114 hg)) post_val)) ?_
        refine sc (fun _ _ _ f _ _ => px (or_or f.1 rfl (fun hx => f.2.1.1 hx) rfl)) ?_
        refine sc (fun _ _ _ f _ _ => px (or_assign f.1)) ?_
        exact steps_nil
      intro own115 a115 w115 hd115 hz115 hk115 hf115 hE115
      have e115_4 := (hk115 4 rfl).trans e110_4
      have e115_5 := (hk115 5 rfl).trans e110_5
      have e115_6 := (hk115 6 rfl).trans e110_6
      have e115_7 := (hk115 7 rfl).trans e110_7
      obtain ⟨(e115_19 : a115.eval (.tmp 19) = .bool (r113 || r114)), -⟩ := hf115 [8] rfl
      have hX115 := es_ hE110 hE115
      have b115_g74 := be_ hE115 b110_g74
      have b115_g76 := be_ hE115 b110_g76
      have b115_g78 := be_ hE115 b110_g78
      have b115_g80 := be_ hE115 b110_g80
      refine fl_cond e115_19 hs (fun c116 hs => ?_) (fun c116 hs => ?_)
      · refine rg0_seq 37 own115 (bz 1) [⟨[], [], [], Fct.val 8 (.int .i64 0)⟩] hz115 hd115 (by kernel_rfl) ?_ ?_
        · refine sc (fun _ _ _ _ _ _ => px (or_assign rfl)) ?_
          exact steps_nil
        intro own117 a117 w117 hd117 hz117 hk117 hf117 hE117
        obtain ⟨(e117_8 : a117.eval (.tmp 8) = .int .i64 0), -⟩ := hf117 [0] rfl
        have hX117 := es_ hX115 hE117
        refine fl_ret ?_
        refine hp112 _ _ _ rfl ?_
        refine hp111 _ _ _ rfl ?_
        obtain rfl := osome hs
        exact hret _ _ _ _ (.inl rfl) hd117 (results1_ rfl (RVal.tmp_ e117_8)) ⟨own117, rfl, hX117⟩
      obtain ⟨x118, hx118, hs⟩ := obind hs
      refine rg0_seq 37 own115 [0, 0, 3, 7, 15, 15, 63, 127, 255] [⟨[], [5], [], Fct.val 29 (.agg #[.int .i64 b94.1, .int .i64 b94.2])⟩, ⟨[], [6], [], Fct.val 30 (.agg #[.int .i64 c106.1, .int .i64 c106.2])⟩, ⟨[0, 1], [], [], Fct.val 31 (.bool (decide (b94 = c106)))⟩, ⟨[2], [], [], Fct.val 32 (.bool (decide (b94 = c106)))⟩, ⟨[3], [7], [], Fct.cond (!(decide (b94 = c106))) (some 33) (Fct.val 33 (.agg #[.int .i64 d108.1, .int .i64 d108.2]))⟩, ⟨[3], [4], [], Fct.cond (!(decide (b94 = c106))) (some 34) (Fct.val 34 (.agg #[.int .i64 x92.1, .int .i64 x92.2]))⟩, ⟨[3, 4, 5], [], [], Fct.cond (!(decide (b94 = c106))) (some 35) (Fct.val 35 (.bool (decide (d108 = x92))))⟩, ⟨[3, 6], [], [], Fct.val 36 (.bool x118)⟩, ⟨[7], [], [], Fct.val 28 (.bool x118)⟩] hz115 hd115 (by kernel_rfl) ?_ ?_
      · refine sc (fun _ _ _ _ s hE => px (or_load (l := [.int .i64 b94.1, .int .i64 b94.2]) ta25 (s.1.trans e115_5) (Blk.cellsFrom (be_ hE b115_g76).2 0 rfl) rfl)) ?_
        refine sc (fun _ _ _ _ s hE => px (or_load (l := [.int .i64 c106.1, .int .i64 c106.2]) ta25 (s.1.trans e115_6) (Blk.cellsFrom (be_ hE b115_g78).2 0 rfl) rfl)) ?_
        refine sc (fun _ _ _ f _ _ => px (or_eqlA sg25 f.1 f.2.1 (se25 b94.1 b94.2 c106.1 c106.2 _) rfl)) ?_
        refine sc (fun _ _ _ f _ _ => px (or_move f.1)) ?_
        refine sc (fun _ _ _ f s hE => sg_f rfl rfl rfl f.1 (fun hg => or_load (l := [.int .i64 d108.1, .int .i64 d108.2]) ta25 (s.1.trans e115_7) (Blk.cellsFrom (be_ hE b115_g80).2 0 rfl) rfl)) ?_
        refine sc (fun _ _ _ f s hE => sg_f rfl rfl rfl f.1 (fun hg => or_load (l := [.int .i64 x92.1, .int .i64 x92.2]) ta25 (s.1.trans e115_4) (Blk.cellsFrom (be_ hE b115_g74).2 0 rfl) rfl)) ?_
        refine sc (fun _ _ _ f _ _ => sg_f rfl rfl rfl f.1 (fun hg => or_eqlA sg25 (f.2.1.1 hg) (f.2.2.1.1 hg) (se25 d108.1 d108.2 x92.1 x92.2 _) rfl)) ?_
        refine sc (fun _ _ _ f _ _ => px (or_or f.1 rfl (fun hx => f.2.1.1 hx) (osome hx118).symm)) ?_
        refine sc (fun _ _ _ f _ _ => px (or_assign f.1)) ?_
        exact steps_nil
      intro own119 a119 w119 hd119 hz119 hk119 hf119 hE119
      obtain ⟨(e119_28 : a119.eval (.tmp 28) = .bool x118), -⟩ := hf119 [8] rfl
      have hX119 := es_ hX115 hE119
      refine fl_cond e119_28 hs (fun c120 hs => ?_) (fun c120 hs => ?_)
      · refine rg0_seq 37 own119 (bz 1) [⟨[], [], [], Fct.val 8 (.int .i64 1)⟩] hz119 hd119 (by kernel_rfl) ?_ ?_
        · refine sc (fun _ _ _ _ _ _ => px (or_assign rfl)) ?_
          exact steps_nil
        intro own121 a121 w121 hd121 hz121 hk121 hf121 hE121
        obtain ⟨(e121_8 : a121.eval (.tmp 8) = .int .i64 1), -⟩ := hf121 [0] rfl
        have hX121 := es_ hX119 hE121
        refine fl_ret ?_
        refine hp112 _ _ _ rfl ?_
        refine hp111 _ _ _ rfl ?_
        obtain rfl := osome hs
        exact hret _ _ _ _ (.inl rfl) hd121 (results1_ rfl (RVal.tmp_ e121_8)) ⟨own121, rfl, hX121⟩
      refine fl_skip ?_
      refine hn112 _ _ ?_
      refine hn111 _ _ ?_
      refine rg0_seq 37 own119 (bz 1) [⟨[], [], [], Fct.val 8 (.int .i64 4)⟩] hz119 hd119 (by kernel_rfl) ?_ ?_
      · refine sc (fun _ _ _ _ _ _ => px (or_assign rfl)) ?_
        exact steps_nil
      intro own122 a122 w122 hd122 hz122 hk122 hf122 hE122
      obtain ⟨(e122_8 : a122.eval (.tmp 8) = .int .i64 4), -⟩ := hf122 [0] rfl
      have hX122 := es_ hX119 hE122
      refine fl_ret ?_
      obtain rfl := osome hs
      exact hret _ _ _ _ (.inl rfl) hd122 (results1_ rfl (RVal.tmp_ e122_8)) ⟨own122, rfl, hX122⟩
    obtain ⟨r123, hr123, hs⟩ := obind hs
    refine rg0_seq 37 own95 [0, 0, 3] [⟨[], [7], [], Fct.val 14 (.agg #[.int .i64 d4.1, .int .i64 d4.2])⟩, ⟨[], [6], [], Fct.val 15 (.agg #[.int .i64 c3.1, .int .i64 c3.2])⟩, ⟨[0, 1], [], [], Fct.val 16 (.bool r123)⟩] hz96 hd96 (by kernel_rfl) ?_ ?_
    · refine sc (fun _ _ _ _ s hE => px (or_load (l := [.int .i64 d4.1, .int .i64 d4.2]) ta25 (s.1.trans e96_7) (Blk.cellsFrom (be_ hE b96_g80).2 0 rfl) rfl)) ?_
      refine sc (fun _ _ _ _ s hE => px (or_load (l := [.int .i64 c3.1, .int .i64 c3.2]) ta25 (s.1.trans e96_6) (Blk.cellsFrom (be_ hE b96_g78).2 0 rfl) rfl)) ?_
      refine sc (fun _ _ _ f _ _ => px (or_call cf44 (args2 f.1 f.2.1) (exact_Less_w _ d4 c3  r123 hr123) post_val)) ?_
      exact steps_nil
    intro own124 a124 w124 hd124 hz124 hk124 hf124 hE124
    have e124_4 := (hk124 4 rfl).trans e96_4
    have e124_5 := (hk124 5 rfl).trans e96_5
    have e124_6 := (hk124 6 rfl).trans e96_6
    have e124_7 := (hk124 7 rfl).trans e96_7
    obtain ⟨(e124_16 : a124.eval (.tmp 16) = .bool r123), -⟩ := hf124 [2] rfl
    have hX124 := es_ hE96 hE124
    have b124_g74 := be_ hE124 b96_g74
    have b124_g76 := be_ hE124 b96_g76
    have b124_g78 := be_ hE124 b96_g78
    have b124_g80 := be_ hE124 b96_g80
    refine fl_cond e124_16 hs (fun c125 hs => ?_) (fun c125 hs => ?_)
    · refine rg_plain (n := 37) (rs := [Fct.at_ 79 g78 25 #[.int .i64 c3.1, .int .i64 c3.2], Fct.at_ 81 g80 25 #[.int .i64 d4.1, .int .i64 d4.2]]) (own0 := own124) (K := [79, 81]) (bs := [0, 0, 3, 7]) (ds := [⟨[5], [7], [], Fct.val 17 (.agg #[.int .i64 d4.1, .int .i64 d4.2])⟩, ⟨[4], [6], [], Fct.val 18 (.agg #[.int .i64 c3.1, .int .i64 c3.2])⟩, ⟨[0, 4], [6], [79], Fct.at_ 127 g78 25 #[.int .i64 d4.1, .int .i64 d4.2]⟩, ⟨[1, 5], [7], [81], Fct.at_ 128 g80 25 #[.int .i64 c3.1, .int .i64 c3.2]⟩]) (by kernel_rfl) hz124 hd124 (by simp only [List.forall_mem_cons]; exact ⟨b124_g78, b124_g80, fun _ h => nomatch h⟩) ?_ ?_
      · refine sc (fun own a wx hf hsl hE => ?_) ?_
        · obtain ⟨(b_g80 : BlkO own 81 wx g80 25 #[.int .i64 d4.1, .int .i64 d4.2]), -⟩ := hf
          obtain ⟨s_7, -⟩ := hsl
          exact px (or_load (l := [.int .i64 d4.1, .int .i64 d4.2]) ta25 (s_7.trans e124_7) (Blk.cellsFrom b_g80.2 0 rfl) rfl)
        refine sc (fun own a wx hf hsl hE => ?_) ?_
        · obtain ⟨(b_g78 : BlkO own 79 wx g78 25 #[.int .i64 c3.1, .int .i64 c3.2]), -⟩ := hf
          obtain ⟨s_6, -⟩ := hsl
          exact px (or_load (l := [.int .i64 c3.1, .int .i64 c3.2]) ta25 (s_6.trans e124_6) (Blk.cellsFrom b_g78.2 0 rfl) rfl)
        refine sc (fun own a wx hf hsl hE => ?_) ?_
        · obtain ⟨f_17, b_g78, -⟩ := hf
          obtain ⟨s_6, -⟩ := hsl
          exact px (or_store (l := #[.int .i64 d4.1, .int .i64 d4.2]) (lab := 79) (lab2 := 127) ts25 (s_6.trans e124_6) f_17 b_g78 (by simp) (by kernel_rfl) (mem_of rfl) (by decide) (by kernel_rfl) (fun own' a' w' ha hb => hb))
        refine sc (fun own a wx hf hsl hE => ?_) ?_
        · obtain ⟨f_18, b_g80, -⟩ := hf
          obtain ⟨s_7, -⟩ := hsl
          exact px (or_store (l := #[.int .i64 c3.1, .int .i64 c3.2]) (lab := 81) (lab2 := 128) ts25 (s_7.trans e124_7) f_18 b_g80 (by simp) (by kernel_rfl) (mem_of rfl) (by decide) (by kernel_rfl) (fun own' a' w' ha hb => hb))
        exact steps_nil
      intro own129 a129 w129 hd129 hz129 hk129 hf129 hE129
      have e129_4 := (hk129 4 rfl).trans e124_4
      have e129_5 := (hk129 5 rfl).trans e124_5
      have e129_6 := (hk129 6 rfl).trans e124_6
      have e129_7 := (hk129 7 rfl).trans e124_7
      obtain ⟨(b129_g78 : BlkO own129 127 w129 g78 25 #[.int .i64 d4.1, .int .i64 d4.2]), (b129_g80 : BlkO own129 128 w129 g80 25 #[.int .i64 c3.1, .int .i64 c3.2]), -⟩ := hf129 [2, 3] rfl
      have hX129 := es_ hX124 hE129
      have b129_g74 := be_ hE129 b124_g74
      have b129_g76 := be_ hE129 b124_g76
      exact (K109 _ _ (rl [(127, 105), (128, 107)] own129) d4 c3 hd129 hz129 e129_4 e129_5 e129_6 e129_7 (Evo.rl_ hX129 (fun _ => Nat.le_refl 0) rfl) (BlkO.rl_ (mm := [(127, 105), (128, 107)]) b129_g74) (BlkO.rl_ (mm := [(127, 105), (128, 107)]) b129_g76) (BlkO.rl_ (mm := [(127, 105), (128, 107)]) b129_g78) (BlkO.rl_ (mm := [(127, 105), (128, 107)]) b129_g80) hs)
    refine fl_skip ?_
    exact (K109 _ _ (rl [(79, 105), (81, 107)] own124) c3 d4 hd124 hz124 e124_4 e124_5 e124_6 e124_7 (Evo.rl_ hX124 (fun _ => Nat.le_refl 0) rfl) (BlkO.rl_ (mm := [(79, 105), (81, 107)]) b124_g74) (BlkO.rl_ (mm := [(79, 105), (81, 107)]) b124_g76) (BlkO.rl_ (mm := [(79, 105), (81, 107)]) b124_g78) (BlkO.rl_ (mm := [(79, 105), (81, 107)]) b124_g80) hs)
  obtain ⟨r130, hr130, hs⟩ := obind hs
  refine rg0_seq 37 own82 [0, 0, 3] [⟨[], [5], [], Fct.val 9 (.agg #[.int .i64 b2.1, .int .i64 b2.2])⟩, ⟨[], [4], [], Fct.val 10 (.agg #[.int .i64 x1.1, .int .i64 x1.2])⟩, ⟨[0, 1], [], [], Fct.val 11 (.bool r130)⟩] hz82 hd82 (by kernel_rfl) ?_ ?_
  · refine sc (fun _ _ _ _ s hE => px (or_load (l := [.int .i64 b2.1, .int .i64 b2.2]) ta25 (s.1.trans e82_5) (Blk.cellsFrom (be_ hE b82_g76).2 0 rfl) rfl)) ?_
    refine sc (fun _ _ _ _ s hE => px (or_load (l := [.int .i64 x1.1, .int .i64 x1.2]) ta25 (s.1.trans e82_4) (Blk.cellsFrom (be_ hE b82_g74).2 0 rfl) rfl)) ?_
    refine sc (fun _ _ _ f _ _ => px (or_call cf44 (args2 f.1 f.2.1) (exact_Less_w _ b2 x1  r130 hr130) post_val)) ?_
    exact steps_nil
  intro own131 a131 w131 hd131 hz131 hk131 hf131 hE131
  have e131_4 := (hk131 4 rfl).trans e82_4
  have e131_5 := (hk131 5 rfl).trans e82_5
  have e131_6 := (hk131 6 rfl).trans e82_6
  have e131_7 := (hk131 7 rfl).trans e82_7
  obtain ⟨(e131_11 : a131.eval (.tmp 11) = .bool r130), -⟩ := hf131 [2] rfl
  have hX131 := es_ hX82 hE131
  have b131_g74 := be_ hE131 b82_g74
  have b131_g76 := be_ hE131 b82_g76
  have b131_g78 := be_ hE131 b82_g78
  have b131_g80 := be_ hE131 b82_g80
  refine fl_cond e131_11 hs (fun c132 hs => ?_) (fun c132 hs => ?_)
  · refine rg_plain (n := 37) (rs := [Fct.at_ 75 g74 25 #[.int .i64 x1.1, .int .i64 x1.2], Fct.at_ 77 g76 25 #[.int .i64 b2.1, .int .i64 b2.2]]) (own0 := own131) (K := [75, 77]) (bs := [0, 0, 3, 7]) (ds := [⟨[5], [5], [], Fct.val 12 (.agg #[.int .i64 b2.1, .int .i64 b2.2])⟩, ⟨[4], [4], [], Fct.val 13 (.agg #[.int .i64 x1.1, .int .i64 x1.2])⟩, ⟨[0, 4], [4], [75], Fct.at_ 134 g74 25 #[.int .i64 b2.1, .int .i64 b2.2]⟩, ⟨[1, 5], [5], [77], Fct.at_ 135 g76 25 #[.int .i64 x1.1, .int .i64 x1.2]⟩]) (by kernel_rfl) hz131 hd131 (by simp only [List.forall_mem_cons]; exact ⟨b131_g74, b131_g76, fun _ h => nomatch h⟩) ?_ ?_
    · refine sc (fun own a wx hf hsl hE => ?_) ?_
      · obtain ⟨(b_g76 : BlkO own 77 wx g76 25 #[.int .i64 b2.1, .int .i64 b2.2]), -⟩ := hf
        obtain ⟨s_5, -⟩ := hsl
        exact px (or_load (l := [.int .i64 b2.1, .int .i64 b2.2]) ta25 (s_5.trans e131_5) (Blk.cellsFrom b_g76.2 0 rfl) rfl)
      refine sc (fun own a wx hf hsl hE => ?_) ?_
      · obtain ⟨(b_g74 : BlkO own 75 wx g74 25 #[.int .i64 x1.1, .int .i64 x1.2]), -⟩ := hf
        obtain ⟨s_4, -⟩ := hsl
        exact px (or_load (l := [.int .i64 x1.1, .int .i64 x1.2]) ta25 (s_4.trans e131_4) (Blk.cellsFrom b_g74.2 0 rfl) rfl)
      refine sc (fun own a wx hf hsl hE => ?_) ?_
      · obtain ⟨f_12, b_g74, -⟩ := hf
        obtain ⟨s_4, -⟩ := hsl
        exact px (or_store (l := #[.int .i64 b2.1, .int .i64 b2.2]) (lab := 75) (lab2 := 134) ts25 (s_4.trans e131_4) f_12 b_g74 (by simp) (by kernel_rfl) (mem_of rfl) (by decide) (by kernel_rfl) (fun own' a' w' ha hb => hb))
      refine sc (fun own a wx hf hsl hE => ?_) ?_
      · obtain ⟨f_13, b_g76, -⟩ := hf
        obtain ⟨s_5, -⟩ := hsl
        exact px (or_store (l := #[.int .i64 x1.1, .int .i64 x1.2]) (lab := 77) (lab2 := 135) ts25 (s_5.trans e131_5) f_13 b_g76 (by simp) (by kernel_rfl) (mem_of rfl) (by decide) (by kernel_rfl) (fun own' a' w' ha hb => hb))
      exact steps_nil
    intro own136 a136 w136 hd136 hz136 hk136 hf136 hE136
    have e136_4 := (hk136 4 rfl).trans e131_4
    have e136_5 := (hk136 5 rfl).trans e131_5
    have e136_6 := (hk136 6 rfl).trans e131_6
    have e136_7 := (hk136 7 rfl).trans e131_7
    obtain ⟨(b136_g74 : BlkO own136 134 w136 g74 25 #[.int .i64 b2.1, .int .i64 b2.2]), (b136_g76 : BlkO own136 135 w136 g76 25 #[.int .i64 x1.1, .int .i64 x1.2]), -⟩ := hf136 [2, 3] rfl
    have hX136 := es_ hX131 hE136
    have b136_g78 := be_ hE136 b131_g78
    have b136_g80 := be_ hE136 b131_g80
    exact (K95 _ _ (rl [(134, 91), (135, 93)] own136) b2 x1 hd136 hz136 e136_4 e136_5 e136_6 e136_7 (Evo.rl_ hX136 (fun _ => Nat.le_refl 0) rfl) (BlkO.rl_ (mm := [(134, 91), (135, 93)]) b136_g74) (BlkO.rl_ (mm := [(134, 91), (135, 93)]) b136_g76) (BlkO.rl_ (mm := [(134, 91), (135, 93)]) b136_g78) (BlkO.rl_ (mm := [(134, 91), (135, 93)]) b136_g80) hs)
  refine fl_skip ?_
  exact (K95 _ _ (rl [(75, 91), (77, 93)] own131) x1 b2 hd131 hz131 e131_4 e131_5 e131_6 e131_7 (Evo.rl_ hX131 (fun _ => Nat.le_refl 0) rfl) (BlkO.rl_ (mm := [(75, 91), (77, 93)]) b131_g74) (BlkO.rl_ (mm := [(75, 91), (77, 93)]) b131_g76) (BlkO.rl_ (mm := [(75, 91), (77, 93)]) b131_g78) (BlkO.rl_ (mm := [(75, 91), (77, 93)]) b131_g80) hs)
theorem seg_Class_w (w : World) (x1 : Int × Int) (b2 : Int × Int) (c3 : Int × Int) (d4 : Int × Int) (r : Int × Int) (hs : seg_Class x1 b2 c3 d4 = some r) :
    Calls Try.prog 32 #[.agg #[.int .i64 x1.1, .int .i64 x1.2], .agg #[.int .i64 b2.1, .int .i64 b2.2], .agg #[.int .i64 c3.1, .int .i64 c3.2], .agg #[.int .i64 d4.1, .int .i64 d4.2]] w fun e w' => ∃ own' : Own, e = .returned (.tuple #[.int .i64 r.1, .int .i64 r.2]) ∧ Evo [] (fun _ => 0) own' w w' := by
  refine fl_enter (n := 103) rfl rfl rfl (Nat.le_of_ble_eq_true rfl) ?_
  intro a0 Q hd0 hz0 harg hret
  have ha0 := harg 0 _ rfl
  have ha1 := harg 1 _ rfl
  have ha2 := harg 2 _ rfl
  have ha3 := harg 3 _ rfl
  clear harg
  have hE0 : Evo [] (fun _ => 0) (fun _ => 0) w w := Evo.refl _ _ _
  refine rg0_seq 103 (fun _ => 0) [0, 0, 0, 0, 0, 16] [⟨[], [0], [], Fct.blk 78 4 (fun g => .pointer (some ⟨g, 0, none⟩)) 25 #[.int .i64 x1.1, .int .i64 x1.2]⟩, ⟨[], [1], [], Fct.blk 80 5 (fun g => .pointer (some ⟨g, 0, none⟩)) 25 #[.int .i64 b2.1, .int .i64 b2.2]⟩, ⟨[], [2], [], Fct.blk 82 6 (fun g => .pointer (some ⟨g, 0, none⟩)) 25 #[.int .i64 c3.1, .int .i64 c3.2]⟩, ⟨[], [3], [], Fct.blk 84 7 (fun g => .pointer (some ⟨g, 0, none⟩)) 25 #[.int .i64 d4.1, .int .i64 d4.2]⟩, ⟨[], [], [], Fct.val 8 (.int .i64 0)⟩, ⟨[], [], [], Fct.val 9 (.int .i64 0)⟩] hz0 hd0 (by kernel_rfl) ?_ ?_
  · refine sc (fun _ _ _ _ s _ => px (or_new [(0, .agg #[.int .i64 x1.1, .int .i64 x1.2])] rfl rfl ⟨(s.1.trans ha0), trivial⟩ (by kernel_rfl))) ?_
    refine sc (fun _ _ _ _ s _ => px (or_new [(1, .agg #[.int .i64 b2.1, .int .i64 b2.2])] rfl rfl ⟨(s.1.trans ha1), trivial⟩ (by kernel_rfl))) ?_
    refine sc (fun _ _ _ _ s _ => px (or_new [(2, .agg #[.int .i64 c3.1, .int .i64 c3.2])] rfl rfl ⟨(s.1.trans ha2), trivial⟩ (by kernel_rfl))) ?_
    refine sc (fun _ _ _ _ s _ => px (or_new [(3, .agg #[.int .i64 d4.1, .int .i64 d4.2])] rfl rfl ⟨(s.1.trans ha3), trivial⟩ (by kernel_rfl))) ?_
    refine sc (fun _ _ _ _ _ _ => px (or_assign rfl)) ?_
    refine sc (fun _ _ _ _ _ _ => px (or_assign rfl)) ?_
    exact steps_nil
  intro own85 a85 w85 hd85 hz85 hk85 hf85 hE85
  obtain ⟨⟨g77, (e85_4 : a85.eval (.tmp 4) = .pointer (some ⟨g77, 0, none⟩)), (b85_g77 : BlkO own85 78 w85 g77 25 #[.int .i64 x1.1, .int .i64 x1.2])⟩, ⟨g79, (e85_5 : a85.eval (.tmp 5) = .pointer (some ⟨g79, 0, none⟩)), (b85_g79 : BlkO own85 80 w85 g79 25 #[.int .i64 b2.1, .int .i64 b2.2])⟩, ⟨g81, (e85_6 : a85.eval (.tmp 6) = .pointer (some ⟨g81, 0, none⟩)), (b85_g81 : BlkO own85 82 w85 g81 25 #[.int .i64 c3.1, .int .i64 c3.2])⟩, ⟨g83, (e85_7 : a85.eval (.tmp 7) = .pointer (some ⟨g83, 0, none⟩)), (b85_g83 : BlkO own85 84 w85 g83 25 #[.int .i64 d4.1, .int .i64 d4.2])⟩, -⟩ := hf85 [0, 1, 2, 3] rfl
  have hX85 := es_ hE0 hE85
  refine fl_seq (fun Q86 hn86 hp86 => ?_)
  refine fl_block (fun Q87 hn87 hx87 hp87 => ?_)
  obtain ⟨r90, hr90, hs⟩ := obind hs
  refine rg0_seq 103 own85 [0, 0, 0, 0, 15, 31, 63, 127] [⟨[], [4], [], Fct.val 16 (.agg #[.int .i64 x1.1, .int .i64 x1.2])⟩, ⟨[], [5], [], Fct.val 17 (.agg #[.int .i64 b2.1, .int .i64 b2.2])⟩, ⟨[], [6], [], Fct.val 18 (.agg #[.int .i64 c3.1, .int .i64 c3.2])⟩, ⟨[], [7], [], Fct.val 19 (.agg #[.int .i64 d4.1, .int .i64 d4.2])⟩, ⟨[0, 1, 2, 3], [], [], Fct.row 89 [] 20 25 R25 [x1, b2, c3, d4]⟩, ⟨[4], [], [], Fct.val 21 (.bool r90)⟩, ⟨[5], [], [], Fct.val 22 (.bool (!r90))⟩, ⟨[6], [], [], Fct.val 15 (.bool (!r90))⟩] hz85 hd85 (by kernel_rfl) ?_ ?_
  · refine sc (fun _ _ _ _ s hE => px (or_load (l := [.int .i64 x1.1, .int .i64 x1.2]) ta25 (s.1.trans e85_4) (Blk.cellsFrom (be_ hE b85_g77).2 0 rfl) rfl)) ?_
    refine sc (fun _ _ _ _ s hE => px (or_load (l := [.int .i64 b2.1, .int .i64 b2.2]) ta25 (s.1.trans e85_5) (Blk.cellsFrom (be_ hE b85_g79).2 0 rfl) rfl)) ?_
    refine sc (fun _ _ _ _ s hE => px (or_load (l := [.int .i64 c3.1, .int .i64 c3.2]) ta25 (s.1.trans e85_6) (Blk.cellsFrom (be_ hE b85_g81).2 0 rfl) rfl)) ?_
    refine sc (fun _ _ _ _ s hE => px (or_load (l := [.int .i64 d4.1, .int .i64 d4.2]) ta25 (s.1.trans e85_7) (Blk.cellsFrom (be_ hE b85_g83).2 0 rfl) rfl)) ?_
    refine sc (fun _ _ _ f _ _ => px (or_lit (lab := 89) (e := 25) (cs := #[.int .i64 x1.1, .int .i64 x1.2, .int .i64 b2.1, .int .i64 b2.2, .int .i64 c3.1, .int .i64 c3.2, .int .i64 d4.1, .int .i64 d4.2]) (F := E25) (or_new [(16, .agg #[.int .i64 x1.1, .int .i64 x1.2]), (17, .agg #[.int .i64 b2.1, .int .i64 b2.2]), (18, .agg #[.int .i64 c3.1, .int .i64 c3.2]), (19, .agg #[.int .i64 d4.1, .int .i64 d4.2])] rfl rfl ⟨f.1, f.2.1, f.2.2.1, f.2.2.2.1, trivial⟩ (by kernel_rfl)) rfl rfl (show 4 ≤ maxLen by decide))) ?_
    refine sc (fun own a wx hf hsl hE => ?_) ?_
    · obtain ⟨⟨⟨A88, cA88⟩, f_20, b_A88⟩, -⟩ := hf
      exact px (or_call cf24 (args1 f_20) (exact_Right_w _ [x1, b2, c3, d4] A88 cA88 (RdO.zero (RwO.rd b_A88)) r90 hr90) post_val)
    refine sc (fun _ _ _ f _ _ => px (or_not f.1 rfl)) ?_
    refine sc (fun _ _ _ f _ _ => px (or_assign f.1)) ?_
    exact steps_nil
  intro own91 a91 w91 hd91 hz91 hk91 hf91 hE91
  have e91_4 := (hk91 4 rfl).trans e85_4
  have e91_5 := (hk91 5 rfl).trans e85_5
  have e91_6 := (hk91 6 rfl).trans e85_6
  have e91_7 := (hk91 7 rfl).trans e85_7
  obtain ⟨(e91_15 : a91.eval (.tmp 15) = .bool (!r90)), -⟩ := hf91 [7] rfl
  have hX91 := es_ hX85 hE91
  have b91_g77 := be_ hE91 b85_g77
  have b91_g79 := be_ hE91 b85_g79
  have b91_g81 := be_ hE91 b85_g81
  have b91_g83 := be_ hE91 b85_g83
  refine fl_cond e91_15 hs (fun c92 hs => ?_) (fun c92 hs => ?_)
  · refine rg0_seq 103 own91 (bz 2) [⟨[], [], [], Fct.val 8 (.int .i64 0)⟩, ⟨[], [], [], Fct.val 9 (.int .i64 5)⟩] hz91 hd91 (by kernel_rfl) ?_ ?_
    · refine sc (fun _ _ _ _ _ _ => px (or_assign rfl)) ?_
      refine sc (fun _ _ _ _ _ _ => px (or_assign rfl)) ?_
      exact steps_nil
    intro own93 a93 w93 hd93 hz93 hk93 hf93 hE93
    obtain ⟨(e93_8 : a93.eval (.tmp 8) = .int .i64 0), (e93_9 : a93.eval (.tmp 9) = .int .i64 5), -⟩ := hf93 [0, 1] rfl
    have hX93 := es_ hX91 hE93
    refine fl_ret ?_
    refine hp87 _ _ _ rfl ?_
    refine hp86 _ _ _ rfl ?_
    obtain rfl := osome hs
    exact hret _ _ _ _ (.inl rfl) hd93 (results2_ rfl (RVal.tmp_ e93_8) (RVal.tmp_ e93_9)) ⟨own93, rfl, hX93⟩
  obtain ⟨x94, hx94, hs⟩ := obind hs
  refine rg0_seq 103 own91 [0, 0, 3, 7, 15, 15, 63, 127, 255] [⟨[], [4], [], Fct.val 24 (.agg #[.int .i64 x1.1, .int .i64 x1.2])⟩, ⟨[], [5], [], Fct.val 25 (.agg #[.int .i64 b2.1, .int .i64 b2.2])⟩, ⟨[0, 1], [], [], Fct.val 26 (.bool (decide (x1 = b2)))⟩, ⟨[2], [], [], Fct.val 27 (.bool (decide (x1 = b2)))⟩, ⟨[3], [6], [], Fct.cond (!(decide (x1 = b2))) (some 28) (Fct.val 28 (.agg #[.int .i64 c3.1, .int .i64 c3.2]))⟩, ⟨[3], [7], [], Fct.cond (!(decide (x1 = b2))) (some 29) (Fct.val 29 (.agg #[.int .i64 d4.1, .int .i64 d4.2]))⟩, ⟨[3, 4, 5], [], [], Fct.cond (!(decide (x1 = b2))) (some 30) (Fct.val 30 (.bool (decide (c3 = d4))))⟩, ⟨[3, 6], [], [], Fct.val 31 (.bool x94)⟩, ⟨[7], [], [], Fct.val 23 (.bool x94)⟩] hz91 hd91 (by kernel_rfl) ?_ ?_
  · refine sc (fun _ _ _ _ s hE => px (or_load (l := [.int .i64 x1.1, .int .i64 x1.2]) ta25 (s.1.trans e91_4) (Blk.cellsFrom (be_ hE b91_g77).2 0 rfl) rfl)) ?_
    refine sc (fun _ _ _ _ s hE => px (or_load (l := [.int .i64 b2.1, .int .i64 b2.2]) ta25 (s.1.trans e91_5) (Blk.cellsFrom (be_ hE b91_g79).2 0 rfl) rfl)) ?_
    refine sc (fun _ _ _ f _ _ => px (or_eqlA sg25 f.1 f.2.1 (se25 x1.1 x1.2 b2.1 b2.2 _) rfl)) ?_
    refine sc (fun _ _ _ f _ _ => px (or_move f.1)) ?_
    refine sc (fun _ _ _ f s hE => sg_f rfl rfl rfl f.1 (fun hg => or_load (l := [.int .i64 c3.1, .int .i64 c3.2]) ta25 (s.1.trans e91_6) (Blk.cellsFrom (be_ hE b91_g81).2 0 rfl) rfl)) ?_
    refine sc (fun _ _ _ f s hE => sg_f rfl rfl rfl f.1 (fun hg => or_load (l := [.int .i64 d4.1, .int .i64 d4.2]) ta25 (s.1.trans e91_7) (Blk.cellsFrom (be_ hE b91_g83).2 0 rfl) rfl)) ?_
    refine sc (fun _ _ _ f _ _ => sg_f rfl rfl rfl f.1 (fun hg => or_eqlA sg25 (f.2.1.1 hg) (f.2.2.1.1 hg) (se25 c3.1 c3.2 d4.1 d4.2 _) rfl)) ?_
    refine sc (fun _ _ _ f _ _ => px (or_or f.1 rfl (fun hx => f.2.1.1 hx) (osome hx94).symm)) ?_
    refine sc (fun _ _ _ f _ _ => px (or_assign f.1)) ?_
    exact steps_nil
  intro own95 a95 w95 hd95 hz95 hk95 hf95 hE95
  have e95_4 := (hk95 4 rfl).trans e91_4
  have e95_5 := (hk95 5 rfl).trans e91_5
  have e95_6 := (hk95 6 rfl).trans e91_6
  have e95_7 := (hk95 7 rfl).trans e91_7
  obtain ⟨(e95_23 : a95.eval (.tmp 23) = .bool x94), -⟩ := hf95 [8] rfl
  have hX95 := es_ hX91 hE95
  have b95_g77 := be_ hE95 b91_g77
  have b95_g79 := be_ hE95 b91_g79
  have b95_g81 := be_ hE95 b91_g81
  have b95_g83 := be_ hE95 b91_g83
  refine fl_cond e95_23 hs (fun c96 hs => ?_) (fun c96 hs => ?_)
  · refine rg0_seq 103 own95 (bz 2) [⟨[], [], [], Fct.val 8 (.int .i64 0)⟩, ⟨[], [], [], Fct.val 9 (.int .i64 1)⟩] hz95 hd95 (by kernel_rfl) ?_ ?_
    · refine sc (fun _ _ _ _ _ _ => px (or_assign rfl)) ?_
      refine sc (fun _ _ _ _ _ _ => px (or_assign rfl)) ?_
      exact steps_nil
    intro own97 a97 w97 hd97 hz97 hk97 hf97 hE97
    obtain ⟨(e97_8 : a97.eval (.tmp 8) = .int .i64 0), (e97_9 : a97.eval (.tmp 9) = .int .i64 1), -⟩ := hf97 [0, 1] rfl
    have hX97 := es_ hX95 hE97
    refine fl_ret ?_
    refine hp87 _ _ _ rfl ?_
    refine hp86 _ _ _ rfl ?_
    obtain rfl := osome hs
    exact hret _ _ _ _ (.inl rfl) hd97 (results2_ rfl (RVal.tmp_ e97_8) (RVal.tmp_ e97_9)) ⟨own97, rfl, hX97⟩
  obtain ⟨x98, hx98, hs⟩ := obind hs
  obtain ⟨x99, hx99, hs⟩ := obind hs
  refine rg0_seq 103 own95 [0, 0, 3, 7, 15, 15, 63, 127, 255, 511, 511, 2047, 4095, 8191, 8191, 32767, 65535, 131071, 262143] [⟨[], [4], [], Fct.val 33 (.agg #[.int .i64 x1.1, .int .i64 x1.2])⟩, ⟨[], [6], [], Fct.val 34 (.agg #[.int .i64 c3.1, .int .i64 c3.2])⟩, ⟨[0, 1], [], [], Fct.val 35 (.bool (decide (x1 = c3)))⟩, ⟨[2], [], [], Fct.val 36 (.bool (decide (x1 = c3)))⟩, ⟨[3], [5], [], Fct.cond (decide (x1 = c3)) (some 37) (Fct.val 37 (.agg #[.int .i64 b2.1, .int .i64 b2.2]))⟩, ⟨[3], [7], [], Fct.cond (decide (x1 = c3)) (some 38) (Fct.val 38 (.agg #[.int .i64 d4.1, .int .i64 d4.2]))⟩, ⟨[3, 4, 5], [], [], Fct.cond (decide (x1 = c3)) (some 39) (Fct.val 39 (.bool (decide (b2 = d4))))⟩, ⟨[3, 6], [], [], Fct.val 40 (.bool x98)⟩, ⟨[7], [], [], Fct.val 41 (.bool x98)⟩, ⟨[8], [4], [], Fct.cond (!x98) (some 42) (Fct.val 42 (.agg #[.int .i64 x1.1, .int .i64 x1.2]))⟩, ⟨[8], [7], [], Fct.cond (!x98) (some 43) (Fct.val 43 (.agg #[.int .i64 d4.1, .int .i64 d4.2]))⟩, ⟨[8, 9, 10], [], [], Fct.cond (!x98) (some 44) (Fct.val 44 (.bool (decide (x1 = d4))))⟩, ⟨[8, 11], [], [], Fct.cond (!x98) (some 45) (Fct.val 45 (.bool (decide (x1 = d4))))⟩, ⟨[12], [5], [], Fct.cond ((!x98) && (decide (x1 = d4))) (some 46) (Fct.val 46 (.agg #[.int .i64 b2.1, .int .i64 b2.2]))⟩, ⟨[12], [6], [], Fct.cond ((!x98) && (decide (x1 = d4))) (some 47) (Fct.val 47 (.agg #[.int .i64 c3.1, .int .i64 c3.2]))⟩, ⟨[12, 13, 14], [], [], Fct.cond ((!x98) && (decide (x1 = d4))) (some 48) (Fct.val 48 (.bool (decide (b2 = c3))))⟩, ⟨[8, 12, 15], [], [], Fct.cond (!x98) (some 49) (Fct.val 49 (.bool x99))⟩, ⟨[8, 16], [], [], Fct.val 50 (.bool (x98 || x99))⟩, ⟨[17], [], [], Fct.val 32 (.bool (x98 || x99))⟩] hz95 hd95 (by kernel_rfl) ?_ ?_
  · refine sc (fun _ _ _ _ s hE => px (or_load (l := [.int .i64 x1.1, .int .i64 x1.2]) ta25 (s.1.trans e95_4) (Blk.cellsFrom (be_ hE b95_g77).2 0 rfl) rfl)) ?_
    refine sc (fun _ _ _ _ s hE => px (or_load (l := [.int .i64 c3.1, .int .i64 c3.2]) ta25 (s.1.trans e95_6) (Blk.cellsFrom (be_ hE b95_g81).2 0 rfl) rfl)) ?_
    refine sc (fun _ _ _ f _ _ => px (or_eqlA sg25 f.1 f.2.1 (se25 x1.1 x1.2 c3.1 c3.2 _) rfl)) ?_
    refine sc (fun _ _ _ f _ _ => px (or_move f.1)) ?_
    refine sc (fun _ _ _ f s hE => sg_t rfl rfl rfl f.1 (fun hg => or_load (l := [.int .i64 b2.1, .int .i64 b2.2]) ta25 (s.1.trans e95_5) (Blk.cellsFrom (be_ hE b95_g79).2 0 rfl) rfl)) ?_
    refine sc (fun _ _ _ f s hE => sg_t rfl rfl rfl f.1 (fun hg => or_load (l := [.int .i64 d4.1, .int .i64 d4.2]) ta25 (s.1.trans e95_7) (Blk.cellsFrom (be_ hE b95_g83).2 0 rfl) rfl)) ?_
    refine sc (fun _ _ _ f _ _ => sg_t rfl rfl rfl f.1 (fun hg => or_eqlA sg25 (f.2.1.1 hg) (f.2.2.1.1 hg) (se25 b2.1 b2.2 d4.1 d4.2 _) rfl)) ?_
    refine sc (fun _ _ _ f _ _ => px (or_and f.1 (fun hx => f.2.1.1 hx) rfl (osome hx98).symm)) ?_
    refine sc (fun _ _ _ f _ _ => px (or_move f.1)) ?_
    refine sc (fun _ _ _ f s hE => sg_f rfl rfl rfl f.1 (fun hg => or_load (l := [.int .i64 x1.1, .int .i64 x1.2]) ta25 (s.1.trans e95_4) (Blk.cellsFrom (be_ hE b95_g77).2 0 rfl) rfl)) ?_
    refine sc (fun _ _ _ f s hE => sg_f rfl rfl rfl f.1 (fun hg => or_load (l := [.int .i64 d4.1, .int .i64 d4.2]) ta25 (s.1.trans e95_7) (Blk.cellsFrom (be_ hE b95_g83).2 0 rfl) rfl)) ?_
    refine sc (fun _ _ _ f _ _ => sg_f rfl rfl rfl f.1 (fun hg => or_eqlA sg25 (f.2.1.1 hg) (f.2.2.1.1 hg) (se25 x1.1 x1.2 d4.1 d4.2 _) rfl)) ?_
    refine sc (fun _ _ _ f _ _ => sg_f rfl rfl rfl f.1 (fun hg => or_move (f.2.1.1 hg))) ?_
    refine sc (fun _ _ _ f s hE => sg_tc rfl rfl rfl f.1 (fun hg => or_load (l := [.int .i64 b2.1, .int .i64 b2.2]) ta25 (s.1.trans e95_5) (Blk.cellsFrom (be_ hE b95_g79).2 0 rfl) rfl)) ?_
    refine sc (fun _ _ _ f s hE => sg_tc rfl rfl rfl f.1 (fun hg => or_load (l := [.int .i64 c3.1, .int .i64 c3.2]) ta25 (s.1.trans e95_6) (Blk.cellsFrom (be_ hE b95_g81).2 0 rfl) rfl)) ?_
    refine sc (fun _ _ _ f _ _ => sg_tc rfl rfl rfl f.1 (fun hg => or_eqlA sg25 (f.2.1.1 hg) (f.2.2.1.1 hg) (se25 b2.1 b2.2 c3.1 c3.2 _) rfl)) ?_
    refine sc (fun _ _ _ f _ _ => sg_f rfl rfl rfl f.1 (fun hg => or_and (f.2.1.1 hg) (fun hx => f.2.2.1.1 (gI hg hx)) rfl (osome hx99).symm)) ?_
    refine sc (fun _ _ _ f _ _ => px (or_or f.1 rfl (fun hx => f.2.1.1 hx) rfl)) ?_
    refine sc (fun _ _ _ f _ _ => px (or_assign f.1)) ?_
    exact steps_nil
  intro own100 a100 w100 hd100 hz100 hk100 hf100 hE100
  have e100_4 := (hk100 4 rfl).trans e95_4
  have e100_5 := (hk100 5 rfl).trans e95_5
  have e100_6 := (hk100 6 rfl).trans e95_6
  have e100_7 := (hk100 7 rfl).trans e95_7
  obtain ⟨(e100_32 : a100.eval (.tmp 32) = .bool (x98 || x99)), -⟩ := hf100 [18] rfl
  have hX100 := es_ hX95 hE100
  have b100_g77 := be_ hE100 b95_g77
  have b100_g79 := be_ hE100 b95_g79
  have b100_g81 := be_ hE100 b95_g81
  have b100_g83 := be_ hE100 b95_g83
  refine fl_cond e100_32 hs (fun c101 hs => ?_) (fun c101 hs => ?_)
  · refine rg0_seq 103 own100 (bz 2) [⟨[], [], [], Fct.val 8 (.int .i64 5)⟩, ⟨[], [], [], Fct.val 9 (.int .i64 0)⟩] hz100 hd100 (by kernel_rfl) ?_ ?_
    · refine sc (fun _ _ _ _ _ _ => px (or_assign rfl)) ?_
      refine sc (fun _ _ _ _ _ _ => px (or_assign rfl)) ?_
      exact steps_nil
    intro own102 a102 w102 hd102 hz102 hk102 hf102 hE102
    obtain ⟨(e102_8 : a102.eval (.tmp 8) = .int .i64 5), (e102_9 : a102.eval (.tmp 9) = .int .i64 0), -⟩ := hf102 [0, 1] rfl
    have hX102 := es_ hX100 hE102
    refine fl_ret ?_
    refine hp87 _ _ _ rfl ?_
    refine hp86 _ _ _ rfl ?_
    obtain rfl := osome hs
    exact hret _ _ _ _ (.inl rfl) hd102 (results2_ rfl (RVal.tmp_ e102_8) (RVal.tmp_ e102_9)) ⟨own102, rfl, hX102⟩
  refine fl_skip ?_
  refine hn87 _ _ ?_
  refine hn86 _ _ ?_
  obtain ⟨r103, hr103, hs⟩ := obind hs
  obtain ⟨r104, hr104, hs⟩ := obind hs
  refine rg_draw_seq g_mixed (n := 103) (rs := []) (own0 := own100) (K := []) (bs := [0, 0, 0, 7, 0, 0, 0, 127, 255, 511]) (ds := [⟨[], [4], [], Fct.val 51 (.agg #[.int .i64 x1.1, .int .i64 x1.2])⟩, ⟨[], [5], [], Fct.val 52 (.agg #[.int .i64 b2.1, .int .i64 b2.2])⟩, ⟨[], [6], [], Fct.val 53 (.agg #[.int .i64 c3.1, .int .i64 c3.2])⟩, ⟨[0, 1, 2], [], [], Fct.val 54 (.int .i64 r103)⟩, ⟨[], [4], [], Fct.val 55 (.agg #[.int .i64 x1.1, .int .i64 x1.2])⟩, ⟨[], [5], [], Fct.val 56 (.agg #[.int .i64 b2.1, .int .i64 b2.2])⟩, ⟨[], [7], [], Fct.val 57 (.agg #[.int .i64 d4.1, .int .i64 d4.2])⟩, ⟨[4, 5, 6], [], [], Fct.val 58 (.int .i64 r104)⟩, ⟨[3], [], [], Fct.val 10 (.int .i64 r103)⟩, ⟨[7], [], [], Fct.val 11 (.int .i64 r104)⟩]) (by kernel_rfl) hz100 hd100 nm_ ?_ ?_
  · refine sc (fun _ _ _ _ s hE => px (or_load (l := [.int .i64 x1.1, .int .i64 x1.2]) ta25 (s.1.trans e100_4) (Blk.cellsFrom (be_ hE b100_g77).2 0 rfl) rfl)) ?_
    refine sc (fun _ _ _ _ s hE => px (or_load (l := [.int .i64 b2.1, .int .i64 b2.2]) ta25 (s.1.trans e100_5) (Blk.cellsFrom (be_ hE b100_g79).2 0 rfl) rfl)) ?_
    refine sc (fun _ _ _ _ s hE => px (or_load (l := [.int .i64 c3.1, .int .i64 c3.2]) ta25 (s.1.trans e100_6) (Blk.cellsFrom (be_ hE b100_g81).2 0 rfl) rfl)) ?_
    refine sc (fun _ _ _ f _ _ => px (or_call cf33 (args3 f.1 f.2.1 f.2.2.1) (exact_Turn_w _ x1 b2 c3  r103 hr103) post_val)) ?_
    refine sc (fun _ _ _ _ s hE => px (or_load (l := [.int .i64 x1.1, .int .i64 x1.2]) ta25 (s.1.trans e100_4) (Blk.cellsFrom (be_ hE b100_g77).2 0 rfl) rfl)) ?_
    refine sc (fun _ _ _ _ s hE => px (or_load (l := [.int .i64 b2.1, .int .i64 b2.2]) ta25 (s.1.trans e100_5) (Blk.cellsFrom (be_ hE b100_g79).2 0 rfl) rfl)) ?_
    refine sc (fun _ _ _ _ s hE => px (or_load (l := [.int .i64 d4.1, .int .i64 d4.2]) ta25 (s.1.trans e100_7) (Blk.cellsFrom (be_ hE b100_g83).2 0 rfl) rfl)) ?_
    refine sc (fun _ _ _ f _ _ => px (or_call cf33 (args3 f.1 f.2.1 f.2.2.1) (exact_Turn_w _ x1 b2 d4  r104 hr104) post_val)) ?_
    refine sc (fun _ _ _ f _ _ => px (or_assign f.1)) ?_
    refine sc (fun _ _ _ f _ _ => px (or_assign f.1)) ?_
    exact steps_nil
  intro own105 a105 w105 hd105 hz105 hk105 hf105 hE105
  have e105_4 := (hk105 4 rfl).trans e100_4
  have e105_5 := (hk105 5 rfl).trans e100_5
  have e105_6 := (hk105 6 rfl).trans e100_6
  have e105_7 := (hk105 7 rfl).trans e100_7
  obtain ⟨(e105_10 : a105.eval (.tmp 10) = .int .i64 r103), (e105_11 : a105.eval (.tmp 11) = .int .i64 r104), -⟩ := hf105 [8, 9] rfl
  have hX105 := es_ hX100 hE105
  have b105_g77 := be_ hE105 b100_g77
  have b105_g79 := be_ hE105 b100_g79
  have b105_g81 := be_ hE105 b100_g81
  have b105_g83 := be_ hE105 b100_g83
  obtain ⟨r106, hr106, hs⟩ := obind hs
  obtain ⟨r107, hr107, hs⟩ := obind hs
  refine rg_draw_seq g_mixed (n := 103) (rs := []) (own0 := own105) (K := []) (bs := [0, 0, 0, 7, 0, 0, 0, 127, 255, 511]) (ds := [⟨[], [6], [], Fct.val 59 (.agg #[.int .i64 c3.1, .int .i64 c3.2])⟩, ⟨[], [7], [], Fct.val 60 (.agg #[.int .i64 d4.1, .int .i64 d4.2])⟩, ⟨[], [4], [], Fct.val 61 (.agg #[.int .i64 x1.1, .int .i64 x1.2])⟩, ⟨[0, 1, 2], [], [], Fct.val 62 (.int .i64 r106)⟩, ⟨[], [6], [], Fct.val 63 (.agg #[.int .i64 c3.1, .int .i64 c3.2])⟩, ⟨[], [7], [], Fct.val 64 (.agg #[.int .i64 d4.1, .int .i64 d4.2])⟩, ⟨[], [5], [], Fct.val 65 (.agg #[.int .i64 b2.1, .int .i64 b2.2])⟩, ⟨[4, 5, 6], [], [], Fct.val 66 (.int .i64 r107)⟩, ⟨[3], [], [], Fct.val 12 (.int .i64 r106)⟩, ⟨[7], [], [], Fct.val 13 (.int .i64 r107)⟩]) (by kernel_rfl) hz105 hd105 nm_ ?_ ?_
  · refine sc (fun _ _ _ _ s hE => px (or_load (l := [.int .i64 c3.1, .int .i64 c3.2]) ta25 (s.1.trans e105_6) (Blk.cellsFrom (be_ hE b105_g81).2 0 rfl) rfl)) ?_
    refine sc (fun _ _ _ _ s hE => px (or_load (l := [.int .i64 d4.1, .int .i64 d4.2]) ta25 (s.1.trans e105_7) (Blk.cellsFrom (be_ hE b105_g83).2 0 rfl) rfl)) ?_
    refine sc (fun _ _ _ _ s hE => px (or_load (l := [.int .i64 x1.1, .int .i64 x1.2]) ta25 (s.1.trans e105_4) (Blk.cellsFrom (be_ hE b105_g77).2 0 rfl) rfl)) ?_
    refine sc (fun _ _ _ f _ _ => px (or_call cf33 (args3 f.1 f.2.1 f.2.2.1) (exact_Turn_w _ c3 d4 x1  r106 hr106) post_val)) ?_
    refine sc (fun _ _ _ _ s hE => px (or_load (l := [.int .i64 c3.1, .int .i64 c3.2]) ta25 (s.1.trans e105_6) (Blk.cellsFrom (be_ hE b105_g81).2 0 rfl) rfl)) ?_
    refine sc (fun _ _ _ _ s hE => px (or_load (l := [.int .i64 d4.1, .int .i64 d4.2]) ta25 (s.1.trans e105_7) (Blk.cellsFrom (be_ hE b105_g83).2 0 rfl) rfl)) ?_
    refine sc (fun _ _ _ _ s hE => px (or_load (l := [.int .i64 b2.1, .int .i64 b2.2]) ta25 (s.1.trans e105_5) (Blk.cellsFrom (be_ hE b105_g79).2 0 rfl) rfl)) ?_
    refine sc (fun _ _ _ f _ _ => px (or_call cf33 (args3 f.1 f.2.1 f.2.2.1) (exact_Turn_w _ c3 d4 b2  r107 hr107) post_val)) ?_
    refine sc (fun _ _ _ f _ _ => px (or_assign f.1)) ?_
    refine sc (fun _ _ _ f _ _ => px (or_assign f.1)) ?_
    exact steps_nil
  intro own108 a108 w108 hd108 hz108 hk108 hf108 hE108
  have e108_4 := (hk108 4 rfl).trans e105_4
  have e108_5 := (hk108 5 rfl).trans e105_5
  have e108_6 := (hk108 6 rfl).trans e105_6
  have e108_7 := (hk108 7 rfl).trans e105_7
  have e108_10 := (hk108 10 rfl).trans e105_10
  have e108_11 := (hk108 11 rfl).trans e105_11
  obtain ⟨(e108_12 : a108.eval (.tmp 12) = .int .i64 r106), (e108_13 : a108.eval (.tmp 13) = .int .i64 r107), -⟩ := hf108 [8, 9] rfl
  have hX108 := es_ hX105 hE108
  have b108_g77 := be_ hE108 b105_g77
  have b108_g79 := be_ hE108 b105_g79
  have b108_g81 := be_ hE108 b105_g81
  have b108_g83 := be_ hE108 b105_g83
  refine fl_seq (fun Q109 hn109 hp109 => ?_)
  obtain ⟨x110, hx110, hs⟩ := obind hs
  refine rg0_seq 103 own108 (bz 6) [⟨[], [10], [], Fct.val 67 (.int .i64 r103)⟩, ⟨[0], [], [], Fct.val 68 (.bool (decide (r103 = 0)))⟩, ⟨[1], [], [], Fct.val 69 (.bool (decide (r103 = 0)))⟩, ⟨[2], [11], [], Fct.cond (decide (r103 = 0)) (some 70) (Fct.val 70 (.int .i64 r104))⟩, ⟨[2, 3], [], [], Fct.cond (decide (r103 = 0)) (some 71) (Fct.val 71 (.bool (decide (r104 = 0))))⟩, ⟨[2, 4], [], [], Fct.val 72 (.bool x110)⟩] hz108 hd108 (by kernel_rfl) ?_ ?_
  · refine sc (fun _ _ _ _ s _ => px (or_move (s.1.trans e108_10))) ?_
    refine sc (fun _ _ _ f _ _ => px (or_eql f.1 rfl rfl)) ?_
    refine sc (fun _ _ _ f _ _ => px (or_move f.1)) ?_
    refine sc (fun _ _ _ f s _ => sg_t rfl rfl rfl f.1 (fun hg => or_move (s.1.trans e108_11))) ?_
    refine sc (fun _ _ _ f _ _ => sg_t rfl rfl rfl f.1 (fun hg => or_eql (f.2.1.1 hg) rfl rfl)) ?_
    refine sc (fun _ _ _ f _ _ => px (or_and f.1 (fun hx => f.2.1.1 hx) rfl (osome hx110).symm)) ?_
    exact steps_nil
  intro own111 a111 w111 hd111 hz111 hk111 hf111 hE111
  have e111_4 := (hk111 4 rfl).trans e108_4
  have e111_5 := (hk111 5 rfl).trans e108_5
  have e111_6 := (hk111 6 rfl).trans e108_6
  have e111_7 := (hk111 7 rfl).trans e108_7
  have e111_10 := (hk111 10 rfl).trans e108_10
  have e111_11 := (hk111 11 rfl).trans e108_11
  have e111_12 := (hk111 12 rfl).trans e108_12
  have e111_13 := (hk111 13 rfl).trans e108_13
  obtain ⟨(e111_72 : a111.eval (.tmp 72) = .bool x110), -⟩ := hf111 [5] rfl
  have hX111 := es_ hX108 hE111
  have b111_g77 := be_ hE111 b108_g77
  have b111_g79 := be_ hE111 b108_g79
  have b111_g81 := be_ hE111 b108_g81
  have b111_g83 := be_ hE111 b108_g83
  refine fl_cond e111_72 hs (fun c112 hs => ?_) (fun c112 hs => ?_)
  · obtain ⟨r113, hr113, hs⟩ := obind hs
    refine rg0_seq 103 own111 [0, 0, 0, 0, 15, 31, 63] [⟨[], [4], [], Fct.val 73 (.agg #[.int .i64 x1.1, .int .i64 x1.2])⟩, ⟨[], [5], [], Fct.val 74 (.agg #[.int .i64 b2.1, .int .i64 b2.2])⟩, ⟨[], [6], [], Fct.val 75 (.agg #[.int .i64 c3.1, .int .i64 c3.2])⟩, ⟨[], [7], [], Fct.val 76 (.agg #[.int .i64 d4.1, .int .i64 d4.2])⟩, ⟨[0, 1, 2, 3], [], [], Fct.val 77 (.int .i64 r113)⟩, ⟨[4], [], [], Fct.val 8 (.int .i64 r113)⟩, ⟨[], [], [], Fct.val 9 (.int .i64 0)⟩] hz111 hd111 (by kernel_rfl) ?_ ?_
    · refine sc (fun _ _ _ _ s hE => px (or_load (l := [.int .i64 x1.1, .int .i64 x1.2]) ta25 (s.1.trans e111_4) (Blk.cellsFrom (be_ hE b111_g77).2 0 rfl) rfl)) ?_
      refine sc (fun _ _ _ _ s hE => px (or_load (l := [.int .i64 b2.1, .int .i64 b2.2]) ta25 (s.1.trans e111_5) (Blk.cellsFrom (be_ hE b111_g79).2 0 rfl) rfl)) ?_
      refine sc (fun _ _ _ _ s hE => px (or_load (l := [.int .i64 c3.1, .int .i64 c3.2]) ta25 (s.1.trans e111_6) (Blk.cellsFrom (be_ hE b111_g81).2 0 rfl) rfl)) ?_
      refine sc (fun _ _ _ _ s hE => px (or_load (l := [.int .i64 d4.1, .int .i64 d4.2]) ta25 (s.1.trans e111_7) (Blk.cellsFrom (be_ hE b111_g83).2 0 rfl) rfl)) ?_
      refine sc (fun _ _ _ f _ _ => px (or_call cf40 (args4 f.1 f.2.1 f.2.2.1 f.2.2.2.1) (seg_line_w _ x1 b2 c3 d4  r113 hr113) post_val)) ?_
      refine sc (fun _ _ _ f _ _ => px (or_assign f.1)) ?_
      refine sc (fun _ _ _ _ _ _ => px (or_assign rfl)) ?_
      exact steps_nil
    intro own114 a114 w114 hd114 hz114 hk114 hf114 hE114
    obtain ⟨(e114_8 : a114.eval (.tmp 8) = .int .i64 r113), (e114_9 : a114.eval (.tmp 9) = .int .i64 0), -⟩ := hf114 [5, 6] rfl
    have hX114 := es_ hX111 hE114
    refine fl_ret ?_
    refine hp109 _ _ _ rfl ?_
    obtain rfl := osome hs
    exact hret _ _ _ _ (.inl rfl) hd114 (results2_ rfl (RVal.tmp_ e114_8) (RVal.tmp_ e114_9)) ⟨own114, rfl, hX114⟩
  refine fl_skip ?_
  refine hn109 _ _ ?_
  refine fl_seq (fun Q115 hn115 hp115 => ?_)
  obtain ⟨x116, hx116, hs⟩ := obind hs
  refine rg0_seq 103 own111 [0, 0, 3, 7, 15, 31, 31, 127, 255, 511] [⟨[], [10], [], Fct.val 78 (.int .i64 r103)⟩, ⟨[], [11], [], Fct.val 79 (.int .i64 r104)⟩, ⟨[0, 1], [], [], Fct.val 80 (.int .i64 (ml r103 r104))⟩, ⟨[2], [], [], Fct.val 81 (.bool (decide (0 < (ml r103 r104))))⟩, ⟨[3], [], [], Fct.val 82 (.bool (decide (0 < (ml r103 r104))))⟩, ⟨[4], [12], [], Fct.cond (!(decide (0 < (ml r103 r104)))) (some 83) (Fct.val 83 (.int .i64 r106))⟩, ⟨[4], [13], [], Fct.cond (!(decide (0 < (ml r103 r104)))) (some 84) (Fct.val 84 (.int .i64 r107))⟩, ⟨[4, 5, 6], [], [], Fct.cond (!(decide (0 < (ml r103 r104)))) (some 85) (Fct.val 85 (.int .i64 (ml r106 r107)))⟩, ⟨[4, 7], [], [], Fct.cond (!(decide (0 < (ml r103 r104)))) (some 86) (Fct.val 86 (.bool (decide (0 < (ml r106 r107)))))⟩, ⟨[4, 8], [], [], Fct.val 87 (.bool x116)⟩] hz111 hd111 (by kernel_rfl) ?_ ?_
  · refine sc (fun _ _ _ _ s _ => px (or_move (s.1.trans e111_10))) ?_
    refine sc (fun _ _ _ _ s _ => px (or_move (s.1.trans e111_11))) ?_
    refine sc (fun _ _ _ f _ _ => px (or_mul f.1 f.2.1 rfl)) ?_
    refine sc (fun _ _ _ f _ _ => px (or_gtr f.1 rfl rfl)) ?_
    refine sc (fun _ _ _ f _ _ => px (or_move f.1)) ?_
    refine sc (fun _ _ _ f s _ => sg_f rfl rfl rfl f.1 (fun hg => or_move (s.1.trans e111_12))) ?_
    refine sc (fun _ _ _ f s _ => sg_f rfl rfl rfl f.1 (fun hg => or_move (s.1.trans e111_13))) ?_
    refine sc (fun _ _ _ f _ _ => sg_f rfl rfl rfl f.1 (fun hg => or_mul (f.2.1.1 hg) (f.2.2.1.1 hg) rfl)) ?_
    refine sc (fun _ _ _ f _ _ => sg_f rfl rfl rfl f.1 (fun hg => or_gtr (f.2.1.1 hg) rfl rfl)) ?_
    refine sc (fun _ _ _ f _ _ => px (or_or f.1 rfl (fun hx => f.2.1.1 hx) (osome hx116).symm)) ?_
    exact steps_nil
  intro own117 a117 w117 hd117 hz117 hk117 hf117 hE117
  have e117_10 := (hk117 10 rfl).trans e111_10
  have e117_11 := (hk117 11 rfl).trans e111_11
  have e117_12 := (hk117 12 rfl).trans e111_12
  have e117_13 := (hk117 13 rfl).trans e111_13
  obtain ⟨(e117_87 : a117.eval (.tmp 87) = .bool x116), -⟩ := hf117 [9] rfl
  have hX117 := es_ hX111 hE117
  refine fl_cond e117_87 hs (fun c118 hs => ?_) (fun c118 hs => ?_)
  · refine rg0_seq 103 own117 (bz 2) [⟨[], [], [], Fct.val 8 (.int .i64 0)⟩, ⟨[], [], [], Fct.val 9 (.int .i64 0)⟩] hz117 hd117 (by kernel_rfl) ?_ ?_
    · refine sc (fun _ _ _ _ _ _ => px (or_assign rfl)) ?_
      refine sc (fun _ _ _ _ _ _ => px (or_assign rfl)) ?_
      exact steps_nil
    intro own119 a119 w119 hd119 hz119 hk119 hf119 hE119
    obtain ⟨(e119_8 : a119.eval (.tmp 8) = .int .i64 0), (e119_9 : a119.eval (.tmp 9) = .int .i64 0), -⟩ := hf119 [0, 1] rfl
    have hX119 := es_ hX117 hE119
    refine fl_ret ?_
    refine hp115 _ _ _ rfl ?_
    obtain rfl := osome hs
    exact hret _ _ _ _ (.inl rfl) hd119 (results2_ rfl (RVal.tmp_ e119_8) (RVal.tmp_ e119_9)) ⟨own119, rfl, hX119⟩
  refine fl_skip ?_
  refine hn115 _ _ ?_
  refine rg0_seq 103 own117 (bz 1) [⟨[], [], [], Fct.val 14 (.int .i64 0)⟩] hz117 hd117 (by kernel_rfl) ?_ ?_
  · refine sc (fun _ _ _ _ _ _ => px (or_assign rfl)) ?_
    exact steps_nil
  intro own120 a120 w120 hd120 hz120 hk120 hf120 hE120
  have e120_10 := (hk120 10 rfl).trans e117_10
  have e120_11 := (hk120 11 rfl).trans e117_11
  have e120_12 := (hk120 12 rfl).trans e117_12
  have e120_13 := (hk120 13 rfl).trans e117_13
  obtain ⟨(e120_14 : a120.eval (.tmp 14) = .int .i64 0), -⟩ := hf120 [0] rfl
  have hX120 := es_ hX117 hE120
  refine fl_seq (fun Q121 hn121 hp121 => ?_)
  have K126 : ∀ (a126 : Act) (w126 : World) (own126 : Own) (ends125 : Int), a126.defers = [] → a126.tmps.size = 103 → a126.eval (.tmp 12) = .int .i64 r106 → a126.eval (.tmp 13) = .int .i64 r107 → a126.eval (.tmp 14) = .int .i64 ends125 → Evo [] (fun _ => 0) own126 w w126 → seg_Class_k1 r106 r107 ends125 = some r → Q121 .normal a126 w126 := by
    intro a126 w126 own126 ends125 hd127 hz127 e127_12 e127_13 e127_14 hE127 hs
    refine hn121 _ _ ?_
    refine fl_seq (fun Q128 hn128 hp128 => ?_)
    have K133 : ∀ (a133 : Act) (w133 : World) (own133 : Own) (ends132 : Int), a133.defers = [] → a133.tmps.size = 103 → a133.eval (.tmp 14) = .int .i64 ends132 → Evo [] (fun _ => 0) own133 w w133 → seg_Class_k2 ends132 = some r → Q128 .normal a133 w133 := by
      intro a133 w133 own133 ends132 hd134 hz134 e134_14 hE134 hs
      refine hn128 _ _ ?_
      obtain ⟨x135, hx135, hs⟩ := obind hs
      refine rg0_seq 103 own133 [0, 0, 3, 7, 15] [⟨[], [], [], Fct.val 100 (.agg #[.int .i64 3, .int .i64 2, .int .i64 1])⟩, ⟨[], [14], [], Fct.val 101 (.int .i64 ends132)⟩, ⟨[0, 1], [], [], Fct.val 102 (.int .i64 x135)⟩, ⟨[2], [], [], Fct.val 8 (.int .i64 x135)⟩, ⟨[], [], [], Fct.val 9 (.int .i64 0)⟩] hz134 hd134 (by kernel_rfl) ?_ ?_
      · refine sc (fun _ _ _ _ _ _ => px (or_k [] rfl rfl trivial (by kernel_rfl))) ?_
        refine sc (fun _ _ _ _ s _ => px (or_move (s.1.trans e134_14))) ?_
        refine sc (fun _ _ _ f _ _ => px (or_indexA1 (F := E3) (l := [3, 2, 1]) (v := x135) tr70 to3 ts3 rfl rfl rfl f.1 rfl f.2.1 hx135)) ?_
        refine sc (fun _ _ _ f _ _ => px (or_assign f.1)) ?_
        refine sc (fun _ _ _ _ _ _ => px (or_assign rfl)) ?_
        exact steps_nil
      intro own136 a136 w136 hd136 hz136 hk136 hf136 hE136
      obtain ⟨(e136_8 : a136.eval (.tmp 8) = .int .i64 x135), (e136_9 : a136.eval (.tmp 9) = .int .i64 0), -⟩ := hf136 [3, 4] rfl
      have hX136 := es_ hE134 hE136
      refine fl_ret ?_
      obtain rfl := osome hs
      exact hret _ _ _ _ (.inl rfl) hd136 (results2_ rfl (RVal.tmp_ e136_8) (RVal.tmp_ e136_9)) ⟨own136, rfl, hX136⟩
    refine rg0_seq 103 own126 [0, 0, 3, 7] [⟨[], [12], [], Fct.val 94 (.int .i64 r106)⟩, ⟨[], [13], [], Fct.val 95 (.int .i64 r107)⟩, ⟨[0, 1], [], [], Fct.val 96 (.int .i64 (ml r106 r107))⟩, ⟨[2], [], [], Fct.val 97 (.bool (decide ((ml r106 r107) = 0)))⟩] hz127 hd127 (by kernel_rfl) ?_ ?_
    · refine sc (fun _ _ _ _ s _ => px (or_move (s.1.trans e127_12))) ?_
      refine sc (fun _ _ _ _ s _ => px (or_move (s.1.trans e127_13))) ?_
      refine sc (fun _ _ _ f _ _ => px (or_mul f.1 f.2.1 rfl)) ?_
      refine sc (fun _ _ _ f _ _ => px (or_eql f.1 rfl rfl)) ?_
      exact steps_nil
    intro own137 a137 w137 hd137 hz137 hk137 hf137 hE137
    have e137_14 := (hk137 14 rfl).trans e127_14
    obtain ⟨(e137_97 : a137.eval (.tmp 97) = .bool (decide ((ml r106 r107) = 0))), -⟩ := hf137 [3] rfl
    have hX137 := es_ hE127 hE137
    refine fl_cond e137_97 hs (fun c138 hs => ?_) (fun c138 hs => ?_)
    · refine rg0 103 own137 (bz 3) [⟨[], [14], [], Fct.val 98 (.int .i64 ends125)⟩, ⟨[0], [], [], Fct.val 99 (.int .i64 (ad ends125 1))⟩, ⟨[1], [], [], Fct.val 14 (.int .i64 (ad ends125 1))⟩] hz137 hd137 (by kernel_rfl) ?_ ?_
      · refine sc (fun _ _ _ _ s _ => px (or_move (s.1.trans e137_14))) ?_
        refine sc (fun _ _ _ f _ _ => px (or_add f.1 rfl rfl)) ?_
        refine sc (fun _ _ _ f _ _ => px (or_assign f.1)) ?_
        exact steps_nil
      intro own139 a139 w139 hd139 hz139 hk139 hf139 hE139
      obtain ⟨(e139_14 : a139.eval (.tmp 14) = .int .i64 (ad ends125 1)), -⟩ := hf139 [2] rfl
      have hX139 := es_ hX137 hE139
      exact (K133 _ _ own139 _ hd139 hz139 e139_14 hX139 hs)
    refine fl_skip ?_
    exact (K133 _ _ own137 _ hd137 hz137 e137_14 hX137 hs)
  refine rg0_seq 103 own120 [0, 0, 3, 7] [⟨[], [10], [], Fct.val 88 (.int .i64 r103)⟩, ⟨[], [11], [], Fct.val 89 (.int .i64 r104)⟩, ⟨[0, 1], [], [], Fct.val 90 (.int .i64 (ml r103 r104))⟩, ⟨[2], [], [], Fct.val 91 (.bool (decide ((ml r103 r104) = 0)))⟩] hz120 hd120 (by kernel_rfl) ?_ ?_
  · refine sc (fun _ _ _ _ s _ => px (or_move (s.1.trans e120_10))) ?_
    refine sc (fun _ _ _ _ s _ => px (or_move (s.1.trans e120_11))) ?_
    refine sc (fun _ _ _ f _ _ => px (or_mul f.1 f.2.1 rfl)) ?_
    refine sc (fun _ _ _ f _ _ => px (or_eql f.1 rfl rfl)) ?_
    exact steps_nil
  intro own140 a140 w140 hd140 hz140 hk140 hf140 hE140
  have e140_12 := (hk140 12 rfl).trans e120_12
  have e140_13 := (hk140 13 rfl).trans e120_13
  have e140_14 := (hk140 14 rfl).trans e120_14
  obtain ⟨(e140_91 : a140.eval (.tmp 91) = .bool (decide ((ml r103 r104) = 0))), -⟩ := hf140 [3] rfl
  have hX140 := es_ hX120 hE140
  refine fl_cond e140_91 hs (fun c141 hs => ?_) (fun c141 hs => ?_)
  · refine rg0 103 own140 (bz 3) [⟨[], [14], [], Fct.val 92 (.int .i64 0)⟩, ⟨[0], [], [], Fct.val 93 (.int .i64 1)⟩, ⟨[1], [], [], Fct.val 14 (.int .i64 1)⟩] hz140 hd140 (by kernel_rfl) ?_ ?_
    · refine sc (fun _ _ _ _ s _ => px (or_move (s.1.trans e140_14))) ?_
      refine sc (fun _ _ _ f _ _ => px (or_add f.1 rfl (by decide))) ?_
      refine sc (fun _ _ _ f _ _ => px (or_assign f.1)) ?_
      exact steps_nil
    intro own142 a142 w142 hd142 hz142 hk142 hf142 hE142
    have e142_12 := (hk142 12 rfl).trans e140_12
    have e142_13 := (hk142 13 rfl).trans e140_13
    obtain ⟨(e142_14 : a142.eval (.tmp 14) = .int .i64 1), -⟩ := hf142 [2] rfl
    have hX142 := es_ hX140 hE142
    exact (K126 _ _ own142 _ hd142 hz142 e142_12 e142_13 e142_14 hX142 hs)
  refine fl_skip ?_
  exact (K126 _ _ own140 _ hd140 hz140 e140_12 e140_13 e140_14 hX140 hs)
theorem ring_Simple_w (w : World) (l1 : List (Int × Int)) (Al1 : Option Addr) (cl1 : Nat) (hl1 : RdO (fun _ => 0) [0] w R25 Al1 cl1 l1) (r : Bool) (hs : ring_Simple l1 = some r) :
    Calls Try.prog 17 #[.slice Al1 l1.length cl1] w fun e w' => ∃ own' : Own, e = .returned (.bool r) ∧ Evo [] (fun _ => 0) own' w w' := by
  refine fl_enter (n := 99) rfl rfl rfl (Nat.le_of_ble_eq_true rfl) ?_
  intro a0 Q hd0 hz0 harg hret
  have ha0 := harg 0 _ rfl
  clear harg
  have hE0 : Evo [] (fun _ => 0) (fun _ => 0) w w := Evo.refl _ _ _
  refine rg0_seq 99 (fun _ => 0) (bz 1) [⟨[], [], [], Fct.val 2 (.bool false)⟩] hz0 hd0 (by kernel_rfl) ?_ ?_
  · refine sc (fun _ _ _ _ _ _ => px (or_assign rfl)) ?_
    exact steps_nil
  intro own624 a624 w624 hd624 hz624 hk624 hf624 hE624
  have e624_0 := (hk624 0 rfl).trans ha0
  have hX624 := es_ hE0 hE624
  have b624_Al1 := RdO.evo rfl hE624 hl1
  refine fl_fwd (l := 0) rfl ?_
  intro Q625 hj625 hp625
  have K929 : ∀ (a929 : Act) (w929 : World) (own929 : Own), a929.defers = [] → a929.tmps.size = 99 → Evo [] (fun _ => 0) own929 w w929 → ring_Simple_k1 = some r → Q625 (.goto 0) a929 w929 := by
    intro a929 w929 own929  hd930 hz930 hE930 hs
    refine hj625 _ _ (fun Q931 hp931 => ?_)
    refine fl_seq (fun Q932 hn932 hp932 => ?_)
    refine fl_skip ?_
    refine hn932 _ _ ?_
    refine rg0_seq 99 own929 (bz 1) [⟨[], [], [], Fct.val 2 (.bool false)⟩] hz930 hd930 (by kernel_rfl) ?_ ?_
    · refine sc (fun _ _ _ _ _ _ => px (or_assign rfl)) ?_
      exact steps_nil
    intro own933 a933 w933 hd933 hz933 hk933 hf933 hE933
    obtain ⟨(e933_2 : a933.eval (.tmp 2) = .bool false), -⟩ := hf933 [0] rfl
    have hX933 := es_ hE930 hE933
    refine fl_ret ?_
    refine hp931.leaves _ _ _ rfl ?_
    obtain rfl := osome hs
    exact hret _ _ _ _ (.inl rfl) hd933 (results1_ rfl (RVal.tmp_ e933_2)) ⟨own933, rfl, hX933⟩
  refine rg0_seq 99 own624 (bz 3) [⟨[], [0], [], Fct.val 12 (.slice Al1 l1.length cl1)⟩, ⟨[0], [], [], Fct.val 13 (.int .i64 (l1.length : Int))⟩, ⟨[1], [], [], Fct.val 3 (.int .i64 (l1.length : Int))⟩] hz624 hd624 (by kernel_rfl) ?_ ?_
  · refine sc (fun _ _ _ _ s _ => px (or_move (s.1.trans e624_0))) ?_
    refine sc (fun _ _ _ f _ _ => px (or_len tu22 f.1 rfl)) ?_
    refine sc (fun _ _ _ f _ _ => px (or_assign f.1)) ?_
    exact steps_nil
  intro own934 a934 w934 hd934 hz934 hk934 hf934 hE934
  have e934_0 := (hk934 0 rfl).trans e624_0
  obtain ⟨(e934_3 : a934.eval (.tmp 3) = .int .i64 (l1.length : Int)), -⟩ := hf934 [2] rfl
  have hX934 := es_ hX624 hE934
  have b934_Al1 := RdO.evo rfl hE934 b624_Al1
  refine fl_seq (fun Q935 hn935 hp935 => ?_)
  obtain ⟨r936, hr936, hs⟩ := obind hs
  obtain ⟨x937, hx937, hs⟩ := obind hs
  refine rg0_seq 99 own934 (bz 7) [⟨[], [3], [], Fct.val 14 (.int .i64 (l1.length : Int))⟩, ⟨[0], [], [], Fct.val 15 (.bool (decide ((l1.length : Int) < 3)))⟩, ⟨[1], [], [], Fct.val 16 (.bool (decide ((l1.length : Int) < 3)))⟩, ⟨[2], [0], [], Fct.cond (!(decide ((l1.length : Int) < 3))) (some 17) (Fct.val 17 (.slice Al1 l1.length cl1))⟩, ⟨[2, 3], [], [], Fct.cond (!(decide ((l1.length : Int) < 3))) (some 18) (Fct.val 18 (.bool r936))⟩, ⟨[2, 4], [], [], Fct.cond (!(decide ((l1.length : Int) < 3))) (some 19) (Fct.val 19 (.bool (!r936)))⟩, ⟨[2, 5], [], [], Fct.val 20 (.bool x937)⟩] hz934 hd934 (by kernel_rfl) ?_ ?_
  · refine sc (fun _ _ _ _ s _ => px (or_move (s.1.trans e934_3))) ?_
    refine sc (fun _ _ _ f _ _ => px (or_lss f.1 rfl rfl)) ?_
    refine sc (fun _ _ _ f _ _ => px (or_move f.1)) ?_
    refine sc (fun _ _ _ f s _ => sg_f rfl rfl rfl f.1 (fun hg => or_move (s.1.trans e934_0))) ?_
    refine sc (fun _ _ _ f _ hE => sg_f rfl rfl rfl f.1 (fun hg => or_call cf24 (args1 (f.2.1.1 hg)) (exact_Right_w _ l1 Al1 cl1 (RdO.zero (RdO.evo rfl hE b934_Al1)) r936 (gd_t hr936 hg)) post_val)) ?_
    refine sc (fun _ _ _ f _ _ => sg_f rfl rfl rfl f.1 (fun hg => or_not (f.2.1.1 hg) rfl)) ?_
    refine sc (fun _ _ _ f _ _ => px (or_or f.1 rfl (fun hx => f.2.1.1 hx) (osome hx937).symm)) ?_
    exact steps_nil
  intro own938 a938 w938 hd938 hz938 hk938 hf938 hE938
  have e938_0 := (hk938 0 rfl).trans e934_0
  have e938_3 := (hk938 3 rfl).trans e934_3
  obtain ⟨(e938_20 : a938.eval (.tmp 20) = .bool x937), -⟩ := hf938 [6] rfl
  have hX938 := es_ hX934 hE938
  have b938_Al1 := RdO.evo rfl hE938 b934_Al1
  refine fl_cond e938_20 hs (fun c939 hs => ?_) (fun c939 hs => ?_)
  · refine rg0_seq 99 own938 (bz 1) [⟨[], [], [], Fct.val 2 (.bool false)⟩] hz938 hd938 (by kernel_rfl) ?_ ?_
    · refine sc (fun _ _ _ _ _ _ => px (or_assign rfl)) ?_
      exact steps_nil
    intro own940 a940 w940 hd940 hz940 hk940 hf940 hE940
    obtain ⟨(e940_2 : a940.eval (.tmp 2) = .bool false), -⟩ := hf940 [0] rfl
    have hX940 := es_ hX938 hE940
    refine fl_ret ?_
    refine hp935 _ _ _ rfl ?_
    refine hp625.leaves _ _ _ rfl ?_
    obtain rfl := osome hs
    exact hret _ _ _ _ (.inl rfl) hd940 (results1_ rfl (RVal.tmp_ e940_2)) ⟨own940, rfl, hX940⟩
  refine fl_skip ?_
  refine hn935 _ _ ?_
  refine rg0_seq 99 own938 (bz 2) [⟨[], [], [], Fct.map_ 942 21 vv25 vv4 ([] : List ((Int × Int) × Bool))⟩, ⟨[0], [], [], Fct.rel [4, 21] (fun l => ∀ (g941 : Nat), l.getD 1 undef = .map (some g941) → l.getD 0 undef = .map (some g941))⟩] hz938 hd938 (by kernel_rfl) ?_ ?_
  · refine sc (fun _ _ _ _ _ _ => px (or_makeMap)) ?_
    refine sc (fun own a wx hf hsl hE => ?_) ?_
    · obtain ⟨⟨g941, (f_21 : a.eval (.tmp 21) = .map (some g941)), b_g941⟩, -⟩ := hf
      exact px (or_mono (f := Fct.val 4 (.map (some g941))) (or_assign f_21) (fun own' a' w' v' hp h => fun _ h0' => by cases (f_21.symm.trans ((hp.2 21 (by decide)).symm.trans h0')); exact h))
    exact steps_nil
  intro own943 a943 w943 hd943 hz943 hk943 hf943 hE943
  have e943_0 := (hk943 0 rfl).trans e938_0
  have e943_3 := (hk943 3 rfl).trans e938_3
  obtain ⟨⟨g941, (f_21 : a943.eval (.tmp 21) = .map (some g941)), (b943_g941 : MpO own943 942 w943 g941 vv25 vv4 ([] : List ((Int × Int) × Bool)))⟩, (q_4 : ∀ (g941 : Nat), a943.eval (.tmp 21) = .map (some g941) → a943.eval (.tmp 4) = .map (some g941)), -⟩ := hf943 [0, 1] rfl
  have e943_4 := q_4 _ f_21
  have hX943 := es_ hX938 hE943
  have b943_Al1 := RdO.evo rfl hE943 b938_Al1
  refine fl_seq (fun Q944 hn944 hp944 => ?_)
  refine rg0_seq 99 own943 [0, 1, 0] [⟨[], [0], [], Fct.val 22 (.slice Al1 l1.length cl1)⟩, ⟨[0], [], [], Fct.val 23 (.int .i64 (l1.length : Int))⟩, ⟨[], [], [], Fct.val 24 (.int .i64 0)⟩] hz943 hd943 (by kernel_rfl) ?_ ?_
  · refine sc (fun _ _ _ _ s _ => px (or_move (s.1.trans e943_0))) ?_
    refine sc (fun _ _ _ f _ _ => px (or_len tu22 f.1 rfl)) ?_
    refine sc (fun _ _ _ _ _ _ => px (or_move rfl)) ?_
    exact steps_nil
  intro own945 a945 w945 hd945 hz945 hk945 hf945 hE945
  have e945_0 := (hk945 0 rfl).trans e943_0
  have e945_3 := (hk945 3 rfl).trans e943_3
  have e945_4 := (hk945 4 rfl).trans e943_4
  obtain ⟨(e945_22 : a945.eval (.tmp 22) = .slice Al1 l1.length cl1), (e945_23 : a945.eval (.tmp 23) = .int .i64 (l1.length : Int)), (e945_24 : a945.eval (.tmp 24) = .int .i64 0), -⟩ := hf945 [0, 1, 2] rfl
  have hX945 := es_ hX943 hE945
  have b945_Al1 := RdO.evo rfl hE945 b943_Al1
  have b945_g941 := MpO.evo (by decide) hE945 b943_g941
  refine fl_block (fun Q946 hn946 hx946 hp946 => ?_)
  refine fl_loop (body := (fun s => ring_Simple_b2 l1 s.1 s.2)) (z := r) (show loopO _ _ = _ from hs) (fun (s : (List ((Int × Int) × Bool)) × Int) a wx => match s with | (met967, x968) => ∃ (ox : Own), a.defers = [] ∧ a.tmps.size = 99 ∧ a.eval (.tmp 0) = .slice Al1 l1.length cl1 ∧ a.eval (.tmp 3) = .int .i64 (l1.length : Int) ∧ a.eval (.tmp 4) = .map (some g941) ∧ a.eval (.tmp 22) = .slice Al1 l1.length cl1 ∧ a.eval (.tmp 23) = .int .i64 (l1.length : Int) ∧ a.eval (.tmp 24) = .int .i64 x968 ∧ Evo [] (fun _ => 0) ox w wx ∧ RdO ox [0] wx R25 Al1 cl1 l1 ∧ MpO ox 966 wx g941 vv25 vv4 met967) ?_ ?_
  · exact ⟨(rl [(942, 966)] own945), hd945, hz945, e945_0, e945_3, e945_4, e945_22, e945_23, e945_24, (Evo.rl_ hX945 (fun _ => Nat.le_refl 0) rfl), (RdO.rl_ (mm := [(942, 966)]) b945_Al1), (MpO.rl_ (mm := [(942, 966)]) b945_g941)⟩
  · rintro ⟨met967, x968⟩ zz987 a987 w987 ⟨own987, hd988, hz988, e988_0, e988_3, e988_4, e988_22, e988_23, e988_24, hE988, b988_Al1, b988_g941⟩ hs Q987 hn987 hp987 hz987
    have hs : ring_Simple_b2 l1 met967 x968 = some zz987 := hs
    refine rg0_seq 99 own987 (bz 1) [⟨[], [24, 23], [], Fct.val 25 (.bool (decide (x968 < (l1.length : Int))))⟩] hz988 hd988 (by kernel_rfl) ?_ ?_
    · refine sc (fun _ _ _ _ s _ => px (or_lss (s.1.trans e988_24) (s.2.1.trans e988_23) rfl)) ?_
      exact steps_nil
    intro own989 a989 w989 hd989 hz989 hk989 hf989 hE989
    have e989_0 := (hk989 0 rfl).trans e988_0
    have e989_3 := (hk989 3 rfl).trans e988_3
    have e989_4 := (hk989 4 rfl).trans e988_4
    have e989_22 := (hk989 22 rfl).trans e988_22
    have e989_23 := (hk989 23 rfl).trans e988_23
    have e989_24 := (hk989 24 rfl).trans e988_24
    obtain ⟨(e989_25 : a989.eval (.tmp 25) = .bool (decide (x968 < (l1.length : Int)))), -⟩ := hf989 [0] rfl
    have hX989 := es_ hE988 hE989
    have b989_Al1 := RdO.evo rfl hE989 b988_Al1
    have b989_g941 := MpO.evo (by decide) hE989 b988_g941
    refine fl_seq (fun Q990 hn990 hp990 => ?_)
    refine fl_cond e989_25 hs (fun c991 hs => ?_) (fun c991 hs => ?_)
    · refine fl_skip ?_
      refine hn990 _ _ ?_
      refine fl_seq (fun Q992 hn992 hp992 => ?_)
      refine fl_block (fun Q993 hn993 hx993 hp993 => ?_)
      obtain ⟨x994, hx994, hs⟩ := obind hs
      refine rg_plain_seq (n := 99) (rs := []) (own0 := own989) (K := [996]) (bs := [0, 1, 0, 7]) (ds := [⟨[], [22, 24], [], Fct.val 26 (.pointer (some ((adr Al1).add ((x968 : Int).toNat * R25.s))))⟩, ⟨[0], [], [], Fct.val 27 (.agg #[.int .i64 x994.1, .int .i64 x994.2])⟩, ⟨[], [], [], Fct.blk 996 6 (fun g => .pointer (some ⟨g, 0, none⟩)) 25 #[.int .i64 0, .int .i64 0]⟩, ⟨[2, 1], [], [996], Fct.blk 997 6 (fun g => .pointer (some ⟨g, 0, none⟩)) 25 #[.int .i64 x994.1, .int .i64 x994.2]⟩]) (by kernel_rfl) hz989 hd989 nm_ ?_ ?_
      · refine sc (fun _ _ _ _ s _ => px (or_index (R := R25) (l := l1) tl22 (s.1.trans e989_22) (s.2.1.trans e989_24) (RdO.some_ b989_Al1 hx994) hx994)) ?_
        refine sc (fun _ _ _ f _ hE => px (or_load (l := E25.f x994) ta25 f.1 (RdO.cells (F := E25) (RdO.evo rfl hE b989_Al1) hx994) rfl)) ?_
        refine sc (fun _ _ _ _ _ _ => px (or_new [] rfl rfl trivial (by kernel_rfl))) ?_
        refine sc (fun own a wx hf hsl hE => ?_) ?_
        · obtain ⟨⟨g995, f_6, b_g995⟩, f_27, -⟩ := hf
          exact px (or_store (l := #[.int .i64 x994.1, .int .i64 x994.2]) (lab := 996) (lab2 := 997) ts25 f_6 f_27 b_g995 (by simp) (by kernel_rfl) (mem_of rfl) (by decide) (by kernel_rfl) (fun own' a' w' ha hb => ⟨_, (ha 6).trans f_6, hb⟩))
        exact steps_nil
      intro own998 a998 w998 hd998 hz998 hk998 hf998 hE998
      have e998_0 := (hk998 0 rfl).trans e989_0
      have e998_3 := (hk998 3 rfl).trans e989_3
      have e998_4 := (hk998 4 rfl).trans e989_4
      have e998_22 := (hk998 22 rfl).trans e989_22
      have e998_23 := (hk998 23 rfl).trans e989_23
      have e998_24 := (hk998 24 rfl).trans e989_24
      obtain ⟨⟨g995, (e998_6 : a998.eval (.tmp 6) = .pointer (some ⟨g995, 0, none⟩)), (b998_g995 : BlkO own998 997 w998 g995 25 #[.int .i64 x994.1, .int .i64 x994.2])⟩, -⟩ := hf998 [3] rfl
      have hX998 := es_ hX989 hE998
      have b998_Al1 := RdO.evo rfl hE998 b989_Al1
      have b998_g941 := MpO.evo (by decide) hE998 b989_g941
      refine fl_seq (fun Q999 hn999 hp999 => ?_)
      refine rg0_seq 99 own998 [0, 0, 3] [⟨[], [4], [], Fct.val 28 (.map (some g941))⟩, ⟨[], [6], [], Fct.val 29 (.agg #[.int .i64 x994.1, .int .i64 x994.2])⟩, ⟨[0, 1], [], [], Fct.val 30 (.bool ((lkM met967 x994).getD false))⟩] hz998 hd998 (by kernel_rfl) ?_ ?_
      · refine sc (fun _ _ _ _ s _ => px (or_move (s.1.trans e998_4))) ?_
        refine sc (fun _ _ _ _ s hE => px (or_load (l := [.int .i64 x994.1, .int .i64 x994.2]) ta25 (s.1.trans e998_6) (Blk.cellsFrom (be_ hE b998_g995).2 0 rfl) rfl)) ?_
        refine sc (fun _ _ _ f _ hE => px (or_lookupE (kf := vv25) (vf := vv4) (k := x994) (dv := false) ko25 tm60 tzv60 f.1 f.2.1 (MpO.evo (by decide) hE b998_g941) rfl)) ?_
        exact steps_nil
      intro own1000 a1000 w1000 hd1000 hz1000 hk1000 hf1000 hE1000
      have e1000_0 := (hk1000 0 rfl).trans e998_0
      have e1000_3 := (hk1000 3 rfl).trans e998_3
      have e1000_4 := (hk1000 4 rfl).trans e998_4
      have e1000_6 := (hk1000 6 rfl).trans e998_6
      have e1000_22 := (hk1000 22 rfl).trans e998_22
      have e1000_23 := (hk1000 23 rfl).trans e998_23
      have e1000_24 := (hk1000 24 rfl).trans e998_24
      obtain ⟨(e1000_30 : a1000.eval (.tmp 30) = .bool ((lkM met967 x994).getD false)), -⟩ := hf1000 [2] rfl
      have hX1000 := es_ hX998 hE1000
      have b1000_Al1 := RdO.evo rfl hE1000 b998_Al1
      have b1000_g941 := MpO.evo (by decide) hE1000 b998_g941
      have b1000_g995 := be_ hE1000 b998_g995
      refine fl_cond e1000_30 hs (fun c1001 hs => ?_) (fun c1001 hs => ?_)
      · refine fl_goto ?_
        refine hp999 _ _ _ rfl ?_
        refine hp993 _ _ _ rfl ?_
        refine hp992 _ _ _ rfl ?_
        replace hs := hz987 _ hs
        refine hp987 _ _ _ rfl ?_
        refine hp946 _ _ _ rfl ?_
        refine hp944 _ _ _ rfl ?_
        exact (K929 _ _ own1000  hd1000 hz1000 hX1000 hs)
      refine fl_skip ?_
      refine hn999 _ _ ?_
      obtain ⟨D1002, hD1002, hs⟩ := obind hs
      refine rg_plain (n := 99) (rs := [Fct.mapAt 966 g941 vv25 vv4 met967]) (own0 := own1000) (K := [966]) (bs := [0, 0, 3]) (ds := [⟨[], [4], [], Fct.val 31 (.map (some g941))⟩, ⟨[], [6], [], Fct.val 32 (.agg #[.int .i64 x994.1, .int .i64 x994.2])⟩, ⟨[0, 1, 3], [], [966], Fct.mapAt 1003 g941 vv25 vv4 D1002⟩]) (by kernel_rfl) hz1000 hd1000 (by simp only [List.forall_mem_cons]; exact ⟨b1000_g941, fun _ h => nomatch h⟩) ?_ ?_
      · refine sc (fun _ _ _ _ s _ => px (or_move (s.1.trans e1000_4))) ?_
        refine sc (fun _ _ _ _ s hE => px (or_load (l := [.int .i64 x994.1, .int .i64 x994.2]) ta25 (s.1.trans e1000_6) (Blk.cellsFrom (be_ hE b1000_g995).2 0 rfl) rfl)) ?_
        refine sc (fun own a wx hf hsl hE => ?_) ?_
        · obtain ⟨f_31, f_32, b_g941, -⟩ := hf
          exact px (or_mapUpdate (kf := vv25) (vf := vv4) (k := x994) (v := true) (lab := 966) (lab2 := 1003) ko25 tm60 f_31 f_32 rfl b_g941 (osome hD1002).symm (mem_of rfl) (by decide) (fun own' a' w' hb => hb))
        exact steps_nil
      intro own1004 a1004 w1004 hd1004 hz1004 hk1004 hf1004 hE1004
      have e1004_0 := (hk1004 0 rfl).trans e1000_0
      have e1004_3 := (hk1004 3 rfl).trans e1000_3
      have e1004_4 := (hk1004 4 rfl).trans e1000_4
      have e1004_22 := (hk1004 22 rfl).trans e1000_22
      have e1004_23 := (hk1004 23 rfl).trans e1000_23
      have e1004_24 := (hk1004 24 rfl).trans e1000_24
      obtain ⟨(b1004_g941 : MpO own1004 1003 w1004 g941 vv25 vv4 D1002), -⟩ := hf1004 [2] rfl
      have hX1004 := es_ hX1000 hE1004
      have b1004_Al1 := RdO.evo rfl hE1004 b1000_Al1
      refine hn993 _ _ ?_
      refine hn992 _ _ ?_
      refine rg0 99 own1004 (bz 2) [⟨[], [24], [], Fct.val 33 (.int .i64 (ad x968 1))⟩, ⟨[0], [], [], Fct.val 24 (.int .i64 (ad x968 1))⟩] hz1004 hd1004 (by kernel_rfl) ?_ ?_
      · refine sc (fun _ _ _ _ s _ => px (or_add (s.1.trans e1004_24) rfl rfl)) ?_
        refine sc (fun _ _ _ f _ _ => px (or_move f.1)) ?_
        exact steps_nil
      intro own1005 a1005 w1005 hd1005 hz1005 hk1005 hf1005 hE1005
      have e1005_0 := (hk1005 0 rfl).trans e1004_0
      have e1005_3 := (hk1005 3 rfl).trans e1004_3
      have e1005_4 := (hk1005 4 rfl).trans e1004_4
      have e1005_22 := (hk1005 22 rfl).trans e1004_22
      have e1005_23 := (hk1005 23 rfl).trans e1004_23
      obtain ⟨(e1005_24 : a1005.eval (.tmp 24) = .int .i64 (ad x968 1)), -⟩ := hf1005 [1] rfl
      have hX1005 := es_ hX1004 hE1005
      have b1005_Al1 := RdO.evo rfl hE1005 b1004_Al1
      have b1005_g941 := MpO.evo (by decide) hE1005 b1004_g941
      exact hn987 _ _ _ hs ⟨(rl [(1003, 966)] own1005), hd1005, hz1005, e1005_0, e1005_3, e1005_4, e1005_22, e1005_23, e1005_24, (Evo.rl_ hX1005 (fun _ => Nat.le_refl 0) rfl), (RdO.rl_ (mm := [(1003, 966)]) b1005_Al1), (MpO.rl_ (mm := [(1003, 966)]) b1005_g941)⟩
    refine fl_exit ?_
    refine hp990 _ _ _ rfl ?_
    replace hs := hz987 _ hs
    refine hp987 _ _ _ rfl ?_
    refine hx946 _ _ ?_
    refine hn944 _ _ ?_
    refine fl_seq (fun Q1006 hn1006 hp1006 => ?_)
    refine rg0_seq 99 own989 [0, 0] [⟨[], [3], [], Fct.val 34 (.int .i64 (l1.length : Int))⟩, ⟨[], [], [], Fct.val 35 (.int .i64 0)⟩] hz989 hd989 (by kernel_rfl) ?_ ?_
    · refine sc (fun _ _ _ _ s _ => px (or_move (s.1.trans e989_3))) ?_
      refine sc (fun _ _ _ _ _ _ => px (or_move rfl)) ?_
      exact steps_nil
    intro own1007 a1007 w1007 hd1007 hz1007 hk1007 hf1007 hE1007
    have e1007_0 := (hk1007 0 rfl).trans e989_0
    have e1007_3 := (hk1007 3 rfl).trans e989_3
    obtain ⟨(e1007_34 : a1007.eval (.tmp 34) = .int .i64 (l1.length : Int)), (e1007_35 : a1007.eval (.tmp 35) = .int .i64 0), -⟩ := hf1007 [0, 1] rfl
    have hX1007 := es_ hX989 hE1007
    have b1007_Al1 := RdO.evo rfl hE1007 b989_Al1
    refine fl_block (fun Q1008 hn1008 hx1008 hp1008 => ?_)
    refine fl_loop (body := (fun s => ring_Simple_b3 l1 s)) (z := r) (show loopO _ _ = _ from hs) (fun (x1083 : Int) a wx => ∃ (ox : Own), a.defers = [] ∧ a.tmps.size = 99 ∧ a.eval (.tmp 0) = .slice Al1 l1.length cl1 ∧ a.eval (.tmp 3) = .int .i64 (l1.length : Int) ∧ a.eval (.tmp 34) = .int .i64 (l1.length : Int) ∧ a.eval (.tmp 35) = .int .i64 x1083 ∧ Evo [] (fun _ => 0) ox w wx ∧ RdO ox [0] wx R25 Al1 cl1 l1) ?_ ?_
    · exact ⟨own1007, hd1007, hz1007, e1007_0, e1007_3, e1007_34, e1007_35, hX1007, b1007_Al1⟩
    · rintro x1083 zz1162 a1162 w1162 ⟨own1162, hd1163, hz1163, e1163_0, e1163_3, e1163_34, e1163_35, hE1163, b1163_Al1⟩ hs Q1162 hn1162 hp1162 hz1162
      have hs : ring_Simple_b3 l1 x1083 = some zz1162 := hs
      refine rg0_seq 99 own1162 (bz 1) [⟨[], [35, 34], [], Fct.val 36 (.bool (decide (x1083 < (l1.length : Int))))⟩] hz1163 hd1163 (by kernel_rfl) ?_ ?_
      · refine sc (fun _ _ _ _ s _ => px (or_lss (s.1.trans e1163_35) (s.2.1.trans e1163_34) rfl)) ?_
        exact steps_nil
      intro own1164 a1164 w1164 hd1164 hz1164 hk1164 hf1164 hE1164
      have e1164_0 := (hk1164 0 rfl).trans e1163_0
      have e1164_3 := (hk1164 3 rfl).trans e1163_3
      have e1164_34 := (hk1164 34 rfl).trans e1163_34
      have e1164_35 := (hk1164 35 rfl).trans e1163_35
      obtain ⟨(e1164_36 : a1164.eval (.tmp 36) = .bool (decide (x1083 < (l1.length : Int)))), -⟩ := hf1164 [0] rfl
      have hX1164 := es_ hE1163 hE1164
      have b1164_Al1 := RdO.evo rfl hE1164 b1163_Al1
      refine fl_seq (fun Q1165 hn1165 hp1165 => ?_)
      refine fl_cond e1164_36 hs (fun c1166 hs => ?_) (fun c1166 hs => ?_)
      · refine fl_skip ?_
        refine hn1165 _ _ ?_
        refine fl_seq (fun Q1167 hn1167 hp1167 => ?_)
        refine fl_block (fun Q1168 hn1168 hx1168 hp1168 => ?_)
        refine rg0_seq 99 own1164 (bz 2) [⟨[], [35], [], Fct.val 37 (.int .i64 x1083)⟩, ⟨[0], [], [], Fct.val 7 (.int .i64 x1083)⟩] hz1164 hd1164 (by kernel_rfl) ?_ ?_
        · refine sc (fun _ _ _ _ s _ => px (or_move (s.1.trans e1164_35))) ?_
          refine sc (fun _ _ _ f _ _ => px (or_assign f.1)) ?_
          exact steps_nil
        intro own1169 a1169 w1169 hd1169 hz1169 hk1169 hf1169 hE1169
        have e1169_0 := (hk1169 0 rfl).trans e1164_0
        have e1169_3 := (hk1169 3 rfl).trans e1164_3
        have e1169_34 := (hk1169 34 rfl).trans e1164_34
        have e1169_35 := (hk1169 35 rfl).trans e1164_35
        obtain ⟨(e1169_7 : a1169.eval (.tmp 7) = .int .i64 x1083), -⟩ := hf1169 [1] rfl
        have hX1169 := es_ hX1164 hE1169
        have b1169_Al1 := RdO.evo rfl hE1169 b1164_Al1
        refine rg0_seq 99 own1169 (bz 3) [⟨[], [7], [], Fct.val 38 (.int .i64 x1083)⟩, ⟨[0], [], [], Fct.val 39 (.int .i64 (ad x1083 1))⟩, ⟨[1], [], [], Fct.val 8 (.int .i64 (ad x1083 1))⟩] hz1169 hd1169 (by kernel_rfl) ?_ ?_
        · refine sc (fun _ _ _ _ s _ => px (or_move (s.1.trans e1169_7))) ?_
          refine sc (fun _ _ _ f _ _ => px (or_add f.1 rfl rfl)) ?_
          refine sc (fun _ _ _ f _ _ => px (or_assign f.1)) ?_
          exact steps_nil
        intro own1170 a1170 w1170 hd1170 hz1170 hk1170 hf1170 hE1170
        have e1170_0 := (hk1170 0 rfl).trans e1169_0
        have e1170_3 := (hk1170 3 rfl).trans e1169_3
        have e1170_7 := (hk1170 7 rfl).trans e1169_7
        have e1170_34 := (hk1170 34 rfl).trans e1169_34
        have e1170_35 := (hk1170 35 rfl).trans e1169_35
        obtain ⟨(e1170_8 : a1170.eval (.tmp 8) = .int .i64 (ad x1083 1)), -⟩ := hf1170 [2] rfl
        have hX1170 := es_ hX1169 hE1170
        have b1170_Al1 := RdO.evo rfl hE1170 b1169_Al1
        refine fl_block (fun Q1171 hn1171 hx1171 hp1171 => ?_)
        refine fl_loop (body := (fun s => ring_Simple_b4 l1 x1083 s)) (z := zz1162) (show loopO _ _ = _ from hs) (fun (k1194 : Int) a wx => ∃ (ox : Own), a.defers = [] ∧ a.tmps.size = 99 ∧ a.eval (.tmp 0) = .slice Al1 l1.length cl1 ∧ a.eval (.tmp 3) = .int .i64 (l1.length : Int) ∧ a.eval (.tmp 7) = .int .i64 x1083 ∧ a.eval (.tmp 8) = .int .i64 k1194 ∧ a.eval (.tmp 34) = .int .i64 (l1.length : Int) ∧ a.eval (.tmp 35) = .int .i64 x1083 ∧ Evo [] (fun _ => 0) ox w wx ∧ RdO ox [0] wx R25 Al1 cl1 l1) ?_ ?_
        · exact ⟨own1170, hd1170, hz1170, e1170_0, e1170_3, e1170_7, e1170_8, e1170_34, e1170_35, hX1170, b1170_Al1⟩
        · rintro k1194 zz1217 a1217 w1217 ⟨own1217, hd1218, hz1218, e1218_0, e1218_3, e1218_7, e1218_8, e1218_34, e1218_35, hE1218, b1218_Al1⟩ hs Q1217 hn1217 hp1217 hz1217
          have hs : ring_Simple_b4 l1 x1083 k1194 = some zz1217 := hs
          refine fl_seq (fun Q1219 hn1219 hp1219 => ?_)
          refine rg0_seq 99 own1217 [0, 0, 3] [⟨[], [8], [], Fct.val 40 (.int .i64 k1194)⟩, ⟨[], [3], [], Fct.val 41 (.int .i64 (l1.length : Int))⟩, ⟨[0, 1], [], [], Fct.val 42 (.bool (decide (k1194 < (l1.length : Int))))⟩] hz1218 hd1218 (by kernel_rfl) ?_ ?_
          · refine sc (fun _ _ _ _ s _ => px (or_move (s.1.trans e1218_8))) ?_
            refine sc (fun _ _ _ _ s _ => px (or_move (s.1.trans e1218_3))) ?_
            refine sc (fun _ _ _ f _ _ => px (or_lss f.1 f.2.1 rfl)) ?_
            exact steps_nil
          intro own1220 a1220 w1220 hd1220 hz1220 hk1220 hf1220 hE1220
          have e1220_0 := (hk1220 0 rfl).trans e1218_0
          have e1220_3 := (hk1220 3 rfl).trans e1218_3
          have e1220_7 := (hk1220 7 rfl).trans e1218_7
          have e1220_8 := (hk1220 8 rfl).trans e1218_8
          have e1220_34 := (hk1220 34 rfl).trans e1218_34
          have e1220_35 := (hk1220 35 rfl).trans e1218_35
          obtain ⟨(e1220_42 : a1220.eval (.tmp 42) = .bool (decide (k1194 < (l1.length : Int)))), -⟩ := hf1220 [2] rfl
          have hX1220 := es_ hE1218 hE1220
          have b1220_Al1 := RdO.evo rfl hE1220 b1218_Al1
          refine fl_cond e1220_42 hs (fun c1221 hs => ?_) (fun c1221 hs => ?_)
          · refine fl_skip ?_
            refine hn1219 _ _ ?_
            refine fl_seq (fun Q1222 hn1222 hp1222 => ?_)
            refine fl_block (fun Q1223 hn1223 hx1223 hp1223 => ?_)
            obtain ⟨x1224, hx1224, hs⟩ := obind hs
            obtain ⟨x1225, hx1225, hs⟩ := obind hs
            obtain ⟨x1226, hx1226, hs⟩ := obind hs
            obtain ⟨x1227, hx1227, hs⟩ := obind hs
            obtain ⟨x1228, hx1228, hs⟩ := obind hs
            obtain ⟨x1229, hx1229, hs⟩ := obind hs
            obtain ⟨r1230, hr1230, hs⟩ := obind hs
            refine rg_draw_seq g_mixed (n := 99) (rs := []) (own0 := own1220) (K := []) (bs := [0, 0, 3, 7, 0, 0, 32, 0, 224, 496, 1008, 0, 0, 6144, 14336, 0, 0, 65536, 0, 458752, 1015808, 2064384, 4194303, 8388607, 16777215, 16777215, 33554431, 134217727]) (ds := [⟨[], [0], [], Fct.val 46 (.slice Al1 l1.length cl1)⟩, ⟨[], [7], [], Fct.val 47 (.int .i64 x1083)⟩, ⟨[0, 1], [], [], Fct.val 48 (.pointer (some ((adr Al1).add ((x1083 : Int).toNat * R25.s))))⟩, ⟨[2], [], [], Fct.val 49 (.agg #[.int .i64 x1224.1, .int .i64 x1224.2])⟩, ⟨[], [0], [], Fct.val 50 (.slice Al1 l1.length cl1)⟩, ⟨[], [7], [], Fct.val 51 (.int .i64 x1083)⟩, ⟨[5], [], [], Fct.val 52 (.int .i64 (ad x1083 1))⟩, ⟨[], [3], [], Fct.val 53 (.int .i64 (l1.length : Int))⟩, ⟨[6, 7], [], [], Fct.val 54 (.int .i64 x1225)⟩, ⟨[4, 8], [], [], Fct.val 55 (.pointer (some ((adr Al1).add ((x1225 : Int).toNat * R25.s))))⟩, ⟨[9], [], [], Fct.val 56 (.agg #[.int .i64 x1226.1, .int .i64 x1226.2])⟩, ⟨[], [0], [], Fct.val 57 (.slice Al1 l1.length cl1)⟩, ⟨[], [8], [], Fct.val 58 (.int .i64 k1194)⟩, ⟨[11, 12], [], [], Fct.val 59 (.pointer (some ((adr Al1).add ((k1194 : Int).toNat * R25.s))))⟩, ⟨[13], [], [], Fct.val 60 (.agg #[.int .i64 x1227.1, .int .i64 x1227.2])⟩, ⟨[], [0], [], Fct.val 61 (.slice Al1 l1.length cl1)⟩, ⟨[], [8], [], Fct.val 62 (.int .i64 k1194)⟩, ⟨[16], [], [], Fct.val 63 (.int .i64 (ad k1194 1))⟩, ⟨[], [3], [], Fct.val 64 (.int .i64 (l1.length : Int))⟩, ⟨[17, 18], [], [], Fct.val 65 (.int .i64 x1228)⟩, ⟨[15, 19], [], [], Fct.val 66 (.pointer (some ((adr Al1).add ((x1228 : Int).toNat * R25.s))))⟩, ⟨[20], [], [], Fct.val 67 (.agg #[.int .i64 x1229.1, .int .i64 x1229.2])⟩, ⟨[3, 10, 14, 21], [], [], Fct.val 68 (.tuple #[.int .i64 r1230.1, .int .i64 r1230.2])⟩, ⟨[22], [], [], Fct.val 45 (.tuple #[.int .i64 r1230.1, .int .i64 r1230.2])⟩, ⟨[23], [], [], Fct.val 69 (.int .i64 r1230.1)⟩, ⟨[23], [], [], Fct.val 70 (.int .i64 r1230.2)⟩, ⟨[24], [], [], Fct.val 9 (.int .i64 r1230.1)⟩, ⟨[25], [], [], Fct.val 10 (.int .i64 r1230.2)⟩]) (by kernel_rfl) hz1220 hd1220 nm_ ?_ ?_
            · refine sc (fun _ _ _ _ s _ => px (or_move (s.1.trans e1220_0))) ?_
              refine sc (fun _ _ _ _ s _ => px (or_move (s.1.trans e1220_7))) ?_
              refine sc (fun _ _ _ f _ _ => px (or_index (R := R25) (l := l1) tl22 f.1 f.2.1 (RdO.some_ b1220_Al1 hx1224) hx1224)) ?_
              refine sc (fun _ _ _ f _ hE => px (or_load (l := E25.f x1224) ta25 f.1 (RdO.cells (F := E25) (RdO.evo rfl hE b1220_Al1) hx1224) rfl)) ?_
              refine sc (fun _ _ _ _ s _ => px (or_move (s.1.trans e1220_0))) ?_
              refine sc (fun _ _ _ _ s _ => px (or_move (s.1.trans e1220_7))) ?_
              refine sc (fun _ _ _ f _ _ => px (or_add f.1 rfl rfl)) ?_
              refine sc (fun _ _ _ _ s _ => px (or_move (s.1.trans e1220_3))) ?_
              refine sc (fun _ _ _ f _ _ => px (or_rem f.1 f.2.1 hx1225)) ?_
              refine sc (fun _ _ _ f _ _ => px (or_index (R := R25) (l := l1) tl22 f.1 f.2.1 (RdO.some_ b1220_Al1 hx1226) hx1226)) ?_
              refine sc (fun _ _ _ f _ hE => px (or_load (l := E25.f x1226) ta25 f.1 (RdO.cells (F := E25) (RdO.evo rfl hE b1220_Al1) hx1226) rfl)) ?_
              refine sc (fun _ _ _ _ s _ => px (or_move (s.1.trans e1220_0))) ?_
              refine sc (fun _ _ _ _ s _ => px (or_move (s.1.trans e1220_8))) ?_
              refine sc (fun _ _ _ f _ _ => px (or_index (R := R25) (l := l1) tl22 f.1 f.2.1 (RdO.some_ b1220_Al1 hx1227) hx1227)) ?_
              refine sc (fun _ _ _ f _ hE => px (or_load (l := E25.f x1227) ta25 f.1 (RdO.cells (F := E25) (RdO.evo rfl hE b1220_Al1) hx1227) rfl)) ?_
              refine sc (fun _ _ _ _ s _ => px (or_move (s.1.trans e1220_0))) ?_
              refine sc (fun _ _ _ _ s _ => px (or_move (s.1.trans e1220_8))) ?_
              refine sc (fun _ _ _ f _ _ => px (or_add f.1 rfl rfl)) ?_
              refine sc (fun _ _ _ _ s _ => px (or_move (s.1.trans e1220_3))) ?_
              refine sc (fun _ _ _ f _ _ => px (or_rem f.1 f.2.1 hx1228)) ?_
              refine sc (fun _ _ _ f _ _ => px (or_index (R := R25) (l := l1) tl22 f.1 f.2.1 (RdO.some_ b1220_Al1 hx1229) hx1229)) ?_
              refine sc (fun _ _ _ f _ hE => px (or_load (l := E25.f x1229) ta25 f.1 (RdO.cells (F := E25) (RdO.evo rfl hE b1220_Al1) hx1229) rfl)) ?_
              refine sc (fun _ _ _ f _ _ => px (or_call cf32 (args4 f.1 f.2.1 f.2.2.1 f.2.2.2.1) (seg_Class_w _ x1224 x1226 x1227 x1229  r1230 hr1230) post_val)) ?_
              refine sc (fun _ _ _ f _ _ => px (or_move f.1)) ?_
              refine sc (fun _ _ _ f _ _ => px (or_k [(45, .tuple #[.int .i64 r1230.1, .int .i64 r1230.2])] rfl rfl ⟨f.1, trivial⟩ (by kernel_rfl))) ?_
              refine sc (fun _ _ _ f _ _ => px (or_k [(45, .tuple #[.int .i64 r1230.1, .int .i64 r1230.2])] rfl rfl ⟨f.1, trivial⟩ (by kernel_rfl))) ?_
              refine sc (fun _ _ _ f _ _ => px (or_assign f.1)) ?_
              refine sc (fun _ _ _ f _ _ => px (or_assign f.1)) ?_
              exact steps_nil
            intro own1231 a1231 w1231 hd1231 hz1231 hk1231 hf1231 hE1231
            have e1231_0 := (hk1231 0 rfl).trans e1220_0
            have e1231_3 := (hk1231 3 rfl).trans e1220_3
            have e1231_7 := (hk1231 7 rfl).trans e1220_7
            have e1231_8 := (hk1231 8 rfl).trans e1220_8
            have e1231_34 := (hk1231 34 rfl).trans e1220_34
            have e1231_35 := (hk1231 35 rfl).trans e1220_35
            obtain ⟨(e1231_9 : a1231.eval (.tmp 9) = .int .i64 r1230.1), -⟩ := hf1231 [26] rfl
            have hX1231 := es_ hX1220 hE1231
            have b1231_Al1 := RdO.evo rfl hE1231 b1220_Al1
            obtain ⟨x1232, hx1232, hs⟩ := obind hs
            obtain ⟨x1233, hx1233, hs⟩ := obind hs
            refine rg0_seq 99 own1231 [0, 0, 2, 7, 15, 31, 63, 127, 255, 255, 767, 2047, 4095, 8191, 16383] [⟨[], [8], [], Fct.val 71 (.int .i64 k1194)⟩, ⟨[], [7], [], Fct.val 72 (.int .i64 x1083)⟩, ⟨[1], [], [], Fct.val 73 (.int .i64 (ad x1083 1))⟩, ⟨[0, 2], [], [], Fct.val 74 (.bool (decide (k1194 = (ad x1083 1))))⟩, ⟨[3], [], [], Fct.val 75 (.bool (decide (k1194 = (ad x1083 1))))⟩, ⟨[4], [7], [], Fct.cond (!(decide (k1194 = (ad x1083 1)))) (some 76) (Fct.val 76 (.int .i64 x1083))⟩, ⟨[4, 5], [], [], Fct.cond (!(decide (k1194 = (ad x1083 1)))) (some 77) (Fct.val 77 (.bool (decide (x1083 = 0))))⟩, ⟨[4, 6], [], [], Fct.cond (!(decide (k1194 = (ad x1083 1)))) (some 78) (Fct.val 78 (.bool (decide (x1083 = 0))))⟩, ⟨[7], [8], [], Fct.cond ((!(decide (k1194 = (ad x1083 1)))) && (decide (x1083 = 0))) (some 79) (Fct.val 79 (.int .i64 k1194))⟩, ⟨[7], [3], [], Fct.cond ((!(decide (k1194 = (ad x1083 1)))) && (decide (x1083 = 0))) (some 80) (Fct.val 80 (.int .i64 (l1.length : Int)))⟩, ⟨[7, 9], [], [], Fct.cond ((!(decide (k1194 = (ad x1083 1)))) && (decide (x1083 = 0))) (some 81) (Fct.val 81 (.int .i64 (sb (l1.length : Int) 1)))⟩, ⟨[7, 8, 10], [], [], Fct.cond ((!(decide (k1194 = (ad x1083 1)))) && (decide (x1083 = 0))) (some 82) (Fct.val 82 (.bool (decide (k1194 = (sb (l1.length : Int) 1)))))⟩, ⟨[4, 7, 11], [], [], Fct.cond (!(decide (k1194 = (ad x1083 1)))) (some 83) (Fct.val 83 (.bool x1232))⟩, ⟨[4, 12], [], [], Fct.val 84 (.bool x1233)⟩, ⟨[13], [], [], Fct.val 11 (.bool x1233)⟩] hz1231 hd1231 (by kernel_rfl) ?_ ?_
            · refine sc (fun _ _ _ _ s _ => px (or_move (s.1.trans e1231_8))) ?_
              refine sc (fun _ _ _ _ s _ => px (or_move (s.1.trans e1231_7))) ?_
              refine sc (fun _ _ _ f _ _ => px (or_add f.1 rfl rfl)) ?_
              refine sc (fun _ _ _ f _ _ => px (or_eql f.1 f.2.1 rfl)) ?_
              refine sc (fun _ _ _ f _ _ => px (or_move f.1)) ?_
              refine sc (fun _ _ _ f s _ => sg_f rfl rfl rfl f.1 (fun hg => or_move (s.1.trans e1231_7))) ?_
              refine sc (fun _ _ _ f _ _ => sg_f rfl rfl rfl f.1 (fun hg => or_eql (f.2.1.1 hg) rfl rfl)) ?_
              refine sc (fun _ _ _ f _ _ => sg_f rfl rfl rfl f.1 (fun hg => or_move (f.2.1.1 hg))) ?_
              refine sc (fun _ _ _ f s _ => sg_tc rfl rfl rfl f.1 (fun hg => or_move (s.1.trans e1231_8))) ?_
              refine sc (fun _ _ _ f s _ => sg_tc rfl rfl rfl f.1 (fun hg => or_move (s.1.trans e1231_3))) ?_
              refine sc (fun _ _ _ f _ _ => sg_tc rfl rfl rfl f.1 (fun hg => or_sub (f.2.1.1 hg) rfl rfl)) ?_
              refine sc (fun _ _ _ f _ _ => sg_tc rfl rfl rfl f.1 (fun hg => or_eql (f.2.1.1 hg) (f.2.2.1.1 hg) rfl)) ?_
              refine sc (fun _ _ _ f _ _ => sg_f rfl rfl rfl f.1 (fun hg => or_and (f.2.1.1 hg) (fun hx => f.2.2.1.1 (gI hg hx)) rfl (osome hx1232).symm)) ?_
              refine sc (fun _ _ _ f _ _ => px (or_or f.1 rfl (fun hx => f.2.1.1 hx) (osome hx1233).symm)) ?_
              refine sc (fun _ _ _ f _ _ => px (or_assign f.1)) ?_
              exact steps_nil
            intro own1234 a1234 w1234 hd1234 hz1234 hk1234 hf1234 hE1234
            have e1234_0 := (hk1234 0 rfl).trans e1231_0
            have e1234_3 := (hk1234 3 rfl).trans e1231_3
            have e1234_7 := (hk1234 7 rfl).trans e1231_7
            have e1234_8 := (hk1234 8 rfl).trans e1231_8
            have e1234_9 := (hk1234 9 rfl).trans e1231_9
            have e1234_34 := (hk1234 34 rfl).trans e1231_34
            have e1234_35 := (hk1234 35 rfl).trans e1231_35
            obtain ⟨(e1234_11 : a1234.eval (.tmp 11) = .bool x1233), -⟩ := hf1234 [14] rfl
            have hX1234 := es_ hX1231 hE1234
            have b1234_Al1 := RdO.evo rfl hE1234 b1231_Al1
            obtain ⟨x1235, hx1235, hs⟩ := obind hs
            obtain ⟨x1236, hx1236, hs⟩ := obind hs
            refine rg0_seq 99 own1234 (bz 13) [⟨[], [11], [], Fct.val 85 (.bool x1233)⟩, ⟨[0], [], [], Fct.val 86 (.bool x1233)⟩, ⟨[1], [9], [], Fct.cond x1233 (some 87) (Fct.val 87 (.int .i64 r1230.1))⟩, ⟨[1, 2], [], [], Fct.cond x1233 (some 88) (Fct.val 88 (.bool (!decide (r1230.1 = 1))))⟩, ⟨[1, 3], [], [], Fct.val 89 (.bool (x1233 && (!decide (r1230.1 = 1))))⟩, ⟨[4], [], [], Fct.val 90 (.bool (x1233 && (!decide (r1230.1 = 1))))⟩, ⟨[5], [11], [], Fct.cond (!(x1233 && (!decide (r1230.1 = 1)))) (some 91) (Fct.val 91 (.bool x1233))⟩, ⟨[5, 6], [], [], Fct.cond (!(x1233 && (!decide (r1230.1 = 1)))) (some 92) (Fct.val 92 (.bool (!x1233)))⟩, ⟨[5, 7], [], [], Fct.cond (!(x1233 && (!decide (r1230.1 = 1)))) (some 93) (Fct.val 93 (.bool (!x1233)))⟩, ⟨[8], [9], [], Fct.cond ((!(x1233 && (!decide (r1230.1 = 1)))) && (!x1233)) (some 94) (Fct.val 94 (.int .i64 r1230.1))⟩, ⟨[8, 9], [], [], Fct.cond ((!(x1233 && (!decide (r1230.1 = 1)))) && (!x1233)) (some 95) (Fct.val 95 (.bool (!decide (r1230.1 = 0))))⟩, ⟨[5, 8, 10], [], [], Fct.cond (!(x1233 && (!decide (r1230.1 = 1)))) (some 96) (Fct.val 96 (.bool x1235))⟩, ⟨[5, 11], [], [], Fct.val 97 (.bool x1236)⟩] hz1234 hd1234 (by kernel_rfl) ?_ ?_
            · refine sc (fun _ _ _ _ s _ => px (or_move (s.1.trans e1234_11))) ?_
              refine sc (fun _ _ _ f _ _ => px (or_move f.1)) ?_
              refine sc (fun _ _ _ f s _ => sg_t rfl rfl rfl f.1 (fun hg => or_move (s.1.trans e1234_9))) ?_
              refine sc (fun _ _ _ f _ _ => sg_t rfl rfl rfl f.1 (fun hg => or_neq (f.2.1.1 hg) rfl rfl)) ?_
              refine sc (fun _ _ _ f _ _ => px (or_and f.1 (fun hx => f.2.1.1 hx) rfl rfl)) ?_
              refine sc (fun _ _ _ f _ _ => px (or_move f.1)) ?_
              refine sc (fun _ _ _ f s _ => sg_f rfl rfl rfl f.1 (fun hg => or_move (s.1.trans e1234_11))) ?_
              refine sc (fun _ _ _ f _ _ => sg_f rfl rfl rfl f.1 (fun hg => or_not (f.2.1.1 hg) rfl)) ?_
              refine sc (fun _ _ _ f _ _ => sg_f rfl rfl rfl f.1 (fun hg => or_move (f.2.1.1 hg))) ?_
              refine sc (fun _ _ _ f s _ => sg_tc rfl rfl rfl f.1 (fun hg => or_move (s.1.trans e1234_9))) ?_
              refine sc (fun _ _ _ f _ _ => sg_tc rfl rfl rfl f.1 (fun hg => or_neq (f.2.1.1 hg) rfl rfl)) ?_
              refine sc (fun _ _ _ f _ _ => sg_f rfl rfl rfl f.1 (fun hg => or_and (f.2.1.1 hg) (fun hx => f.2.2.1.1 (gI hg hx)) rfl (osome hx1235).symm)) ?_
              refine sc (fun _ _ _ f _ _ => px (or_or f.1 rfl (fun hx => f.2.1.1 hx) (osome hx1236).symm)) ?_
              exact steps_nil
            intro own1237 a1237 w1237 hd1237 hz1237 hk1237 hf1237 hE1237
            have e1237_0 := (hk1237 0 rfl).trans e1234_0
            have e1237_3 := (hk1237 3 rfl).trans e1234_3
            have e1237_7 := (hk1237 7 rfl).trans e1234_7
            have e1237_8 := (hk1237 8 rfl).trans e1234_8
            have e1237_34 := (hk1237 34 rfl).trans e1234_34
            have e1237_35 := (hk1237 35 rfl).trans e1234_35
            obtain ⟨(e1237_97 : a1237.eval (.tmp 97) = .bool x1236), -⟩ := hf1237 [12] rfl
            have hX1237 := es_ hX1234 hE1237
            have b1237_Al1 := RdO.evo rfl hE1237 b1234_Al1
            refine fl_cond e1237_97 hs (fun c1238 hs => ?_) (fun c1238 hs => ?_)
            · refine fl_goto ?_
              refine hp1223 _ _ _ rfl ?_
              refine hp1222 _ _ _ rfl ?_
              replace hs := hz1217 _ hs
              refine hp1217 _ _ _ rfl ?_
              refine hp1171 _ _ _ rfl ?_
              refine hp1168 _ _ _ rfl ?_
              refine hp1167 _ _ _ rfl ?_
              replace hs := hz1162 _ hs
              refine hp1162 _ _ _ rfl ?_
              refine hp1008 _ _ _ rfl ?_
              refine hp1006 _ _ _ rfl ?_
              exact (K929 _ _ own1237  hd1237 hz1237 hX1237 hs)
            refine fl_skip ?_
            refine hn1223 _ _ ?_
            refine hn1222 _ _ ?_
            refine rg0 99 own1237 (bz 3) [⟨[], [8], [], Fct.val 43 (.int .i64 k1194)⟩, ⟨[0], [], [], Fct.val 44 (.int .i64 (ad k1194 1))⟩, ⟨[1], [], [], Fct.val 8 (.int .i64 (ad k1194 1))⟩] hz1237 hd1237 (by kernel_rfl) ?_ ?_
            · refine sc (fun _ _ _ _ s _ => px (or_move (s.1.trans e1237_8))) ?_
              refine sc (fun _ _ _ f _ _ => px (or_add f.1 rfl rfl)) ?_
              refine sc (fun _ _ _ f _ _ => px (or_assign f.1)) ?_
              exact steps_nil
            intro own1239 a1239 w1239 hd1239 hz1239 hk1239 hf1239 hE1239
            have e1239_0 := (hk1239 0 rfl).trans e1237_0
            have e1239_3 := (hk1239 3 rfl).trans e1237_3
            have e1239_7 := (hk1239 7 rfl).trans e1237_7
            have e1239_34 := (hk1239 34 rfl).trans e1237_34
            have e1239_35 := (hk1239 35 rfl).trans e1237_35
            obtain ⟨(e1239_8 : a1239.eval (.tmp 8) = .int .i64 (ad k1194 1)), -⟩ := hf1239 [2] rfl
            have hX1239 := es_ hX1237 hE1239
            have b1239_Al1 := RdO.evo rfl hE1239 b1237_Al1
            exact hn1217 _ _ _ hs ⟨own1239, hd1239, hz1239, e1239_0, e1239_3, e1239_7, e1239_8, e1239_34, e1239_35, hX1239, b1239_Al1⟩
          refine fl_exit ?_
          refine hp1219 _ _ _ rfl ?_
          replace hs := hz1217 _ hs
          refine hp1217 _ _ _ rfl ?_
          refine hx1171 _ _ ?_
          refine hn1168 _ _ ?_
          refine hn1167 _ _ ?_
          refine rg0 99 own1220 (bz 2) [⟨[], [35], [], Fct.val 98 (.int .i64 (ad x1083 1))⟩, ⟨[0], [], [], Fct.val 35 (.int .i64 (ad x1083 1))⟩] hz1220 hd1220 (by kernel_rfl) ?_ ?_
          · refine sc (fun _ _ _ _ s _ => px (or_add (s.1.trans e1220_35) rfl rfl)) ?_
            refine sc (fun _ _ _ f _ _ => px (or_move f.1)) ?_
            exact steps_nil
          intro own1240 a1240 w1240 hd1240 hz1240 hk1240 hf1240 hE1240
          have e1240_0 := (hk1240 0 rfl).trans e1220_0
          have e1240_3 := (hk1240 3 rfl).trans e1220_3
          have e1240_34 := (hk1240 34 rfl).trans e1220_34
          obtain ⟨(e1240_35 : a1240.eval (.tmp 35) = .int .i64 (ad x1083 1)), -⟩ := hf1240 [1] rfl
          have hX1240 := es_ hX1220 hE1240
          have b1240_Al1 := RdO.evo rfl hE1240 b1220_Al1
          exact hn1162 _ _ _ hs ⟨own1240, hd1240, hz1240, e1240_0, e1240_3, e1240_34, e1240_35, hX1240, b1240_Al1⟩
      refine fl_exit ?_
      refine hp1165 _ _ _ rfl ?_
      replace hs := hz1162 _ hs
      refine hp1162 _ _ _ rfl ?_
      refine hx1008 _ _ ?_
      refine hn1006 _ _ ?_
      refine fl_seq (fun Q1241 hn1241 hp1241 => ?_)
      refine rg0_seq 99 own1164 (bz 1) [⟨[], [], [], Fct.val 2 (.bool true)⟩] hz1164 hd1164 (by kernel_rfl) ?_ ?_
      · refine sc (fun _ _ _ _ _ _ => px (or_assign rfl)) ?_
        exact steps_nil
      intro own1242 a1242 w1242 hd1242 hz1242 hk1242 hf1242 hE1242
      obtain ⟨(e1242_2 : a1242.eval (.tmp 2) = .bool true), -⟩ := hf1242 [0] rfl
      have hX1242 := es_ hX1164 hE1242
      refine fl_ret ?_
      refine hp1241 _ _ _ rfl ?_
      refine hp625.leaves _ _ _ rfl ?_
      obtain rfl := osome hs
      exact hret _ _ _ _ (.inl rfl) hd1242 (results1_ rfl (RVal.tmp_ e1242_2)) ⟨own1242, rfl, hX1242⟩
theorem exact_between_w (w : World) (x1 : Int × Int) (b2 : Int × Int) (p3 : Int × Int) (r : Bool) (hs : exact_between x1 b2 p3 = some r) :
    Calls Try.prog 41 #[.agg #[.int .i64 x1.1, .int .i64 x1.2], .agg #[.int .i64 b2.1, .int .i64 b2.2], .agg #[.int .i64 p3.1, .int .i64 p3.2]] w fun e w' => ∃ own' : Own, e = .returned (.bool r) ∧ Evo [] (fun _ => 0) own' w w' := by
  refine fl_enter (n := 35) rfl rfl rfl (Nat.le_of_ble_eq_true rfl) ?_
  intro a0 Q hd0 hz0 harg hret
  have ha0 := harg 0 _ rfl
  have ha1 := harg 1 _ rfl
  have ha2 := harg 2 _ rfl
  clear harg
  have hE0 : Evo [] (fun _ => 0) (fun _ => 0) w w := Evo.refl _ _ _
  refine rg0_seq 35 (fun _ => 0) [0, 0, 0, 0] [⟨[], [0], [], Fct.blk 22 3 (fun g => .pointer (some ⟨g, 0, none⟩)) 25 #[.int .i64 x1.1, .int .i64 x1.2]⟩, ⟨[], [1], [], Fct.blk 24 4 (fun g => .pointer (some ⟨g, 0, none⟩)) 25 #[.int .i64 b2.1, .int .i64 b2.2]⟩, ⟨[], [2], [], Fct.blk 26 5 (fun g => .pointer (some ⟨g, 0, none⟩)) 25 #[.int .i64 p3.1, .int .i64 p3.2]⟩, ⟨[], [], [], Fct.val 6 (.bool false)⟩] hz0 hd0 (by kernel_rfl) ?_ ?_
  · refine sc (fun _ _ _ _ s _ => px (or_new [(0, .agg #[.int .i64 x1.1, .int .i64 x1.2])] rfl rfl ⟨(s.1.trans ha0), trivial⟩ (by kernel_rfl))) ?_
    refine sc (fun _ _ _ _ s _ => px (or_new [(1, .agg #[.int .i64 b2.1, .int .i64 b2.2])] rfl rfl ⟨(s.1.trans ha1), trivial⟩ (by kernel_rfl))) ?_
    refine sc (fun _ _ _ _ s _ => px (or_new [(2, .agg #[.int .i64 p3.1, .int .i64 p3.2])] rfl rfl ⟨(s.1.trans ha2), trivial⟩ (by kernel_rfl))) ?_
    refine sc (fun _ _ _ _ _ _ => px (or_assign rfl)) ?_
    exact steps_nil
  intro own27 a27 w27 hd27 hz27 hk27 hf27 hE27
  obtain ⟨⟨g21, (e27_3 : a27.eval (.tmp 3) = .pointer (some ⟨g21, 0, none⟩)), (b27_g21 : BlkO own27 22 w27 g21 25 #[.int .i64 x1.1, .int .i64 x1.2])⟩, ⟨g23, (e27_4 : a27.eval (.tmp 4) = .pointer (some ⟨g23, 0, none⟩)), (b27_g23 : BlkO own27 24 w27 g23 25 #[.int .i64 b2.1, .int .i64 b2.2])⟩, ⟨g25, (e27_5 : a27.eval (.tmp 5) = .pointer (some ⟨g25, 0, none⟩)), (b27_g25 : BlkO own27 26 w27 g25 25 #[.int .i64 p3.1, .int .i64 p3.2])⟩, -⟩ := hf27 [0, 1, 2] rfl
  have hX27 := es_ hE0 hE27
  obtain ⟨r28, hr28, hs⟩ := obind hs
  obtain ⟨r29, hr29, hs⟩ := obind hs
  refine rg0_seq 35 own27 [0, 1, 0, 4, 0, 16, 60, 0, 128, 0, 512, 1920, 4095, 8191, 16383, 32767, 16383, 81919, 16383, 278527, 999423, 16383, 2113535, 16383, 8404991, 31473663, 67108863, 134217727, 268435455] [⟨[], [5], [], Fct.val 7 (.pointer (some ⟨g25, 0, none⟩))⟩, ⟨[0], [], [], Fct.val 8 (.int .i64 p3.1)⟩, ⟨[], [3], [], Fct.val 9 (.pointer (some ⟨g21, 0, none⟩))⟩, ⟨[2], [], [], Fct.val 10 (.int .i64 x1.1)⟩, ⟨[], [4], [], Fct.val 11 (.pointer (some ⟨g23, 0, none⟩))⟩, ⟨[4], [], [], Fct.val 12 (.int .i64 b2.1)⟩, ⟨[3, 5], [], [], Fct.val 13 (.int .i64 (mn x1.1 b2.1))⟩, ⟨[], [3], [], Fct.val 14 (.pointer (some ⟨g21, 0, none⟩))⟩, ⟨[7], [], [], Fct.val 15 (.int .i64 x1.1)⟩, ⟨[], [4], [], Fct.val 16 (.pointer (some ⟨g23, 0, none⟩))⟩, ⟨[9], [], [], Fct.val 17 (.int .i64 b2.1)⟩, ⟨[8, 10], [], [], Fct.val 18 (.int .i64 (mx x1.1 b2.1))⟩, ⟨[1, 6, 11], [], [], Fct.val 19 (.bool r28)⟩, ⟨[12], [], [], Fct.val 20 (.bool r28)⟩, ⟨[13], [5], [], Fct.cond r28 (some 21) (Fct.val 21 (.pointer (some ⟨g25, 1, none⟩)))⟩, ⟨[13, 14], [], [], Fct.cond r28 (some 22) (Fct.val 22 (.int .i64 p3.2))⟩, ⟨[13], [3], [], Fct.cond r28 (some 23) (Fct.val 23 (.pointer (some ⟨g21, 1, none⟩)))⟩, ⟨[13, 16], [], [], Fct.cond r28 (some 24) (Fct.val 24 (.int .i64 x1.2))⟩, ⟨[13], [4], [], Fct.cond r28 (some 25) (Fct.val 25 (.pointer (some ⟨g23, 1, none⟩)))⟩, ⟨[13, 18], [], [], Fct.cond r28 (some 26) (Fct.val 26 (.int .i64 b2.2))⟩, ⟨[13, 17, 19], [], [], Fct.cond r28 (some 27) (Fct.val 27 (.int .i64 (mn x1.2 b2.2)))⟩, ⟨[13], [3], [], Fct.cond r28 (some 28) (Fct.val 28 (.pointer (some ⟨g21, 1, none⟩)))⟩, ⟨[13, 21], [], [], Fct.cond r28 (some 29) (Fct.val 29 (.int .i64 x1.2))⟩, ⟨[13], [4], [], Fct.cond r28 (some 30) (Fct.val 30 (.pointer (some ⟨g23, 1, none⟩)))⟩, ⟨[13, 23], [], [], Fct.cond r28 (some 31) (Fct.val 31 (.int .i64 b2.2))⟩, ⟨[13, 22, 24], [], [], Fct.cond r28 (some 32) (Fct.val 32 (.int .i64 (mx x1.2 b2.2)))⟩, ⟨[13, 15, 20, 25], [], [], Fct.cond r28 (some 33) (Fct.val 33 (.bool r29))⟩, ⟨[13, 26], [], [], Fct.val 34 (.bool (r28 && r29))⟩, ⟨[27], [], [], Fct.val 6 (.bool (r28 && r29))⟩] hz27 hd27 (by kernel_rfl) ?_ ?_
  · refine sc (fun _ _ _ _ s _ => px (or_field fo25_0 (s.1.trans e27_5) (by rfl))) ?_
    refine sc (fun _ _ _ f _ hE => px (or_load1 to3 f.1 (Blk.at_ (be_ hE b27_g25).2 0 rfl))) ?_
    refine sc (fun _ _ _ _ s _ => px (or_field fo25_0 (s.1.trans e27_3) (by rfl))) ?_
    refine sc (fun _ _ _ f _ hE => px (or_load1 to3 f.1 (Blk.at_ (be_ hE b27_g21).2 0 rfl))) ?_
    refine sc (fun _ _ _ _ s _ => px (or_field fo25_0 (s.1.trans e27_4) (by rfl))) ?_
    refine sc (fun _ _ _ f _ hE => px (or_load1 to3 f.1 (Blk.at_ (be_ hE b27_g23).2 0 rfl))) ?_
    refine sc (fun _ _ _ f _ _ => px (or_min f.1 f.2.1)) ?_
    refine sc (fun _ _ _ _ s _ => px (or_field fo25_0 (s.1.trans e27_3) (by rfl))) ?_
    refine sc (fun _ _ _ f _ hE => px (or_load1 to3 f.1 (Blk.at_ (be_ hE b27_g21).2 0 rfl))) ?_
    refine sc (fun _ _ _ _ s _ => px (or_field fo25_0 (s.1.trans e27_4) (by rfl))) ?_
    refine sc (fun _ _ _ f _ hE => px (or_load1 to3 f.1 (Blk.at_ (be_ hE b27_g23).2 0 rfl))) ?_
    refine sc (fun _ _ _ f _ _ => px (or_max f.1 f.2.1)) ?_
    refine sc (fun _ _ _ f _ _ => px (or_call cf38 (args3 f.1 f.2.1 f.2.2.1) (exact_within_w _ p3.1 (mn x1.1 b2.1) (mx x1.1 b2.1)  r28 hr28) post_val)) ?_
    refine sc (fun _ _ _ f _ _ => px (or_move f.1)) ?_
    refine sc (fun _ _ _ f s _ => sg_t rfl rfl rfl f.1 (fun hg => or_field fo25_1 (s.1.trans e27_5) (by rfl))) ?_
    refine sc (fun _ _ _ f _ hE => sg_t rfl rfl rfl f.1 (fun hg => or_load1 to3 (f.2.1.1 hg) (Blk.at_ (be_ hE b27_g25).2 1 rfl))) ?_
    refine sc (fun _ _ _ f s _ => sg_t rfl rfl rfl f.1 (fun hg => or_field fo25_1 (s.1.trans e27_3) (by rfl))) ?_
    refine sc (fun _ _ _ f _ hE => sg_t rfl rfl rfl f.1 (fun hg => or_load1 to3 (f.2.1.1 hg) (Blk.at_ (be_ hE b27_g21).2 1 rfl))) ?_
    refine sc (fun _ _ _ f s _ => sg_t rfl rfl rfl f.1 (fun hg => or_field fo25_1 (s.1.trans e27_4) (by rfl))) ?_
    refine sc (fun _ _ _ f _ hE => sg_t rfl rfl rfl f.1 (fun hg => or_load1 to3 (f.2.1.1 hg) (Blk.at_ (be_ hE b27_g23).2 1 rfl))) ?_
    refine sc (fun _ _ _ f _ _ => sg_t rfl rfl rfl f.1 (fun hg => or_min (f.2.1.1 hg) (f.2.2.1.1 hg))) ?_
    refine sc (fun _ _ _ f s _ => sg_t rfl rfl rfl f.1 (fun hg => or_field fo25_1 (s.1.trans e27_3) (by rfl))) ?_
    refine sc (fun _ _ _ f _ hE => sg_t rfl rfl rfl f.1 (fun hg => or_load1 to3 (f.2.1.1 hg) (Blk.at_ (be_ hE b27_g21).2 1 rfl))) ?_
    refine sc (fun _ _ _ f s _ => sg_t rfl rfl rfl f.1 (fun hg => or_field fo25_1 (s.1.trans e27_4) (by rfl))) ?_
    refine sc (fun _ _ _ f _ hE => sg_t rfl rfl rfl f.1 (fun hg => or_load1 to3 (f.2.1.1 hg) (Blk.at_ (be_ hE b27_g23).2 1 rfl))) ?_
    refine sc (fun _ _ _ f _ _ => sg_t rfl rfl rfl f.1 (fun hg => or_max (f.2.1.1 hg) (f.2.2.1.1 hg))) ?_
    refine sc (fun _ _ _ f _ _ => sg_t rfl rfl rfl f.1 (fun hg => or_call cf38 (args3 (f.2.1.1 hg) (f.2.2.1.1 hg) (f.2.2.2.1.1 hg)) (exact_within_w _ p3.2 (mn x1.2 b2.2) (mx x1.2 b2.2)  r29 (gd_t hr29 hg)) post_val)) ?_
    refine sc (fun _ _ _ f _ _ => px (or_and f.1 (fun hx => f.2.1.1 hx) rfl rfl)) ?_
    refine sc (fun _ _ _ f _ _ => px (or_assign f.1)) ?_
    exact steps_nil
  intro own30 a30 w30 hd30 hz30 hk30 hf30 hE30
  obtain ⟨(e30_6 : a30.eval (.tmp 6) = .bool (r28 && r29)), -⟩ := hf30 [28] rfl
  have hX30 := es_ hX27 hE30
  refine fl_ret ?_
  obtain rfl := osome hs
  exact hret _ _ _ _ (.inl rfl) hd30 (results1_ rfl (RVal.tmp_ e30_6)) ⟨own30, rfl, hX30⟩
theorem exact_On_w (w : World) (x1 : Int × Int) (b2 : Int × Int) (p3 : Int × Int) (r : Bool) (hs : exact_On x1 b2 p3 = some r) :
    Calls Try.prog 34 #[.agg #[.int .i64 x1.1, .int .i64 x1.2], .agg #[.int .i64 b2.1, .int .i64 b2.2], .agg #[.int .i64 p3.1, .int .i64 p3.2]] w fun e w' => ∃ own' : Own, e = .returned (.bool r) ∧ Evo [] (fun _ => 0) own' w w' := by
  refine fl_enter (n := 25) rfl rfl rfl (Nat.le_of_ble_eq_true rfl) ?_
  intro a0 Q hd0 hz0 harg hret
  have ha0 := harg 0 _ rfl
  have ha1 := harg 1 _ rfl
  have ha2 := harg 2 _ rfl
  clear harg
  have hE0 : Evo [] (fun _ => 0) (fun _ => 0) w w := Evo.refl _ _ _
  refine rg0_seq 25 (fun _ => 0) [0, 0, 0, 0] [⟨[], [0], [], Fct.blk 25 3 (fun g => .pointer (some ⟨g, 0, none⟩)) 25 #[.int .i64 x1.1, .int .i64 x1.2]⟩, ⟨[], [1], [], Fct.blk 27 4 (fun g => .pointer (some ⟨g, 0, none⟩)) 25 #[.int .i64 b2.1, .int .i64 b2.2]⟩, ⟨[], [2], [], Fct.blk 29 5 (fun g => .pointer (some ⟨g, 0, none⟩)) 25 #[.int .i64 p3.1, .int .i64 p3.2]⟩, ⟨[], [], [], Fct.val 6 (.bool false)⟩] hz0 hd0 (by kernel_rfl) ?_ ?_
  · refine sc (fun _ _ _ _ s _ => px (or_new [(0, .agg #[.int .i64 x1.1, .int .i64 x1.2])] rfl rfl ⟨(s.1.trans ha0), trivial⟩ (by kernel_rfl))) ?_
    refine sc (fun _ _ _ _ s _ => px (or_new [(1, .agg #[.int .i64 b2.1, .int .i64 b2.2])] rfl rfl ⟨(s.1.trans ha1), trivial⟩ (by kernel_rfl))) ?_
    refine sc (fun _ _ _ _ s _ => px (or_new [(2, .agg #[.int .i64 p3.1, .int .i64 p3.2])] rfl rfl ⟨(s.1.trans ha2), trivial⟩ (by kernel_rfl))) ?_
    refine sc (fun _ _ _ _ _ _ => px (or_assign rfl)) ?_
    exact steps_nil
  intro own30 a30 w30 hd30 hz30 hk30 hf30 hE30
  obtain ⟨⟨g24, (e30_3 : a30.eval (.tmp 3) = .pointer (some ⟨g24, 0, none⟩)), (b30_g24 : BlkO own30 25 w30 g24 25 #[.int .i64 x1.1, .int .i64 x1.2])⟩, ⟨g26, (e30_4 : a30.eval (.tmp 4) = .pointer (some ⟨g26, 0, none⟩)), (b30_g26 : BlkO own30 27 w30 g26 25 #[.int .i64 b2.1, .int .i64 b2.2])⟩, ⟨g28, (e30_5 : a30.eval (.tmp 5) = .pointer (some ⟨g28, 0, none⟩)), (b30_g28 : BlkO own30 29 w30 g28 25 #[.int .i64 p3.1, .int .i64 p3.2])⟩, -⟩ := hf30 [0, 1, 2] rfl
  have hX30 := es_ hE0 hE30
  obtain ⟨r33, hr33, hs⟩ := obind hs
  obtain ⟨r34, hr34, hs⟩ := obind hs
  obtain ⟨r35, hr35, hs⟩ := obind hs
  refine rg0_seq 25 own30 [0, 0, 0, 7, 15, 31, 63, 63, 63, 511, 1023, 2047, 4095, 8191, 8191, 8191, 65535, 131071, 262143] [⟨[], [3], [], Fct.val 7 (.agg #[.int .i64 x1.1, .int .i64 x1.2])⟩, ⟨[], [4], [], Fct.val 8 (.agg #[.int .i64 b2.1, .int .i64 b2.2])⟩, ⟨[], [5], [], Fct.val 9 (.agg #[.int .i64 p3.1, .int .i64 p3.2])⟩, ⟨[0, 1, 2], [], [], Fct.row 32 [] 10 25 R25 [x1, b2, p3]⟩, ⟨[3], [], [], Fct.val 11 (.bool r33)⟩, ⟨[4], [], [], Fct.val 12 (.bool r33)⟩, ⟨[5], [3], [], Fct.cond r33 (some 13) (Fct.val 13 (.agg #[.int .i64 x1.1, .int .i64 x1.2]))⟩, ⟨[5], [4], [], Fct.cond r33 (some 14) (Fct.val 14 (.agg #[.int .i64 b2.1, .int .i64 b2.2]))⟩, ⟨[5], [5], [], Fct.cond r33 (some 15) (Fct.val 15 (.agg #[.int .i64 p3.1, .int .i64 p3.2]))⟩, ⟨[5, 6, 7, 8], [], [], Fct.cond r33 (some 16) (Fct.val 16 (.int .i64 r34))⟩, ⟨[5, 9], [], [], Fct.cond r33 (some 17) (Fct.val 17 (.bool (decide (r34 = 0))))⟩, ⟨[5, 10], [], [], Fct.val 18 (.bool (r33 && (decide (r34 = 0))))⟩, ⟨[11], [], [], Fct.val 19 (.bool (r33 && (decide (r34 = 0))))⟩, ⟨[12], [3], [], Fct.cond (r33 && (decide (r34 = 0))) (some 20) (Fct.val 20 (.agg #[.int .i64 x1.1, .int .i64 x1.2]))⟩, ⟨[12], [4], [], Fct.cond (r33 && (decide (r34 = 0))) (some 21) (Fct.val 21 (.agg #[.int .i64 b2.1, .int .i64 b2.2]))⟩, ⟨[12], [5], [], Fct.cond (r33 && (decide (r34 = 0))) (some 22) (Fct.val 22 (.agg #[.int .i64 p3.1, .int .i64 p3.2]))⟩, ⟨[12, 13, 14, 15], [], [], Fct.cond (r33 && (decide (r34 = 0))) (some 23) (Fct.val 23 (.bool r35))⟩, ⟨[12, 16], [], [], Fct.val 24 (.bool ((r33 && (decide (r34 = 0))) && r35))⟩, ⟨[17], [], [], Fct.val 6 (.bool ((r33 && (decide (r34 = 0))) && r35))⟩] hz30 hd30 (by kernel_rfl) ?_ ?_
  · refine sc (fun _ _ _ _ s hE => px (or_load (l := [.int .i64 x1.1, .int .i64 x1.2]) ta25 (s.1.trans e30_3) (Blk.cellsFrom (be_ hE b30_g24).2 0 rfl) rfl)) ?_
    refine sc (fun _ _ _ _ s hE => px (or_load (l := [.int .i64 b2.1, .int .i64 b2.2]) ta25 (s.1.trans e30_4) (Blk.cellsFrom (be_ hE b30_g26).2 0 rfl) rfl)) ?_
    refine sc (fun _ _ _ _ s hE => px (or_load (l := [.int .i64 p3.1, .int .i64 p3.2]) ta25 (s.1.trans e30_5) (Blk.cellsFrom (be_ hE b30_g28).2 0 rfl) rfl)) ?_
    refine sc (fun _ _ _ f _ _ => px (or_lit (lab := 32) (e := 25) (cs := #[.int .i64 x1.1, .int .i64 x1.2, .int .i64 b2.1, .int .i64 b2.2, .int .i64 p3.1, .int .i64 p3.2]) (F := E25) (or_new [(7, .agg #[.int .i64 x1.1, .int .i64 x1.2]), (8, .agg #[.int .i64 b2.1, .int .i64 b2.2]), (9, .agg #[.int .i64 p3.1, .int .i64 p3.2])] rfl rfl ⟨f.1, f.2.1, f.2.2.1, trivial⟩ (by kernel_rfl)) rfl rfl (show 3 ≤ maxLen by decide))) ?_
    refine sc (fun own a wx hf hsl hE => ?_) ?_
    · obtain ⟨⟨⟨A31, cA31⟩, f_10, b_A31⟩, -⟩ := hf
      exact px (or_call cf24 (args1 f_10) (exact_Right_w _ [x1, b2, p3] A31 cA31 (RdO.zero (RwO.rd b_A31)) r33 hr33) post_val)
    refine sc (fun _ _ _ f _ _ => px (or_move f.1)) ?_
    refine sc (fun _ _ _ f s hE => sg_t rfl rfl rfl f.1 (fun hg => or_load (l := [.int .i64 x1.1, .int .i64 x1.2]) ta25 (s.1.trans e30_3) (Blk.cellsFrom (be_ hE b30_g24).2 0 rfl) rfl)) ?_
    refine sc (fun _ _ _ f s hE => sg_t rfl rfl rfl f.1 (fun hg => or_load (l := [.int .i64 b2.1, .int .i64 b2.2]) ta25 (s.1.trans e30_4) (Blk.cellsFrom (be_ hE b30_g26).2 0 rfl) rfl)) ?_
    refine sc (fun _ _ _ f s hE => sg_t rfl rfl rfl f.1 (fun hg => or_load (l := [.int .i64 p3.1, .int .i64 p3.2]) ta25 (s.1.trans e30_5) (Blk.cellsFrom (be_ hE b30_g28).2 0 rfl) rfl)) ?_
    refine sc (fun _ _ _ f _ _ => sg_t rfl rfl rfl f.1 (fun hg => or_call cf33 (args3 (f.2.1.1 hg) (f.2.2.1.1 hg) (f.2.2.2.1.1 hg)) (exact_Turn_w _ x1 b2 p3  r34 (gd_t hr34 hg)) post_val)) ?_
    refine sc (fun _ _ _ f _ _ => sg_t rfl rfl rfl f.1 (fun hg => or_eql (f.2.1.1 hg) rfl rfl)) ?_
    refine sc (fun _ _ _ f _ _ => px (or_and f.1 (fun hx => f.2.1.1 hx) rfl rfl)) ?_
    refine sc (fun _ _ _ f _ _ => px (or_move f.1)) ?_
    refine sc (fun _ _ _ f s hE => sg_t rfl rfl rfl f.1 (fun hg => or_load (l := [.int .i64 x1.1, .int .i64 x1.2]) ta25 (s.1.trans e30_3) (Blk.cellsFrom (be_ hE b30_g24).2 0 rfl) rfl)) ?_
    refine sc (fun _ _ _ f s hE => sg_t rfl rfl rfl f.1 (fun hg => or_load (l := [.int .i64 b2.1, .int .i64 b2.2]) ta25 (s.1.trans e30_4) (Blk.cellsFrom (be_ hE b30_g26).2 0 rfl) rfl)) ?_
    refine sc (fun _ _ _ f s hE => sg_t rfl rfl rfl f.1 (fun hg => or_load (l := [.int .i64 p3.1, .int .i64 p3.2]) ta25 (s.1.trans e30_5) (Blk.cellsFrom (be_ hE b30_g28).2 0 rfl) rfl)) ?_
    refine sc (fun _ _ _ f _ _ => sg_t rfl rfl rfl f.1 (fun hg => or_call cf41 (args3 (f.2.1.1 hg) (f.2.2.1.1 hg) (f.2.2.2.1.1 hg)) (exact_between_w _ x1 b2 p3  r35 (gd_t hr35 hg)) post_val)) ?_
    refine sc (fun _ _ _ f _ _ => px (or_and f.1 (fun hx => f.2.1.1 hx) rfl rfl)) ?_
    refine sc (fun _ _ _ f _ _ => px (or_assign f.1)) ?_
    exact steps_nil
  intro own36 a36 w36 hd36 hz36 hk36 hf36 hE36
  obtain ⟨(e36_6 : a36.eval (.tmp 6) = .bool ((r33 && (decide (r34 = 0))) && r35)), -⟩ := hf36 [18] rfl
  have hX36 := es_ hX30 hE36
  refine fl_ret ?_
  obtain rfl := osome hs
  exact hret _ _ _ _ (.inl rfl) hd36 (results1_ rfl (RVal.tmp_ e36_6)) ⟨own36, rfl, hX36⟩
theorem ring_Winding_w (w : World) (l1 : List (Int × Int)) (Al1 : Option Addr) (cl1 : Nat) (p2 : Int × Int) (hl1 : RdO (fun _ => 0) [0] w R25 Al1 cl1 l1) (r : Int × Bool) (hs : ring_Winding l1 p2 = some r) :
    Calls Try.prog 18 #[.slice Al1 l1.length cl1, .agg #[.int .i64 p2.1, .int .i64 p2.2]] w fun e w' => ∃ own' : Own, e = .returned (.tuple #[.int .i64 r.1, .bool r.2]) ∧ Evo [] (fun _ => 0) own' w w' := by
  refine fl_enterM (n := 71) (kD := 11) (by decide) rfl rfl rfl (Nat.le_of_ble_eq_true rfl) ?_
  intro a0 Q hd0 hz0 harg hret
  have ha0 := harg 0 _ rfl
  have ha1 := harg 1 _ rfl
  clear harg
  have hE0 : Evo [] (fun _ => 0) (fun _ => 0) w w := Evo.refl _ _ _
  have hmk0 : MkO (fun _ => 0) 11 w [] := MkO.nil_
  refine rg0_seq 71 (fun _ => 0) [0, 0, 0] [⟨[], [1], [], Fct.blk 334 3 (fun g => .pointer (some ⟨g, 0, none⟩)) 25 #[.int .i64 p2.1, .int .i64 p2.2]⟩, ⟨[], [], [], Fct.blk 336 4 (fun g => .pointer (some ⟨g, 0, none⟩)) 3 #[.int .i64 0]⟩, ⟨[], [], [], Fct.blk 338 5 (fun g => .pointer (some ⟨g, 0, none⟩)) 4 #[.bool false]⟩] hz0 hd0 (by kernel_rfl) ?_ ?_
  · refine sc (fun _ _ _ _ s _ => px (or_new [(1, .agg #[.int .i64 p2.1, .int .i64 p2.2])] rfl rfl ⟨(s.1.trans ha1), trivial⟩ (by kernel_rfl))) ?_
    refine sc (fun _ _ _ _ _ _ => px (or_new [] rfl rfl trivial (by kernel_rfl))) ?_
    refine sc (fun _ _ _ _ _ _ => px (or_new [] rfl rfl trivial (by kernel_rfl))) ?_
    exact steps_nil
  intro own339 a339 w339 hd339 hz339 hk339 hf339 hE339
  have e339_0 := (hk339 0 rfl).trans ha0
  obtain ⟨⟨g333, (e339_3 : a339.eval (.tmp 3) = .pointer (some ⟨g333, 0, none⟩)), (b339_g333 : BlkO own339 334 w339 g333 25 #[.int .i64 p2.1, .int .i64 p2.2])⟩, ⟨g335, (e339_4 : a339.eval (.tmp 4) = .pointer (some ⟨g335, 0, none⟩)), (b339_g335 : BlkO own339 336 w339 g335 3 #[.int .i64 0])⟩, ⟨g337, (e339_5 : a339.eval (.tmp 5) = .pointer (some ⟨g337, 0, none⟩)), (b339_g337 : BlkO own339 338 w339 g337 4 #[.bool false])⟩, -⟩ := hf339 [0, 1, 2] rfl
  have hX339 := es_ hE0 hE339
  have b339_Al1 := RdO.evo rfl hE339 hl1
  have b339_mk := MkO.evo (by decide) hE339 hmk0
  refine fl_seq (fun Q340 hn340 hp340 => ?_)
  obtain ⟨r343, hr343, hs⟩ := obind hs
  obtain ⟨r344, hr344, hs⟩ := obind hs
  refine rg0_seq 71 own339 (bz 9) [⟨[], [3], [], Fct.val 10 (.agg #[.int .i64 p2.1, .int .i64 p2.2])⟩, ⟨[0], [], [], Fct.row 342 [] 11 25 R25 [p2]⟩, ⟨[1], [], [], Fct.val 12 (.bool r343)⟩, ⟨[2], [], [], Fct.val 13 (.bool (!r343))⟩, ⟨[3], [], [], Fct.val 14 (.bool (!r343))⟩, ⟨[4], [0], [], Fct.cond (!(!r343)) (some 15) (Fct.val 15 (.slice Al1 l1.length cl1))⟩, ⟨[4, 5], [], [], Fct.cond (!(!r343)) (some 16) (Fct.val 16 (.bool r344))⟩, ⟨[4, 6], [], [], Fct.cond (!(!r343)) (some 17) (Fct.val 17 (.bool (!r344)))⟩, ⟨[4, 7], [], [], Fct.val 18 (.bool ((!r343) || (!r344)))⟩] hz339 hd339 (by kernel_rfl) ?_ ?_
  · refine sc (fun _ _ _ _ s hE => px (or_load (l := [.int .i64 p2.1, .int .i64 p2.2]) ta25 (s.1.trans e339_3) (Blk.cellsFrom (be_ hE b339_g333).2 0 rfl) rfl)) ?_
    refine sc (fun _ _ _ f _ _ => px (or_lit (lab := 342) (e := 25) (cs := #[.int .i64 p2.1, .int .i64 p2.2]) (F := E25) (or_new [(10, .agg #[.int .i64 p2.1, .int .i64 p2.2])] rfl rfl ⟨f.1, trivial⟩ (by kernel_rfl)) rfl rfl (show 1 ≤ maxLen by decide))) ?_
    refine sc (fun own a wx hf hsl hE => ?_) ?_
    · obtain ⟨⟨⟨A341, cA341⟩, f_11, b_A341⟩, -⟩ := hf
      exact px (or_call cf24 (args1 f_11) (exact_Right_w _ [p2] A341 cA341 (RdO.zero (RwO.rd b_A341)) r343 hr343) post_val)
    refine sc (fun _ _ _ f _ _ => px (or_not f.1 rfl)) ?_
    refine sc (fun _ _ _ f _ _ => px (or_move f.1)) ?_
    refine sc (fun _ _ _ f s _ => sg_f rfl rfl rfl f.1 (fun hg => or_move (s.1.trans e339_0))) ?_
    refine sc (fun _ _ _ f _ hE => sg_f rfl rfl rfl f.1 (fun hg => or_call cf24 (args1 (f.2.1.1 hg)) (exact_Right_w _ l1 Al1 cl1 (RdO.zero (RdO.evo rfl hE b339_Al1)) r344 (gd_t hr344 hg)) post_val)) ?_
    refine sc (fun _ _ _ f _ _ => sg_f rfl rfl rfl f.1 (fun hg => or_not (f.2.1.1 hg) rfl)) ?_
    refine sc (fun _ _ _ f _ _ => px (or_or f.1 rfl (fun hx => f.2.1.1 hx) rfl)) ?_
    exact steps_nil
  intro own345 a345 w345 hd345 hz345 hk345 hf345 hE345
  have e345_0 := (hk345 0 rfl).trans e339_0
  have e345_3 := (hk345 3 rfl).trans e339_3
  have e345_4 := (hk345 4 rfl).trans e339_4
  have e345_5 := (hk345 5 rfl).trans e339_5
  obtain ⟨(e345_18 : a345.eval (.tmp 18) = .bool ((!r343) || (!r344))), -⟩ := hf345 [8] rfl
  have hX345 := es_ hX339 hE345
  have b345_Al1 := RdO.evo rfl hE345 b339_Al1
  have b345_mk := MkO.evo (by decide) hE345 b339_mk
  have b345_g333 := be_ hE345 b339_g333
  have b345_g335 := be_ hE345 b339_g335
  have b345_g337 := be_ hE345 b339_g337
  refine fl_cond e345_18 hs (fun c346 hs => ?_) (fun c346 hs => ?_)
  · refine rg_plain_seq (n := 71) (rs := [Fct.at_ 336 g335 3 #[.int .i64 0], Fct.at_ 338 g337 4 #[.bool false]]) (own0 := own345) (K := [336, 338]) (bs := (bz 2)) (ds := [⟨[2], [4], [336], Fct.at_ 348 g335 3 #[.int .i64 0]⟩, ⟨[3], [5], [338], Fct.at_ 349 g337 4 #[.bool false]⟩]) (by kernel_rfl) hz345 hd345 (by simp only [List.forall_mem_cons]; exact ⟨b345_g335, b345_g337, fun _ h => nomatch h⟩) ?_ ?_
    · refine sc (fun own a wx hf hsl hE => ?_) ?_
      · obtain ⟨b_g335, -⟩ := hf
        obtain ⟨s_4, -⟩ := hsl
        exact px (or_store1 (lab := 336) (lab2 := 348) ts3 (s_4.trans e345_4) rfl b_g335 (by simp) rfl (mem_of rfl) (by decide) rfl (fun own' a' w' ha hb => hb))
      refine sc (fun own a wx hf hsl hE => ?_) ?_
      · obtain ⟨b_g337, -⟩ := hf
        obtain ⟨s_5, -⟩ := hsl
        exact px (or_store1 (lab := 338) (lab2 := 349) ts4 (s_5.trans e345_5) rfl b_g337 (by simp) rfl (mem_of rfl) (by decide) rfl (fun own' a' w' ha hb => hb))
      exact steps_nil
    intro own350 a350 w350 hd350 hz350 hk350 hf350 hE350
    have e350_4 := (hk350 4 rfl).trans e345_4
    have e350_5 := (hk350 5 rfl).trans e345_5
    obtain ⟨(b350_g335 : BlkO own350 348 w350 g335 3 #[.int .i64 0]), (b350_g337 : BlkO own350 349 w350 g337 4 #[.bool false]), -⟩ := hf350 [0, 1] rfl
    have hX350 := es_ hX345 hE350
    have b350_mk := MkO.evo (by decide) hE350 b345_mk
    refine fl_ret ?_
    refine hp340 _ _ _ rfl ?_
    refine hret _ _ _ _ _ (.inl rfl) hd350 b350_mk (fun own351 w351 hE351 => ?_)
    have hX352 := es_ hX350 hE351
    have b352_g335 := be_ hE351 b350_g335
    have b352_g337 := be_ hE351 b350_g337
    obtain rfl := osome hs
    exact ⟨_, results2_ rfl (RVal.cell_ e350_4 (run_loadVarOne to3 (Blk.at_ b352_g335.2 0 rfl))) (RVal.cell_ e350_5 (run_loadVarOne to4 (Blk.at_ b352_g337.2 0 rfl))), ⟨own351, rfl, hX352⟩⟩
  refine fl_skip ?_
  refine hn340 _ _ ?_
  refine rg_plain_seq (n := 71) (rs := []) (own0 := own345) (K := [354]) (bs := (bz 2)) (ds := [⟨[], [], [], Fct.blk 354 6 (fun g => .pointer (some ⟨g, 0, none⟩)) 3 #[.int .i64 0]⟩, ⟨[0], [], [354], Fct.blk 355 6 (fun g => .pointer (some ⟨g, 0, none⟩)) 3 #[.int .i64 0]⟩]) (by kernel_rfl) hz345 hd345 nm_ ?_ ?_
  · refine sc (fun _ _ _ _ _ _ => px (or_new [] rfl rfl trivial (by kernel_rfl))) ?_
    refine sc (fun own a wx hf hsl hE => ?_) ?_
    · obtain ⟨⟨g353, f_6, b_g353⟩, -⟩ := hf
      exact px (or_store1 (lab := 354) (lab2 := 355) ts3 f_6 rfl b_g353 (by simp) rfl (mem_of rfl) (by decide) rfl (fun own' a' w' ha hb => ⟨_, (ha 6).trans f_6, hb⟩))
    exact steps_nil
  intro own356 a356 w356 hd356 hz356 hk356 hf356 hE356
  have e356_0 := (hk356 0 rfl).trans e345_0
  have e356_3 := (hk356 3 rfl).trans e345_3
  have e356_4 := (hk356 4 rfl).trans e345_4
  have e356_5 := (hk356 5 rfl).trans e345_5
  obtain ⟨⟨g353, (e356_6 : a356.eval (.tmp 6) = .pointer (some ⟨g353, 0, none⟩)), (b356_g353 : BlkO own356 355 w356 g353 3 #[.int .i64 0])⟩, -⟩ := hf356 [1] rfl
  have hX356 := es_ hX345 hE356
  have b356_Al1 := RdO.evo rfl hE356 b345_Al1
  have b356_mk := MkO.evo (by decide) hE356 b345_mk
  have b356_g333 := be_ hE356 b345_g333
  have b356_g335 := be_ hE356 b345_g335
  have b356_g337 := be_ hE356 b345_g337
  refine fl_seq (fun Q357 hn357 hp357 => ?_)
  refine rg0_seq 71 own356 (bz 2) [⟨[], [0], [], Fct.val 19 (.slice Al1 l1.length cl1)⟩, ⟨[0], [], [], Fct.mems [359] 20 (fun (x : Option Addr × Nat) => .func (.func 39) #[] #[.pointer (some ⟨x.2, 0, none⟩)]) (fun (x : Option Addr × Nat) own w => BlkO own 359 w x.2 22 #[.slice Al1 l1.length cl1]) (fun hk he h => BlkO.evo (not_hit hk (by decide)) he h)⟩] hz356 hd356 (by kernel_rfl) ?_ ?_
  · refine sc (fun _ _ _ _ s _ => px (or_move (s.1.trans e356_0))) ?_
    refine sc (fun _ _ _ f _ hE => px (or_call cf25 (args1 f.1) (ring_edges_w _ l1 Al1 cl1 (RdO.zero (RdO.evo rfl hE b356_Al1)) () rfl) (post_mems (m := (fun _ => 0)) (m' := (look0 [(1, 359)])) (fun _ _ => .inl rfl) (fun own' w' a' x h1 h => ⟨x, h1, BlkO.back_ h (by decide)⟩)))) ?_
    exact steps_nil
  intro own360 a360 w360 hd360 hz360 hk360 hf360 hE360
  have e360_3 := (hk360 3 rfl).trans e356_3
  have e360_4 := (hk360 4 rfl).trans e356_4
  have e360_5 := (hk360 5 rfl).trans e356_5
  have e360_6 := (hk360 6 rfl).trans e356_6
  obtain ⟨⟨⟨A358, cA358⟩, (e360_20 : a360.eval (.tmp 20) = .func (.func 39) #[] #[.pointer (some ⟨cA358, 0, none⟩)]), (b360_cA358 : BlkO own360 359 w360 cA358 22 #[.slice Al1 l1.length cl1])⟩, -⟩ := hf360 [1] rfl
  have hX360 := es_ hX356 hE360
  have b360_Al1 := RdO.evo rfl hE360 b356_Al1
  have b360_mk := MkO.evo (by decide) hE360 b356_mk
  have b360_g333 := be_ hE360 b356_g333
  have b360_g335 := be_ hE360 b356_g335
  have b360_g337 := be_ hE360 b356_g337
  have b360_g353 := be_ hE360 b356_g353
  refine fl_block (fun Q361 hn361 hx361 hp361 => ?_)
  obtain ⟨zz552, hzz552, hs⟩ := rngO_some hs
  refine fl_range (S := Int) (D := Unit) (X := (Int × Int) × (Int × Int)) (encs := (fun (x : (Int × Int) × (Int × Int)) => #[.agg #[.int .i64 x.1.1, .int .i64 x.1.2], .agg #[.int .i64 x.2.1, .int .i64 x.2.2]])) (n := 71) [336, 338, 355, 559, 563, 629, 637, 638, 643, 648] 553 11 rfl
      (fun (n457 : Int) (ox : Own) (wx : World) => Evo [] (fun _ => 0) ox w wx ∧ BlkO ox 334 wx g333 25 #[.int .i64 p2.1, .int .i64 p2.2] ∧ BlkO ox 336 wx g335 3 #[.int .i64 0] ∧ BlkO ox 338 wx g337 4 #[.bool false] ∧ BlkO ox 355 wx g353 3 #[.int .i64 n457] ∧ BlkO ox 359 wx cA358 22 #[.slice Al1 l1.length cl1] ∧ RdO ox [0] wx R25 Al1 cl1 l1)
      (fun (_ : Unit) (ox : Own) (wx : World) => Evo [] (fun _ => 0) ox w wx ∧ BlkO ox 539 wx g335 3 #[.int .i64 0] ∧ BlkO ox 540 wx g337 4 #[.bool false])
      (fun _ => Code.ret) (fun (sr : Int) (xr : (Int × Int) × (Int × Int)) => ring_Winding_b2 p2 sr xr) hz360 rfl e360_20 cf39 (cargs := fun l => #[.func (.yield l) #[] #[], .pointer (some ⟨cA358, 0, none⟩)]) (fun _ => by simp) (fun _ => rfl) hd360 b360_mk ?_ ?_ 0 zz552 ⟨hX360, b360_g333, b360_g335, b360_g337, b360_g353, b360_cA358, b360_Al1⟩ ?_ ?_ ?_ ?_
  · rintro n457 ox ox1 wx wx1 hEs ⟨h552_0, h552_1, h552_2, h552_3, h552_4, h552_5, h552_6⟩
    exact ⟨(es_ h552_0 hEs), (be_ hEs h552_1), (be_ hEs h552_2), (be_ hEs h552_3), (be_ hEs h552_4), (be_ hEs h552_5), (RdO.evo rfl hEs h552_6)⟩
  · rintro _ ox ox1 wx wx1 hEs ⟨h552_0, h552_1, h552_2⟩
    exact ⟨(es_ h552_0 hEs), (be_ hEs h552_1), (be_ hEs h552_2)⟩
  · intro l552 own1 w1 J552 hE1 hJ1 hR1
    exact (ring_edges_1_w w1 (forth own1 (look0 (kj 553 [336, 338, 355, 559, 563, 629, 637, 638, 643, 648]))) (Int ⊕ Unit) (yb (fun (sr : Int) (xr : (Int × Int) × (Int × Int)) => ring_Winding_b2 p2 sr xr)) J552 l552 (Sum.inl 0) l1 cA358 22 Al1 cl1 (look0_le rfl) hR1 hJ1 (BlkO.forth_ (be_ hE1 b360_cA358)) (RdO.forth0_ (RdO.evo rfl hE1 b360_Al1) rfl) zz552 hzz552).mono fun e wz ⟨oz, he, _, hJz⟩ => ⟨_, oz, he, hJz⟩
  · rintro l556 n457 x555 zz2 own556 a556 w556 Ds556 ⟨hE557, b557_g333, b557_g335, b557_g337, b557_g353, b557_cA358, b557_Al1⟩ - hrc556 hs ⟨hd556, hz556, hkp556, hpar556⟩ Q556 hn556
    have hs : ring_Winding_b2 p2 n457 x555 = some zz2 := hs
    replace hz556 := hz556.trans hz360
    have e556_3 : a556.eval (.tmp 3) = .pointer (some ⟨g333, 0, none⟩) := (hkp556 3 rfl).trans e360_3
    have e556_4 : a556.eval (.tmp 4) = .pointer (some ⟨g335, 0, none⟩) := (hkp556 4 rfl).trans e360_4
    have e556_5 : a556.eval (.tmp 5) = .pointer (some ⟨g337, 0, none⟩) := (hkp556 5 rfl).trans e360_5
    have e556_6 : a556.eval (.tmp 6) = .pointer (some ⟨g353, 0, none⟩) := (hkp556 6 rfl).trans e360_6
    have e556_20 : a556.eval (.tmp 20) = .func (.func 39) #[] #[.pointer (some ⟨cA358, 0, none⟩)] := (hkp556 20 rfl).trans e360_20
    have e556_21 : a556.eval (.tmp 21) = .agg #[.int .i64 x555.1.1, .int .i64 x555.1.2] := hpar556 0 21 _ rfl rfl
    have e556_22 : a556.eval (.tmp 22) = .agg #[.int .i64 x555.2.1, .int .i64 x555.2.2] := hpar556 1 22 _ rfl rfl
    have hE556 := Evo.refl [336, 338, 355, 559, 563, 629, 637, 638, 643, 648] own556 w556
    have hrc0_556 := hrc556
    refine rg_plain_seq (n := 71) (rs := []) (own0 := own556) (K := [559]) (bs := (bz 2)) (ds := [⟨[], [], [], Fct.blk 559 7 (fun g => .pointer (some ⟨g, 0, none⟩)) 25 #[.int .i64 0, .int .i64 0]⟩, ⟨[0], [21], [559], Fct.blk 560 7 (fun g => .pointer (some ⟨g, 0, none⟩)) 25 #[.int .i64 x555.1.1, .int .i64 x555.1.2]⟩]) (by kernel_rfl) hz556 hd556 nm_ ?_ ?_
    · refine sc (fun _ _ _ _ _ _ => px (or_new [] rfl rfl trivial (by kernel_rfl))) ?_
      refine sc (fun own a wx hf hsl hE => ?_) ?_
      · obtain ⟨⟨g558, f_7, b_g558⟩, -⟩ := hf
        obtain ⟨s_21, -⟩ := hsl
        exact px (or_store (l := #[.int .i64 x555.1.1, .int .i64 x555.1.2]) (lab := 559) (lab2 := 560) ts25 f_7 (s_21.trans e556_21) b_g558 (by simp) (by kernel_rfl) (mem_of rfl) (by decide) (by kernel_rfl) (fun own' a' w' ha hb => ⟨_, (ha 7).trans f_7, hb⟩))
      exact steps_nil
    intro own561 a561 w561 hd561 hz561 hk561 hf561 hE561
    have e561_3 := (hk561 3 rfl).trans e556_3
    have e561_4 := (hk561 4 rfl).trans e556_4
    have e561_5 := (hk561 5 rfl).trans e556_5
    have e561_6 := (hk561 6 rfl).trans e556_6
    have e561_20 := (hk561 20 rfl).trans e556_20
    have e561_22 := (hk561 22 rfl).trans e556_22
    obtain ⟨⟨g558, (e561_7 : a561.eval (.tmp 7) = .pointer (some ⟨g558, 0, none⟩)), (b561_g558 : BlkO own561 560 w561 g558 25 #[.int .i64 x555.1.1, .int .i64 x555.1.2])⟩, -⟩ := hf561 [1] rfl
    have hX561 := Evo.stepK hE556 hE561 rfl
    have b561_g333 := be_ hE561 b557_g333
    have b561_g335 := be_ hE561 b557_g335
    have b561_g337 := be_ hE561 b557_g337
    have b561_g353 := be_ hE561 b557_g353
    have b561_cA358 := be_ hE561 b557_cA358
    have b561_Al1 := RdO.evo rfl hE561 b557_Al1
    refine rg_plain (n := 71) (rs := []) (own0 := own561) (K := [563]) (bs := (bz 2)) (ds := [⟨[], [], [], Fct.blk 563 8 (fun g => .pointer (some ⟨g, 0, none⟩)) 25 #[.int .i64 0, .int .i64 0]⟩, ⟨[0], [22], [563], Fct.blk 564 8 (fun g => .pointer (some ⟨g, 0, none⟩)) 25 #[.int .i64 x555.2.1, .int .i64 x555.2.2]⟩]) (by kernel_rfl) hz561 hd561 nm_ ?_ ?_
    · refine sc (fun _ _ _ _ _ _ => px (or_new [] rfl rfl trivial (by kernel_rfl))) ?_
      refine sc (fun own a wx hf hsl hE => ?_) ?_
      · obtain ⟨⟨g562, f_8, b_g562⟩, -⟩ := hf
        obtain ⟨s_22, -⟩ := hsl
        exact px (or_store (l := #[.int .i64 x555.2.1, .int .i64 x555.2.2]) (lab := 563) (lab2 := 564) ts25 f_8 (s_22.trans e561_22) b_g562 (by simp) (by kernel_rfl) (mem_of rfl) (by decide) (by kernel_rfl) (fun own' a' w' ha hb => ⟨_, (ha 8).trans f_8, hb⟩))
      exact steps_nil
    intro own565 a565 w565 hd565 hz565 hk565 hf565 hE565
    have e565_3 := (hk565 3 rfl).trans e561_3
    have e565_4 := (hk565 4 rfl).trans e561_4
    have e565_5 := (hk565 5 rfl).trans e561_5
    have e565_6 := (hk565 6 rfl).trans e561_6
    have e565_7 := (hk565 7 rfl).trans e561_7
    have e565_20 := (hk565 20 rfl).trans e561_20
    obtain ⟨⟨g562, (e565_8 : a565.eval (.tmp 8) = .pointer (some ⟨g562, 0, none⟩)), (b565_g562 : BlkO own565 564 w565 g562 25 #[.int .i64 x555.2.1, .int .i64 x555.2.2])⟩, -⟩ := hf565 [1] rfl
    have hX565 := Evo.stepK hX561 hE565 rfl
    have b565_g333 := be_ hE565 b561_g333
    have b565_g335 := be_ hE565 b561_g335
    have b565_g337 := be_ hE565 b561_g337
    have b565_g353 := be_ hE565 b561_g353
    have b565_cA358 := be_ hE565 b561_cA358
    have b565_Al1 := RdO.evo rfl hE565 b561_Al1
    have b565_g558 := be_ hE565 b561_g558
    refine hn556 _ _ _ hX565 (fun w566 own566 hE566 hrc566 => ?_)
    have b566_g333 := be_ hE566 b565_g333
    have b566_g335 := be_ hE566 b565_g335
    have b566_g337 := be_ hE566 b565_g337
    have b566_g353 := be_ hE566 b565_g353
    have b566_cA358 := be_ hE566 b565_cA358
    have b566_Al1 := RdO.evo rfl hE566 b565_Al1
    have b566_g558 := be_ hE566 b565_g558
    have b566_g562 := be_ hE566 b565_g562
    have hU566 := es_ (es_ hE557 hX565) hE566
    have hX566 := Evo.refl [336, 338, 355, 559, 563, 629, 637, 638, 643, 648] own566 w566
    have hmk566 : MkO own566 11 w566 [] := MkO.nil_
    refine fl_block (fun Q567 hn567 hx567 hp567 => ?_)
    obtain ⟨r609, hr609, hs⟩ := obind hs
    refine rg0_seq 71 own566 [0, 0, 0, 7, 15] [⟨[], [7], [], Fct.val 23 (.agg #[.int .i64 x555.1.1, .int .i64 x555.1.2])⟩, ⟨[], [8], [], Fct.val 24 (.agg #[.int .i64 x555.2.1, .int .i64 x555.2.2])⟩, ⟨[], [3], [], Fct.val 25 (.agg #[.int .i64 p2.1, .int .i64 p2.2])⟩, ⟨[0, 1, 2], [], [], Fct.val 26 (.int .i64 r609)⟩, ⟨[3], [], [], Fct.val 9 (.int .i64 r609)⟩] hz565 hd565 (by kernel_rfl) ?_ ?_
    · refine sc (fun _ _ _ _ s hE => px (or_load (l := [.int .i64 x555.1.1, .int .i64 x555.1.2]) ta25 (s.1.trans e565_7) (Blk.cellsFrom (be_ hE b566_g558).2 0 rfl) rfl)) ?_
      refine sc (fun _ _ _ _ s hE => px (or_load (l := [.int .i64 x555.2.1, .int .i64 x555.2.2]) ta25 (s.1.trans e565_8) (Blk.cellsFrom (be_ hE b566_g562).2 0 rfl) rfl)) ?_
      refine sc (fun _ _ _ _ s hE => px (or_load (l := [.int .i64 p2.1, .int .i64 p2.2]) ta25 (s.1.trans e565_3) (Blk.cellsFrom (be_ hE b566_g333).2 0 rfl) rfl)) ?_
      refine sc (fun _ _ _ f _ _ => px (or_call cf33 (args3 f.1 f.2.1 f.2.2.1) (exact_Turn_w _ x555.1 x555.2 p2  r609 hr609) post_val)) ?_
      refine sc (fun _ _ _ f _ _ => px (or_assign f.1)) ?_
      exact steps_nil
    intro own610 a610 w610 hd610 hz610 hk610 hf610 hE610
    have e610_3 := (hk610 3 rfl).trans e565_3
    have e610_4 := (hk610 4 rfl).trans e565_4
    have e610_5 := (hk610 5 rfl).trans e565_5
    have e610_6 := (hk610 6 rfl).trans e565_6
    have e610_7 := (hk610 7 rfl).trans e565_7
    have e610_8 := (hk610 8 rfl).trans e565_8
    have e610_20 := (hk610 20 rfl).trans e565_20
    obtain ⟨(e610_9 : a610.eval (.tmp 9) = .int .i64 r609), -⟩ := hf610 [4] rfl
    have hX610 := Evo.stepK hX566 hE610 rfl
    have b610_g333 := be_ hE610 b566_g333
    have b610_g335 := be_ hE610 b566_g335
    have b610_g337 := be_ hE610 b566_g337
    have b610_g353 := be_ hE610 b566_g353
    have b610_cA358 := be_ hE610 b566_cA358
    have b610_Al1 := RdO.evo rfl hE610 b566_Al1
    have b610_g558 := be_ hE610 b566_g558
    have b610_g562 := be_ hE610 b566_g562
    have b610_rc := RcO.evo (by decide) hE610 hrc566
    have b610_mk := MkO.evo (by decide) hE610 hmk566
    refine fl_block (fun Q611 hn611 hx611 hp611 => ?_)
    have K631 : ∀ (a631 : Act) (w631 : World) (own631 : Own) (n630 : Int), a631.defers = mkD [] → a631.tmps.size = 71 → a631.eval (.tmp 3) = .pointer (some ⟨g333, 0, none⟩) → a631.eval (.tmp 4) = .pointer (some ⟨g335, 0, none⟩) → a631.eval (.tmp 5) = .pointer (some ⟨g337, 0, none⟩) → a631.eval (.tmp 6) = .pointer (some ⟨g353, 0, none⟩) → a631.eval (.tmp 20) = .func (.func 39) #[] #[.pointer (some ⟨cA358, 0, none⟩)] → Evo [336, 338, 355, 559, 563, 629, 637, 638, 643, 648] own566 own631 w566 w631 → BlkO own631 334 w631 g333 25 #[.int .i64 p2.1, .int .i64 p2.2] → BlkO own631 336 w631 g335 3 #[.int .i64 0] → BlkO own631 338 w631 g337 4 #[.bool false] → BlkO own631 629 w631 g353 3 #[.int .i64 n630] → BlkO own631 359 w631 cA358 22 #[.slice Al1 l1.length cl1] → RdO own631 [0] w631 R25 Al1 cl1 l1 → MkO own631 11 w631 [] → RcO own631 553 w631 l556 → ring_Winding_k1 n630 = some zz2 → (Q611 .normal a631 w631 ∧ Q611 (.exit 2) a631 w631) := by
      intro a631 w631 own631 n630 hd632 hz632 e632_3 e632_4 e632_5 e632_6 e632_20 hE632 b632_g333 b632_g335 b632_g337 b632_g353 b632_cA358 b632_Al1 b632_mk b632_rc hs
      refine and_both (hn611 _ _) (hx611 _ _) ?_
      refine hn567 _ _ ?_
      exact ⟨_, (rl [(629, 355)] own631), osome hs, (Evo.rlK hE632 rfl), (es_ hU566 (Evo.rlK hE632 rfl)), (BlkO.rl_ (mm := [(629, 355)]) b632_g333), (BlkO.rl_ (mm := [(629, 355)]) b632_g335), (BlkO.rl_ (mm := [(629, 355)]) b632_g337), (BlkO.rl_ (mm := [(629, 355)]) b632_g353), (BlkO.rl_ (mm := [(629, 355)]) b632_cA358), (RdO.rl_ (mm := [(629, 355)]) b632_Al1)⟩
    obtain ⟨r633, hr633, hs⟩ := obind hs
    refine rg0_seq 71 own610 [0, 0, 0, 7, 15] [⟨[], [7], [], Fct.val 28 (.agg #[.int .i64 x555.1.1, .int .i64 x555.1.2])⟩, ⟨[], [8], [], Fct.val 29 (.agg #[.int .i64 x555.2.1, .int .i64 x555.2.2])⟩, ⟨[], [3], [], Fct.val 30 (.agg #[.int .i64 p2.1, .int .i64 p2.2])⟩, ⟨[0, 1, 2], [], [], Fct.val 31 (.bool r633)⟩, ⟨[3], [], [], Fct.val 27 (.bool r633)⟩] hz610 hd610 (by kernel_rfl) ?_ ?_
    · refine sc (fun _ _ _ _ s hE => px (or_load (l := [.int .i64 x555.1.1, .int .i64 x555.1.2]) ta25 (s.1.trans e610_7) (Blk.cellsFrom (be_ hE b610_g558).2 0 rfl) rfl)) ?_
      refine sc (fun _ _ _ _ s hE => px (or_load (l := [.int .i64 x555.2.1, .int .i64 x555.2.2]) ta25 (s.1.trans e610_8) (Blk.cellsFrom (be_ hE b610_g562).2 0 rfl) rfl)) ?_
      refine sc (fun _ _ _ _ s hE => px (or_load (l := [.int .i64 p2.1, .int .i64 p2.2]) ta25 (s.1.trans e610_3) (Blk.cellsFrom (be_ hE b610_g333).2 0 rfl) rfl)) ?_
      refine sc (fun _ _ _ f _ _ => px (or_call cf34 (args3 f.1 f.2.1 f.2.2.1) (exact_On_w _ x555.1 x555.2 p2  r633 hr633) post_val)) ?_
      refine sc (fun _ _ _ f _ _ => px (or_assign f.1)) ?_
      exact steps_nil
    intro own634 a634 w634 hd634 hz634 hk634 hf634 hE634
    have e634_3 := (hk634 3 rfl).trans e610_3
    have e634_4 := (hk634 4 rfl).trans e610_4
    have e634_5 := (hk634 5 rfl).trans e610_5
    have e634_6 := (hk634 6 rfl).trans e610_6
    have e634_7 := (hk634 7 rfl).trans e610_7
    have e634_8 := (hk634 8 rfl).trans e610_8
    have e634_9 := (hk634 9 rfl).trans e610_9
    have e634_20 := (hk634 20 rfl).trans e610_20
    obtain ⟨(e634_27 : a634.eval (.tmp 27) = .bool r633), -⟩ := hf634 [4] rfl
    have hX634 := Evo.stepK hX610 hE634 rfl
    have b634_g333 := be_ hE634 b610_g333
    have b634_g335 := be_ hE634 b610_g335
    have b634_g337 := be_ hE634 b610_g337
    have b634_g353 := be_ hE634 b610_g353
    have b634_cA358 := be_ hE634 b610_cA358
    have b634_Al1 := RdO.evo rfl hE634 b610_Al1
    have b634_g558 := be_ hE634 b610_g558
    have b634_g562 := be_ hE634 b610_g562
    have b634_rc := RcO.evo (by decide) hE634 b610_rc
    have b634_mk := MkO.evo (by decide) hE634 b610_mk
    refine fl_cond e634_27 hs (fun c635 hs => ?_) (fun c635 hs => ?_)
    · refine rg_plain_seq (n := 71) (rs := [Fct.at_ 336 g335 3 #[.int .i64 0], Fct.at_ 338 g337 4 #[.bool false]]) (own0 := own634) (K := [336, 338]) (bs := (bz 2)) (ds := [⟨[2], [4], [336], Fct.at_ 637 g335 3 #[.int .i64 0]⟩, ⟨[3], [5], [338], Fct.at_ 638 g337 4 #[.bool false]⟩]) (by kernel_rfl) hz634 hd634 (by simp only [List.forall_mem_cons]; exact ⟨b634_g335, b634_g337, fun _ h => nomatch h⟩) ?_ ?_
      · refine sc (fun own a wx hf hsl hE => ?_) ?_
        · obtain ⟨b_g335, -⟩ := hf
          obtain ⟨s_4, -⟩ := hsl
          exact px (or_store1 (lab := 336) (lab2 := 637) ts3 (s_4.trans e634_4) rfl b_g335 (by simp) rfl (mem_of rfl) (by decide) rfl (fun own' a' w' ha hb => hb))
        refine sc (fun own a wx hf hsl hE => ?_) ?_
        · obtain ⟨b_g337, -⟩ := hf
          obtain ⟨s_5, -⟩ := hsl
          exact px (or_store1 (lab := 338) (lab2 := 638) ts4 (s_5.trans e634_5) rfl b_g337 (by simp) rfl (mem_of rfl) (by decide) rfl (fun own' a' w' ha hb => hb))
        exact steps_nil
      intro own639 a639 w639 hd639 hz639 hk639 hf639 hE639
      have e639_4 := (hk639 4 rfl).trans e634_4
      have e639_5 := (hk639 5 rfl).trans e634_5
      obtain ⟨(b639_g335 : BlkO own639 637 w639 g335 3 #[.int .i64 0]), (b639_g337 : BlkO own639 638 w639 g337 4 #[.bool false]), -⟩ := hf639 [0, 1] rfl
      have hX639 := Evo.stepK hX634 hE639 rfl
      have b639_rc := RcO.evo (by decide) hE639 b634_rc
      have b639_mk := MkO.evo (by decide) hE639 b634_mk
      refine fl_ret ?_
      refine hp611 _ _ _ rfl ?_
      refine hp567 _ _ _ rfl ?_
      exact ⟨_, (rl [(637, 539), (638, 540)] own639), osome hs, rfl, (Evo.rlK hX639 rfl), (es_ hU566 (Evo.rlK hX639 rfl)), (BlkO.rl_ (mm := [(637, 539), (638, 540)]) b639_g335), (BlkO.rl_ (mm := [(637, 539), (638, 540)]) b639_g337)⟩
    obtain ⟨x640, hx640, hs⟩ := obind hs
    refine rg0_seq 71 own634 [0, 1, 0, 4, 15, 31, 63, 127, 63, 319, 1023, 2047, 4095, 8191, 16383, 32767, 65535] [⟨[], [7], [], Fct.val 33 (.pointer (some ⟨g558, 1, none⟩))⟩, ⟨[0], [], [], Fct.val 34 (.int .i64 x555.1.2)⟩, ⟨[], [3], [], Fct.val 35 (.pointer (some ⟨g333, 1, none⟩))⟩, ⟨[2], [], [], Fct.val 36 (.int .i64 p2.2)⟩, ⟨[1, 3], [], [], Fct.val 37 (.bool (decide (x555.1.2 ≤ p2.2)))⟩, ⟨[4], [], [], Fct.val 38 (.bool (decide (x555.1.2 ≤ p2.2)))⟩, ⟨[5], [3], [], Fct.cond (decide (x555.1.2 ≤ p2.2)) (some 39) (Fct.val 39 (.pointer (some ⟨g333, 1, none⟩)))⟩, ⟨[5, 6], [], [], Fct.cond (decide (x555.1.2 ≤ p2.2)) (some 40) (Fct.val 40 (.int .i64 p2.2))⟩, ⟨[5], [8], [], Fct.cond (decide (x555.1.2 ≤ p2.2)) (some 41) (Fct.val 41 (.pointer (some ⟨g562, 1, none⟩)))⟩, ⟨[5, 8], [], [], Fct.cond (decide (x555.1.2 ≤ p2.2)) (some 42) (Fct.val 42 (.int .i64 x555.2.2))⟩, ⟨[5, 7, 9], [], [], Fct.cond (decide (x555.1.2 ≤ p2.2)) (some 43) (Fct.val 43 (.bool (decide (p2.2 < x555.2.2))))⟩, ⟨[5, 10], [], [], Fct.val 44 (.bool x640)⟩, ⟨[11], [], [], Fct.val 45 (.bool x640)⟩, ⟨[12], [9], [], Fct.cond x640 (some 46) (Fct.val 46 (.int .i64 r609))⟩, ⟨[12, 13], [], [], Fct.cond x640 (some 47) (Fct.val 47 (.bool (decide (0 < r609))))⟩, ⟨[12, 14], [], [], Fct.val 48 (.bool (x640 && (decide (0 < r609))))⟩, ⟨[15], [], [], Fct.val 32 (.bool (x640 && (decide (0 < r609))))⟩] hz634 hd634 (by kernel_rfl) ?_ ?_
    · refine sc (fun _ _ _ _ s _ => px (or_field fo25_1 (s.1.trans e634_7) (by rfl))) ?_
      refine sc (fun _ _ _ f _ hE => px (or_load1 to3 f.1 (Blk.at_ (be_ hE b634_g558).2 1 rfl))) ?_
      refine sc (fun _ _ _ _ s _ => px (or_field fo25_1 (s.1.trans e634_3) (by rfl))) ?_
      refine sc (fun _ _ _ f _ hE => px (or_load1 to3 f.1 (Blk.at_ (be_ hE b634_g333).2 1 rfl))) ?_
      refine sc (fun _ _ _ f _ _ => px (or_leq f.1 f.2.1 rfl)) ?_
      refine sc (fun _ _ _ f _ _ => px (or_move f.1)) ?_
      refine sc (fun _ _ _ f s _ => sg_t rfl rfl rfl f.1 (fun hg => or_field fo25_1 (s.1.trans e634_3) (by rfl))) ?_
      refine sc (fun _ _ _ f _ hE => sg_t rfl rfl rfl f.1 (fun hg => or_load1 to3 (f.2.1.1 hg) (Blk.at_ (be_ hE b634_g333).2 1 rfl))) ?_
      refine sc (fun _ _ _ f s _ => sg_t rfl rfl rfl f.1 (fun hg => or_field fo25_1 (s.1.trans e634_8) (by rfl))) ?_
      refine sc (fun _ _ _ f _ hE => sg_t rfl rfl rfl f.1 (fun hg => or_load1 to3 (f.2.1.1 hg) (Blk.at_ (be_ hE b634_g562).2 1 rfl))) ?_
      refine sc (fun _ _ _ f _ _ => sg_t rfl rfl rfl f.1 (fun hg => or_lss (f.2.1.1 hg) (f.2.2.1.1 hg) rfl)) ?_
      refine sc (fun _ _ _ f _ _ => px (or_and f.1 (fun hx => f.2.1.1 hx) rfl (osome hx640).symm)) ?_
      refine sc (fun _ _ _ f _ _ => px (or_move f.1)) ?_
      refine sc (fun _ _ _ f s _ => sg_t rfl rfl rfl f.1 (fun hg => or_move (s.1.trans e634_9))) ?_
      refine sc (fun _ _ _ f _ _ => sg_t rfl rfl rfl f.1 (fun hg => or_gtr (f.2.1.1 hg) rfl rfl)) ?_
      refine sc (fun _ _ _ f _ _ => px (or_and f.1 (fun hx => f.2.1.1 hx) rfl rfl)) ?_
      refine sc (fun _ _ _ f _ _ => px (or_assign f.1)) ?_
      exact steps_nil
    intro own641 a641 w641 hd641 hz641 hk641 hf641 hE641
    have e641_3 := (hk641 3 rfl).trans e634_3
    have e641_4 := (hk641 4 rfl).trans e634_4
    have e641_5 := (hk641 5 rfl).trans e634_5
    have e641_6 := (hk641 6 rfl).trans e634_6
    have e641_7 := (hk641 7 rfl).trans e634_7
    have e641_8 := (hk641 8 rfl).trans e634_8
    have e641_9 := (hk641 9 rfl).trans e634_9
    have e641_20 := (hk641 20 rfl).trans e634_20
    obtain ⟨(e641_32 : a641.eval (.tmp 32) = .bool (x640 && (decide (0 < r609)))), -⟩ := hf641 [16] rfl
    have hX641 := Evo.stepK hX634 hE641 rfl
    have b641_g333 := be_ hE641 b634_g333
    have b641_g335 := be_ hE641 b634_g335
    have b641_g337 := be_ hE641 b634_g337
    have b641_g353 := be_ hE641 b634_g353
    have b641_cA358 := be_ hE641 b634_cA358
    have b641_Al1 := RdO.evo rfl hE641 b634_Al1
    have b641_g558 := be_ hE641 b634_g558
    have b641_g562 := be_ hE641 b634_g562
    have b641_rc := RcO.evo (by decide) hE641 b634_rc
    have b641_mk := MkO.evo (by decide) hE641 b634_mk
    refine fl_cond e641_32 hs (fun c642 hs => ?_) (fun c642 hs => ?_)
    · refine rg_plain (n := 71) (rs := [Fct.at_ 355 g353 3 #[.int .i64 n457]]) (own0 := own641) (K := [355]) (bs := (bz 3)) (ds := [⟨[3], [6], [], Fct.val 49 (.int .i64 n457)⟩, ⟨[0], [], [], Fct.val 50 (.int .i64 (ad n457 1))⟩, ⟨[1, 3], [6], [355], Fct.at_ 643 g353 3 #[.int .i64 (ad n457 1)]⟩]) (by kernel_rfl) hz641 hd641 (by simp only [List.forall_mem_cons]; exact ⟨b641_g353, fun _ h => nomatch h⟩) ?_ ?_
      · refine sc (fun own a wx hf hsl hE => ?_) ?_
        · obtain ⟨(b_g353 : BlkO own 355 wx g353 3 #[.int .i64 n457]), -⟩ := hf
          obtain ⟨s_6, -⟩ := hsl
          exact px (or_load1 to3 (s_6.trans e641_6) (Blk.at_ b_g353.2 0 rfl))
        refine sc (fun _ _ _ f _ _ => px (or_add f.1 rfl rfl)) ?_
        refine sc (fun own a wx hf hsl hE => ?_) ?_
        · obtain ⟨f_50, b_g353, -⟩ := hf
          obtain ⟨s_6, -⟩ := hsl
          exact px (or_store1 (lab := 355) (lab2 := 643) ts3 (s_6.trans e641_6) f_50 b_g353 (by simp) rfl (mem_of rfl) (by decide) rfl (fun own' a' w' ha hb => hb))
        exact steps_nil
      intro own644 a644 w644 hd644 hz644 hk644 hf644 hE644
      have e644_3 := (hk644 3 rfl).trans e641_3
      have e644_4 := (hk644 4 rfl).trans e641_4
      have e644_5 := (hk644 5 rfl).trans e641_5
      have e644_6 := (hk644 6 rfl).trans e641_6
      have e644_20 := (hk644 20 rfl).trans e641_20
      obtain ⟨(b644_g353 : BlkO own644 643 w644 g353 3 #[.int .i64 (ad n457 1)]), -⟩ := hf644 [2] rfl
      have hX644 := Evo.stepK hX641 hE644 rfl
      have b644_g333 := be_ hE644 b641_g333
      have b644_g335 := be_ hE644 b641_g335
      have b644_g337 := be_ hE644 b641_g337
      have b644_cA358 := be_ hE644 b641_cA358
      have b644_Al1 := RdO.evo rfl hE644 b641_Al1
      have b644_rc := RcO.evo (by decide) hE644 b641_rc
      have b644_mk := MkO.evo (by decide) hE644 b641_mk
      exact (K631 _ _ (rl [(643, 629)] own644) _ hd644 hz644 e644_3 e644_4 e644_5 e644_6 e644_20 (Evo.rlK hX644 rfl) (BlkO.rl_ (mm := [(643, 629)]) b644_g333) (BlkO.rl_ (mm := [(643, 629)]) b644_g335) (BlkO.rl_ (mm := [(643, 629)]) b644_g337) (BlkO.rl_ (mm := [(643, 629)]) b644_g353) (BlkO.rl_ (mm := [(643, 629)]) b644_cA358) (RdO.rl_ (mm := [(643, 629)]) b644_Al1) (MkO.rl_ (mm := [(643, 629)]) b644_mk) (RcO.rl_ (mm := [(643, 629)]) b644_rc) hs).1
    obtain ⟨x645, hx645, hs⟩ := obind hs
    refine rg0_seq 71 own641 [0, 1, 0, 4, 15, 31, 63, 127, 63, 319, 1023, 2047, 4095, 8191, 16383, 32767, 65535] [⟨[], [8], [], Fct.val 52 (.pointer (some ⟨g562, 1, none⟩))⟩, ⟨[0], [], [], Fct.val 53 (.int .i64 x555.2.2)⟩, ⟨[], [3], [], Fct.val 54 (.pointer (some ⟨g333, 1, none⟩))⟩, ⟨[2], [], [], Fct.val 55 (.int .i64 p2.2)⟩, ⟨[1, 3], [], [], Fct.val 56 (.bool (decide (x555.2.2 ≤ p2.2)))⟩, ⟨[4], [], [], Fct.val 57 (.bool (decide (x555.2.2 ≤ p2.2)))⟩, ⟨[5], [3], [], Fct.cond (decide (x555.2.2 ≤ p2.2)) (some 58) (Fct.val 58 (.pointer (some ⟨g333, 1, none⟩)))⟩, ⟨[5, 6], [], [], Fct.cond (decide (x555.2.2 ≤ p2.2)) (some 59) (Fct.val 59 (.int .i64 p2.2))⟩, ⟨[5], [7], [], Fct.cond (decide (x555.2.2 ≤ p2.2)) (some 60) (Fct.val 60 (.pointer (some ⟨g558, 1, none⟩)))⟩, ⟨[5, 8], [], [], Fct.cond (decide (x555.2.2 ≤ p2.2)) (some 61) (Fct.val 61 (.int .i64 x555.1.2))⟩, ⟨[5, 7, 9], [], [], Fct.cond (decide (x555.2.2 ≤ p2.2)) (some 62) (Fct.val 62 (.bool (decide (p2.2 < x555.1.2))))⟩, ⟨[5, 10], [], [], Fct.val 63 (.bool x645)⟩, ⟨[11], [], [], Fct.val 64 (.bool x645)⟩, ⟨[12], [9], [], Fct.cond x645 (some 65) (Fct.val 65 (.int .i64 r609))⟩, ⟨[12, 13], [], [], Fct.cond x645 (some 66) (Fct.val 66 (.bool (decide (r609 < 0))))⟩, ⟨[12, 14], [], [], Fct.val 67 (.bool (x645 && (decide (r609 < 0))))⟩, ⟨[15], [], [], Fct.val 51 (.bool (x645 && (decide (r609 < 0))))⟩] hz641 hd641 (by kernel_rfl) ?_ ?_
    · refine sc (fun _ _ _ _ s _ => px (or_field fo25_1 (s.1.trans e641_8) (by rfl))) ?_
      refine sc (fun _ _ _ f _ hE => px (or_load1 to3 f.1 (Blk.at_ (be_ hE b641_g562).2 1 rfl))) ?_
      refine sc (fun _ _ _ _ s _ => px (or_field fo25_1 (s.1.trans e641_3) (by rfl))) ?_
      refine sc (fun _ _ _ f _ hE => px (or_load1 to3 f.1 (Blk.at_ (be_ hE b641_g333).2 1 rfl))) ?_
      refine sc (fun _ _ _ f _ _ => px (or_leq f.1 f.2.1 rfl)) ?_
      refine sc (fun _ _ _ f _ _ => px (or_move f.1)) ?_
      refine sc (fun _ _ _ f s _ => sg_t rfl rfl rfl f.1 (fun hg => or_field fo25_1 (s.1.trans e641_3) (by rfl))) ?_
      refine sc (fun _ _ _ f _ hE => sg_t rfl rfl rfl f.1 (fun hg => or_load1 to3 (f.2.1.1 hg) (Blk.at_ (be_ hE b641_g333).2 1 rfl))) ?_
      refine sc (fun _ _ _ f s _ => sg_t rfl rfl rfl f.1 (fun hg => or_field fo25_1 (s.1.trans e641_7) (by rfl))) ?_
      refine sc (fun _ _ _ f _ hE => sg_t rfl rfl rfl f.1 (fun hg => or_load1 to3 (f.2.1.1 hg) (Blk.at_ (be_ hE b641_g558).2 1 rfl))) ?_
      refine sc (fun _ _ _ f _ _ => sg_t rfl rfl rfl f.1 (fun hg => or_lss (f.2.1.1 hg) (f.2.2.1.1 hg) rfl)) ?_
      refine sc (fun _ _ _ f _ _ => px (or_and f.1 (fun hx => f.2.1.1 hx) rfl (osome hx645).symm)) ?_
      refine sc (fun _ _ _ f _ _ => px (or_move f.1)) ?_
      refine sc (fun _ _ _ f s _ => sg_t rfl rfl rfl f.1 (fun hg => or_move (s.1.trans e641_9))) ?_
      refine sc (fun _ _ _ f _ _ => sg_t rfl rfl rfl f.1 (fun hg => or_lss (f.2.1.1 hg) rfl rfl)) ?_
      refine sc (fun _ _ _ f _ _ => px (or_and f.1 (fun hx => f.2.1.1 hx) rfl rfl)) ?_
      refine sc (fun _ _ _ f _ _ => px (or_assign f.1)) ?_
      exact steps_nil
    intro own646 a646 w646 hd646 hz646 hk646 hf646 hE646
    have e646_3 := (hk646 3 rfl).trans e641_3
    have e646_4 := (hk646 4 rfl).trans e641_4
    have e646_5 := (hk646 5 rfl).trans e641_5
    have e646_6 := (hk646 6 rfl).trans e641_6
    have e646_20 := (hk646 20 rfl).trans e641_20
    obtain ⟨(e646_51 : a646.eval (.tmp 51) = .bool (x645 && (decide (r609 < 0)))), -⟩ := hf646 [16] rfl
    have hX646 := Evo.stepK hX641 hE646 rfl
    have b646_g333 := be_ hE646 b641_g333
    have b646_g335 := be_ hE646 b641_g335
    have b646_g337 := be_ hE646 b641_g337
    have b646_g353 := be_ hE646 b641_g353
    have b646_cA358 := be_ hE646 b641_cA358
    have b646_Al1 := RdO.evo rfl hE646 b641_Al1
    have b646_rc := RcO.evo (by decide) hE646 b641_rc
    have b646_mk := MkO.evo (by decide) hE646 b641_mk
    refine fl_cond e646_51 hs (fun c647 hs => ?_) (fun c647 hs => ?_)
    · refine rg_plain (n := 71) (rs := [Fct.at_ 355 g353 3 #[.int .i64 n457]]) (own0 := own646) (K := [355]) (bs := (bz 3)) (ds := [⟨[3], [6], [], Fct.val 68 (.int .i64 n457)⟩, ⟨[0], [], [], Fct.val 69 (.int .i64 (sb n457 1))⟩, ⟨[1, 3], [6], [355], Fct.at_ 648 g353 3 #[.int .i64 (sb n457 1)]⟩]) (by kernel_rfl) hz646 hd646 (by simp only [List.forall_mem_cons]; exact ⟨b646_g353, fun _ h => nomatch h⟩) ?_ ?_
      · refine sc (fun own a wx hf hsl hE => ?_) ?_
        · obtain ⟨(b_g353 : BlkO own 355 wx g353 3 #[.int .i64 n457]), -⟩ := hf
          obtain ⟨s_6, -⟩ := hsl
          exact px (or_load1 to3 (s_6.trans e646_6) (Blk.at_ b_g353.2 0 rfl))
        refine sc (fun _ _ _ f _ _ => px (or_sub f.1 rfl rfl)) ?_
        refine sc (fun own a wx hf hsl hE => ?_) ?_
        · obtain ⟨f_69, b_g353, -⟩ := hf
          obtain ⟨s_6, -⟩ := hsl
          exact px (or_store1 (lab := 355) (lab2 := 648) ts3 (s_6.trans e646_6) f_69 b_g353 (by simp) rfl (mem_of rfl) (by decide) rfl (fun own' a' w' ha hb => hb))
        exact steps_nil
      intro own649 a649 w649 hd649 hz649 hk649 hf649 hE649
      have e649_3 := (hk649 3 rfl).trans e646_3
      have e649_4 := (hk649 4 rfl).trans e646_4
      have e649_5 := (hk649 5 rfl).trans e646_5
      have e649_6 := (hk649 6 rfl).trans e646_6
      have e649_20 := (hk649 20 rfl).trans e646_20
      obtain ⟨(b649_g353 : BlkO own649 648 w649 g353 3 #[.int .i64 (sb n457 1)]), -⟩ := hf649 [2] rfl
      have hX649 := Evo.stepK hX646 hE649 rfl
      have b649_g333 := be_ hE649 b646_g333
      have b649_g335 := be_ hE649 b646_g335
      have b649_g337 := be_ hE649 b646_g337
      have b649_cA358 := be_ hE649 b646_cA358
      have b649_Al1 := RdO.evo rfl hE649 b646_Al1
      have b649_rc := RcO.evo (by decide) hE649 b646_rc
      have b649_mk := MkO.evo (by decide) hE649 b646_mk
      exact (K631 _ _ (rl [(648, 629)] own649) _ hd649 hz649 e649_3 e649_4 e649_5 e649_6 e649_20 (Evo.rlK hX649 rfl) (BlkO.rl_ (mm := [(648, 629)]) b649_g333) (BlkO.rl_ (mm := [(648, 629)]) b649_g335) (BlkO.rl_ (mm := [(648, 629)]) b649_g337) (BlkO.rl_ (mm := [(648, 629)]) b649_g353) (BlkO.rl_ (mm := [(648, 629)]) b649_cA358) (RdO.rl_ (mm := [(648, 629)]) b649_Al1) (MkO.rl_ (mm := [(648, 629)]) b649_mk) (RcO.rl_ (mm := [(648, 629)]) b649_rc) hs).1
    refine fl_skip ?_
    exact (K631 _ _ (rl [(355, 629)] own646) _ hd646 hz646 e646_3 e646_4 e646_5 e646_6 e646_20 (Evo.rlK hX646 rfl) (BlkO.rl_ (mm := [(355, 629)]) b646_g333) (BlkO.rl_ (mm := [(355, 629)]) b646_g335) (BlkO.rl_ (mm := [(355, 629)]) b646_g337) (BlkO.rl_ (mm := [(355, 629)]) b646_g353) (BlkO.rl_ (mm := [(355, 629)]) b646_cA358) (RdO.rl_ (mm := [(355, 629)]) b646_Al1) (MkO.rl_ (mm := [(355, 629)]) b646_mk) (RcO.rl_ (mm := [(355, 629)]) b646_rc) hs).1
  · rintro n457 a650 own650 w650 Ds650 hzz650 hd650 hz650 hkp650 hmk650 ⟨hE650, b650_g333, b650_g335, b650_g337, b650_g353, b650_cA358, b650_Al1⟩
    subst hzz650
    have hs : ring_Winding_b3 n457 = some r := hs
    have e650_3 : a650.eval (.tmp 3) = .pointer (some ⟨g333, 0, none⟩) := (hkp650 3).trans e360_3
    have e650_4 : a650.eval (.tmp 4) = .pointer (some ⟨g335, 0, none⟩) := (hkp650 4).trans e360_4
    have e650_5 : a650.eval (.tmp 5) = .pointer (some ⟨g337, 0, none⟩) := (hkp650 5).trans e360_5
    have e650_6 : a650.eval (.tmp 6) = .pointer (some ⟨g353, 0, none⟩) := (hkp650 6).trans e360_6
    have e650_20 : a650.eval (.tmp 20) = .func (.func 39) #[] #[.pointer (some ⟨cA358, 0, none⟩)] := (hkp650 20).trans e360_20
    refine hn361 _ _ ?_
    refine hn357 _ _ ?_
    refine rg_plain_seq (n := 71) (rs := [Fct.at_ 336 g335 3 #[.int .i64 0], Fct.at_ 338 g337 4 #[.bool false]]) (own0 := own650) (K := [336, 338]) (bs := (bz 3)) (ds := [⟨[], [6], [], Fct.val 70 (.int .i64 n457)⟩, ⟨[0, 3], [4], [336], Fct.at_ 652 g335 3 #[.int .i64 n457]⟩, ⟨[4], [5], [338], Fct.at_ 653 g337 4 #[.bool true]⟩]) (by kernel_rfl) hz650 hd650 (by simp only [List.forall_mem_cons]; exact ⟨b650_g335, b650_g337, fun _ h => nomatch h⟩) ?_ ?_
    · refine sc (fun _ _ _ _ s hE => px (or_load1 to3 (s.1.trans e650_6) (Blk.at_ (be_ hE b650_g353).2 0 rfl))) ?_
      refine sc (fun own a wx hf hsl hE => ?_) ?_
      · obtain ⟨f_70, b_g335, -⟩ := hf
        obtain ⟨s_4, -⟩ := hsl
        exact px (or_store1 (lab := 336) (lab2 := 652) ts3 (s_4.trans e650_4) f_70 b_g335 (by simp) rfl (mem_of rfl) (by decide) rfl (fun own' a' w' ha hb => hb))
      refine sc (fun own a wx hf hsl hE => ?_) ?_
      · obtain ⟨b_g337, -⟩ := hf
        obtain ⟨s_5, -⟩ := hsl
        exact px (or_store1 (lab := 338) (lab2 := 653) ts4 (s_5.trans e650_5) rfl b_g337 (by simp) rfl (mem_of rfl) (by decide) rfl (fun own' a' w' ha hb => hb))
      exact steps_nil
    intro own654 a654 w654 hd654 hz654 hk654 hf654 hE654
    have e654_4 := (hk654 4 rfl).trans e650_4
    have e654_5 := (hk654 5 rfl).trans e650_5
    obtain ⟨(b654_g335 : BlkO own654 652 w654 g335 3 #[.int .i64 n457]), (b654_g337 : BlkO own654 653 w654 g337 4 #[.bool true]), -⟩ := hf654 [1, 2] rfl
    have hX654 := es_ hE650 hE654
    have b654_mk := MkO.evo (by decide) hE654 hmk650
    refine fl_ret ?_
    refine hret _ _ _ _ _ (.inl rfl) hd654 b654_mk (fun own655 w655 hE655 => ?_)
    have hX656 := es_ hX654 hE655
    have b656_g335 := be_ hE655 b654_g335
    have b656_g337 := be_ hE655 b654_g337
    obtain rfl := osome hs
    exact ⟨_, results2_ rfl (RVal.cell_ e654_4 (run_loadVarOne to3 (Blk.at_ b656_g335.2 0 rfl))) (RVal.cell_ e654_5 (run_loadVarOne to4 (Blk.at_ b656_g337.2 0 rfl))), ⟨own655, rfl, hX656⟩⟩
  · rintro _ a657 own657 w657 Ds657 hzz657 hd657 hz657 hkp657 hmk657 ⟨hE657, b657_g335, b657_g337⟩
    subst hzz657
    have hs : ring_Winding_b4 = some r := hs
    have e657_4 : a657.eval (.tmp 4) = .pointer (some ⟨g335, 0, none⟩) := (hkp657 4).trans e360_4
    have e657_5 : a657.eval (.tmp 5) = .pointer (some ⟨g337, 0, none⟩) := (hkp657 5).trans e360_5
    refine fl_ret ?_
    refine hp361 _ _ _ rfl ?_
    refine hp357 _ _ _ rfl ?_
    refine hret _ _ _ _ _ (.inl rfl) hd657 hmk657 (fun own658 w658 hE658 => ?_)
    have hX659 := es_ hE657 hE658
    have b659_g335 := be_ hE658 b657_g335
    have b659_g337 := be_ hE658 b657_g337
    obtain rfl := osome hs
    exact ⟨_, results2_ rfl (RVal.cell_ e657_4 (run_loadVarOne to3 (Blk.at_ b659_g335.2 0 rfl))) (RVal.cell_ e657_5 (run_loadVarOne to4 (Blk.at_ b659_g337.2 0 rfl))), ⟨own658, rfl, hX659⟩⟩
end Go.Proofs.Ytopnbammdeimcaa
