import Derived.Test.YthkmkmkcnljmaaaWp1
import Derived.Test.YthkmkmkcnljmaaaSp2
namespace Go.Proofs.Ythkmkmkcnljmaaa
open Go.RowKit
set_option linter.unusedVariables false
set_option maxRecDepth 10000
theorem exact_between_w (w : World) (x1 : Int × Int) (b2 : Int × Int) (p3 : Int × Int) (r : Bool) (hs : exact_between x1 b2 p3 = some r) :
    Calls Try.prog 60 #[.agg #[.int .i64 x1.1, .int .i64 x1.2], .agg #[.int .i64 b2.1, .int .i64 b2.2], .agg #[.int .i64 p3.1, .int .i64 p3.2]] w fun e w' => ∃ own' : Own, e = .returned (.bool r) ∧ Evo [] (fun _ => 0) own' w w' := by
  refine fl_enter (n := 35) rfl rfl rfl (Nat.le_of_ble_eq_true rfl) ?_
  intro a0 Q hd0 hz0 harg hret
  have ha0 := harg 0 _ rfl
  have ha1 := harg 1 _ rfl
  have ha2 := harg 2 _ rfl
  clear harg
  have hE0 : Evo [] (fun _ => 0) (fun _ => 0) w w := Evo.refl _ _ _
  refine rg0_seq 35 (fun _ => 0) [0, 0, 0, 0] [⟨[], [0], [], Fct.blk 22 3 (fun g => .pointer (some ⟨g, 0, none⟩)) 32 #[.int .i64 x1.1, .int .i64 x1.2]⟩, ⟨[], [1], [], Fct.blk 24 4 (fun g => .pointer (some ⟨g, 0, none⟩)) 32 #[.int .i64 b2.1, .int .i64 b2.2]⟩, ⟨[], [2], [], Fct.blk 26 5 (fun g => .pointer (some ⟨g, 0, none⟩)) 32 #[.int .i64 p3.1, .int .i64 p3.2]⟩, ⟨[], [], [], Fct.val 6 (.bool false)⟩] hz0 hd0 (by kernel_rfl) ?_ ?_
  · refine sc (fun _ _ _ _ s _ => px (or_new [(0, .agg #[.int .i64 x1.1, .int .i64 x1.2])] rfl rfl ⟨(s.1.trans ha0), trivial⟩ (by kernel_rfl))) ?_
    refine sc (fun _ _ _ _ s _ => px (or_new [(1, .agg #[.int .i64 b2.1, .int .i64 b2.2])] rfl rfl ⟨(s.1.trans ha1), trivial⟩ (by kernel_rfl))) ?_
    refine sc (fun _ _ _ _ s _ => px (or_new [(2, .agg #[.int .i64 p3.1, .int .i64 p3.2])] rfl rfl ⟨(s.1.trans ha2), trivial⟩ (by kernel_rfl))) ?_
    refine sc (fun _ _ _ _ _ _ => px (or_assign rfl)) ?_
    exact steps_nil
  intro own27 a27 w27 hd27 hz27 hk27 hf27 hE27
  obtain ⟨⟨g21, (e27_3 : a27.eval (.tmp 3) = .pointer (some ⟨g21, 0, none⟩)), (b27_g21 : BlkO own27 22 w27 g21 32 #[.int .i64 x1.1, .int .i64 x1.2])⟩, ⟨g23, (e27_4 : a27.eval (.tmp 4) = .pointer (some ⟨g23, 0, none⟩)), (b27_g23 : BlkO own27 24 w27 g23 32 #[.int .i64 b2.1, .int .i64 b2.2])⟩, ⟨g25, (e27_5 : a27.eval (.tmp 5) = .pointer (some ⟨g25, 0, none⟩)), (b27_g25 : BlkO own27 26 w27 g25 32 #[.int .i64 p3.1, .int .i64 p3.2])⟩, -⟩ := hf27 [0, 1, 2] rfl
  have hX27 := es_ hE0 hE27
  obtain ⟨r28, hr28, hs⟩ := obind hs
  obtain ⟨r29, hr29, hs⟩ := obind hs
  refine rg0_seq 35 own27 [0, 1, 0, 4, 0, 16, 60, 0, 128, 0, 512, 1920, 4095, 8191, 16383, 32767, 16383, 81919, 16383, 278527, 999423, 16383, 2113535, 16383, 8404991, 31473663, 67108863, 134217727, 268435455] [⟨[], [5], [], Fct.val 7 (.pointer (some ⟨g25, 0, none⟩))⟩, ⟨[0], [], [], Fct.val 8 (.int .i64 p3.1)⟩, ⟨[], [3], [], Fct.val 9 (.pointer (some ⟨g21, 0, none⟩))⟩, ⟨[2], [], [], Fct.val 10 (.int .i64 x1.1)⟩, ⟨[], [4], [], Fct.val 11 (.pointer (some ⟨g23, 0, none⟩))⟩, ⟨[4], [], [], Fct.val 12 (.int .i64 b2.1)⟩, ⟨[3, 5], [], [], Fct.val 13 (.int .i64 (mn x1.1 b2.1))⟩, ⟨[], [3], [], Fct.val 14 (.pointer (some ⟨g21, 0, none⟩))⟩, ⟨[7], [], [], Fct.val 15 (.int .i64 x1.1)⟩, ⟨[], [4], [], Fct.val 16 (.pointer (some ⟨g23, 0, none⟩))⟩, ⟨[9], [], [], Fct.val 17 (.int .i64 b2.1)⟩, ⟨[8, 10], [], [], Fct.val 18 (.int .i64 (mx x1.1 b2.1))⟩, ⟨[1, 6, 11], [], [], Fct.val 19 (.bool r28)⟩, ⟨[12], [], [], Fct.val 20 (.bool r28)⟩, ⟨[13], [5], [], Fct.cond r28 (some 21) (Fct.val 21 (.pointer (some ⟨g25, 1, none⟩)))⟩, ⟨[13, 14], [], [], Fct.cond r28 (some 22) (Fct.val 22 (.int .i64 p3.2))⟩, ⟨[13], [3], [], Fct.cond r28 (some 23) (Fct.val 23 (.pointer (some ⟨g21, 1, none⟩)))⟩, ⟨[13, 16], [], [], Fct.cond r28 (some 24) (Fct.val 24 (.int .i64 x1.2))⟩, ⟨[13], [4], [], Fct.cond r28 (some 25) (Fct.val 25 (.pointer (some ⟨g23, 1, none⟩)))⟩, ⟨[13, 18], [], [], Fct.cond r28 (some 26) (Fct.val 26 (.int .i64 b2.2))⟩, ⟨[13, 17, 19], [], [], Fct.cond r28 (some 27) (Fct.val 27 (.int .i64 (mn x1.2 b2.2)))⟩, ⟨[13], [3], [], Fct.cond r28 (some 28) (Fct.val 28 (.pointer (some ⟨g21, 1, none⟩)))⟩, ⟨[13, 21], [], [], Fct.cond r28 (some 29) (Fct.val 29 (.int .i64 x1.2))⟩, ⟨[13], [4], [], Fct.cond r28 (some 30) (Fct.val 30 (.pointer (some ⟨g23, 1, none⟩)))⟩, ⟨[13, 23], [], [], Fct.cond r28 (some 31) (Fct.val 31 (.int .i64 b2.2))⟩, ⟨[13, 22, 24], [], [], Fct.cond r28 (some 32) (Fct.val 32 (.int .i64 (mx x1.2 b2.2)))⟩, ⟨[13, 15, 20, 25], [], [], Fct.cond r28 (some 33) (Fct.val 33 (.bool r29))⟩, ⟨[13, 26], [], [], Fct.val 34 (.bool (r28 && r29))⟩, ⟨[27], [], [], Fct.val 6 (.bool (r28 && r29))⟩] hz27 hd27 (by kernel_rfl) ?_ ?_
  · refine sc (fun _ _ _ _ s _ => px (or_field fo32_0 (s.1.trans e27_5) (by rfl))) ?_
    refine sc (fun _ _ _ f _ hE => px (or_load1 to3 f.1 (Blk.at_ (be_ hE b27_g25).2 0 rfl))) ?_
    refine sc (fun _ _ _ _ s _ => px (or_field fo32_0 (s.1.trans e27_3) (by rfl))) ?_
    refine sc (fun _ _ _ f _ hE => px (or_load1 to3 f.1 (Blk.at_ (be_ hE b27_g21).2 0 rfl))) ?_
    refine sc (fun _ _ _ _ s _ => px (or_field fo32_0 (s.1.trans e27_4) (by rfl))) ?_
    refine sc (fun _ _ _ f _ hE => px (or_load1 to3 f.1 (Blk.at_ (be_ hE b27_g23).2 0 rfl))) ?_
    refine sc (fun _ _ _ f _ _ => px (or_min f.1 f.2.1)) ?_
    refine sc (fun _ _ _ _ s _ => px (or_field fo32_0 (s.1.trans e27_3) (by rfl))) ?_
    refine sc (fun _ _ _ f _ hE => px (or_load1 to3 f.1 (Blk.at_ (be_ hE b27_g21).2 0 rfl))) ?_
    refine sc (fun _ _ _ _ s _ => px (or_field fo32_0 (s.1.trans e27_4) (by rfl))) ?_
    refine sc (fun _ _ _ f _ hE => px (or_load1 to3 f.1 (Blk.at_ (be_ hE b27_g23).2 0 rfl))) ?_
    refine sc (fun _ _ _ f _ _ => px (or_max f.1 f.2.1)) ?_
    refine sc (fun _ _ _ f _ _ => px (or_call cf54 (args3 f.1 f.2.1 f.2.2.1) (exact_within_w _ p3.1 (mn x1.1 b2.1) (mx x1.1 b2.1)  r28 hr28) post_val)) ?_
    refine sc (fun _ _ _ f _ _ => px (or_move f.1)) ?_
    refine sc (fun _ _ _ f s _ => sg_t rfl rfl rfl f.1 (fun hg => or_field fo32_1 (s.1.trans e27_5) (by rfl))) ?_
    refine sc (fun _ _ _ f _ hE => sg_t rfl rfl rfl f.1 (fun hg => or_load1 to3 (f.2.1.1 hg) (Blk.at_ (be_ hE b27_g25).2 1 rfl))) ?_
    refine sc (fun _ _ _ f s _ => sg_t rfl rfl rfl f.1 (fun hg => or_field fo32_1 (s.1.trans e27_3) (by rfl))) ?_
    refine sc (fun _ _ _ f _ hE => sg_t rfl rfl rfl f.1 (fun hg => or_load1 to3 (f.2.1.1 hg) (Blk.at_ (be_ hE b27_g21).2 1 rfl))) ?_
    refine sc (fun _ _ _ f s _ => sg_t rfl rfl rfl f.1 (fun hg => or_field fo32_1 (s.1.trans e27_4) (by rfl))) ?_
    refine sc (fun _ _ _ f _ hE => sg_t rfl rfl rfl f.1 (fun hg => or_load1 to3 (f.2.1.1 hg) (Blk.at_ (be_ hE b27_g23).2 1 rfl))) ?_
    refine sc (fun _ _ _ f _ _ => sg_t rfl rfl rfl f.1 (fun hg => or_min (f.2.1.1 hg) (f.2.2.1.1 hg))) ?_
    refine sc (fun _ _ _ f s _ => sg_t rfl rfl rfl f.1 (fun hg => or_field fo32_1 (s.1.trans e27_3) (by rfl))) ?_
    refine sc (fun _ _ _ f _ hE => sg_t rfl rfl rfl f.1 (fun hg => or_load1 to3 (f.2.1.1 hg) (Blk.at_ (be_ hE b27_g21).2 1 rfl))) ?_
    refine sc (fun _ _ _ f s _ => sg_t rfl rfl rfl f.1 (fun hg => or_field fo32_1 (s.1.trans e27_4) (by rfl))) ?_
    refine sc (fun _ _ _ f _ hE => sg_t rfl rfl rfl f.1 (fun hg => or_load1 to3 (f.2.1.1 hg) (Blk.at_ (be_ hE b27_g23).2 1 rfl))) ?_
    refine sc (fun _ _ _ f _ _ => sg_t rfl rfl rfl f.1 (fun hg => or_max (f.2.1.1 hg) (f.2.2.1.1 hg))) ?_
    refine sc (fun _ _ _ f _ _ => sg_t rfl rfl rfl f.1 (fun hg => or_call cf54 (args3 (f.2.1.1 hg) (f.2.2.1.1 hg) (f.2.2.2.1.1 hg)) (exact_within_w _ p3.2 (mn x1.2 b2.2) (mx x1.2 b2.2)  r29 (gd_t hr29 hg)) post_val)) ?_
    refine sc (fun _ _ _ f _ _ => px (or_and f.1 (fun hx => f.2.1.1 hx) rfl rfl)) ?_
    refine sc (fun _ _ _ f _ _ => px (or_assign f.1)) ?_
    exact steps_nil
  intro own30 a30 w30 hd30 hz30 hk30 hf30 hE30
  obtain ⟨(e30_6 : a30.eval (.tmp 6) = .bool (r28 && r29)), -⟩ := hf30 [28] rfl
  have hX30 := es_ hX27 hE30
  refine fl_ret ?_
  obtain rfl := osome hs
  exact hret _ _ _ _ (.inl rfl) hd30 (results1_ rfl (RVal.tmp_ e30_6)) ⟨own30, rfl, hX30⟩
theorem exact_On_w (w : World) (x1 : Int × Int) (b2 : Int × Int) (p3 : Int × Int) (r : Bool) (hs : exact_On x1 b2 p3 = some r) :
    Calls Try.prog 39 #[.agg #[.int .i64 x1.1, .int .i64 x1.2], .agg #[.int .i64 b2.1, .int .i64 b2.2], .agg #[.int .i64 p3.1, .int .i64 p3.2]] w fun e w' => ∃ own' : Own, e = .returned (.bool r) ∧ Evo [] (fun _ => 0) own' w w' := by
  refine fl_enter (n := 25) rfl rfl rfl (Nat.le_of_ble_eq_true rfl) ?_
  intro a0 Q hd0 hz0 harg hret
  have ha0 := harg 0 _ rfl
  have ha1 := harg 1 _ rfl
  have ha2 := harg 2 _ rfl
  clear harg
  have hE0 : Evo [] (fun _ => 0) (fun _ => 0) w w := Evo.refl _ _ _
  refine rg0_seq 25 (fun _ => 0) [0, 0, 0, 0] [⟨[], [0], [], Fct.blk 25 3 (fun g => .pointer (some ⟨g, 0, none⟩)) 32 #[.int .i64 x1.1, .int .i64 x1.2]⟩, ⟨[], [1], [], Fct.blk 27 4 (fun g => .pointer (some ⟨g, 0, none⟩)) 32 #[.int .i64 b2.1, .int .i64 b2.2]⟩, ⟨[], [2], [], Fct.blk 29 5 (fun g => .pointer (some ⟨g, 0, none⟩)) 32 #[.int .i64 p3.1, .int .i64 p3.2]⟩, ⟨[], [], [], Fct.val 6 (.bool false)⟩] hz0 hd0 (by kernel_rfl) ?_ ?_
  · refine sc (fun _ _ _ _ s _ => px (or_new [(0, .agg #[.int .i64 x1.1, .int .i64 x1.2])] rfl rfl ⟨(s.1.trans ha0), trivial⟩ (by kernel_rfl))) ?_
    refine sc (fun _ _ _ _ s _ => px (or_new [(1, .agg #[.int .i64 b2.1, .int .i64 b2.2])] rfl rfl ⟨(s.1.trans ha1), trivial⟩ (by kernel_rfl))) ?_
    refine sc (fun _ _ _ _ s _ => px (or_new [(2, .agg #[.int .i64 p3.1, .int .i64 p3.2])] rfl rfl ⟨(s.1.trans ha2), trivial⟩ (by kernel_rfl))) ?_
    refine sc (fun _ _ _ _ _ _ => px (or_assign rfl)) ?_
    exact steps_nil
  intro own30 a30 w30 hd30 hz30 hk30 hf30 hE30
  obtain ⟨⟨g24, (e30_3 : a30.eval (.tmp 3) = .pointer (some ⟨g24, 0, none⟩)), (b30_g24 : BlkO own30 25 w30 g24 32 #[.int .i64 x1.1, .int .i64 x1.2])⟩, ⟨g26, (e30_4 : a30.eval (.tmp 4) = .pointer (some ⟨g26, 0, none⟩)), (b30_g26 : BlkO own30 27 w30 g26 32 #[.int .i64 b2.1, .int .i64 b2.2])⟩, ⟨g28, (e30_5 : a30.eval (.tmp 5) = .pointer (some ⟨g28, 0, none⟩)), (b30_g28 : BlkO own30 29 w30 g28 32 #[.int .i64 p3.1, .int .i64 p3.2])⟩, -⟩ := hf30 [0, 1, 2] rfl
  have hX30 := es_ hE0 hE30
  obtain ⟨r33, hr33, hs⟩ := obind hs
  obtain ⟨r34, hr34, hs⟩ := obind hs
  obtain ⟨r35, hr35, hs⟩ := obind hs
  refine rg0_seq 25 own30 [0, 0, 0, 7, 15, 31, 63, 63, 63, 511, 1023, 2047, 4095, 8191, 8191, 8191, 65535, 131071, 262143] [⟨[], [3], [], Fct.val 7 (.agg #[.int .i64 x1.1, .int .i64 x1.2])⟩, ⟨[], [4], [], Fct.val 8 (.agg #[.int .i64 b2.1, .int .i64 b2.2])⟩, ⟨[], [5], [], Fct.val 9 (.agg #[.int .i64 p3.1, .int .i64 p3.2])⟩, ⟨[0, 1, 2], [], [], Fct.row 32 [] 10 32 R32 [x1, b2, p3]⟩, ⟨[3], [], [], Fct.val 11 (.bool r33)⟩, ⟨[4], [], [], Fct.val 12 (.bool r33)⟩, ⟨[5], [3], [], Fct.cond r33 (some 13) (Fct.val 13 (.agg #[.int .i64 x1.1, .int .i64 x1.2]))⟩, ⟨[5], [4], [], Fct.cond r33 (some 14) (Fct.val 14 (.agg #[.int .i64 b2.1, .int .i64 b2.2]))⟩, ⟨[5], [5], [], Fct.cond r33 (some 15) (Fct.val 15 (.agg #[.int .i64 p3.1, .int .i64 p3.2]))⟩, ⟨[5, 6, 7, 8], [], [], Fct.cond r33 (some 16) (Fct.val 16 (.int .i64 r34))⟩, ⟨[5, 9], [], [], Fct.cond r33 (some 17) (Fct.val 17 (.bool (decide (r34 = 0))))⟩, ⟨[5, 10], [], [], Fct.val 18 (.bool (r33 && (decide (r34 = 0))))⟩, ⟨[11], [], [], Fct.val 19 (.bool (r33 && (decide (r34 = 0))))⟩, ⟨[12], [3], [], Fct.cond (r33 && (decide (r34 = 0))) (some 20) (Fct.val 20 (.agg #[.int .i64 x1.1, .int .i64 x1.2]))⟩, ⟨[12], [4], [], Fct.cond (r33 && (decide (r34 = 0))) (some 21) (Fct.val 21 (.agg #[.int .i64 b2.1, .int .i64 b2.2]))⟩, ⟨[12], [5], [], Fct.cond (r33 && (decide (r34 = 0))) (some 22) (Fct.val 22 (.agg #[.int .i64 p3.1, .int .i64 p3.2]))⟩, ⟨[12, 13, 14, 15], [], [], Fct.cond (r33 && (decide (r34 = 0))) (some 23) (Fct.val 23 (.bool r35))⟩, ⟨[12, 16], [], [], Fct.val 24 (.bool ((r33 && (decide (r34 = 0))) && r35))⟩, ⟨[17], [], [], Fct.val 6 (.bool ((r33 && (decide (r34 = 0))) && r35))⟩] hz30 hd30 (by kernel_rfl) ?_ ?_
  · refine sc (fun _ _ _ _ s hE => px (or_load (l := [.int .i64 x1.1, .int .i64 x1.2]) ta32 (s.1.trans e30_3) (Blk.cellsFrom (be_ hE b30_g24).2 0 rfl) rfl)) ?_
    refine sc (fun _ _ _ _ s hE => px (or_load (l := [.int .i64 b2.1, .int .i64 b2.2]) ta32 (s.1.trans e30_4) (Blk.cellsFrom (be_ hE b30_g26).2 0 rfl) rfl)) ?_
    refine sc (fun _ _ _ _ s hE => px (or_load (l := [.int .i64 p3.1, .int .i64 p3.2]) ta32 (s.1.trans e30_5) (Blk.cellsFrom (be_ hE b30_g28).2 0 rfl) rfl)) ?_
    refine sc (fun _ _ _ f _ _ => px (or_lit (lab := 32) (e := 32) (cs := #[.int .i64 x1.1, .int .i64 x1.2, .int .i64 b2.1, .int .i64 b2.2, .int .i64 p3.1, .int .i64 p3.2]) (F := E32) (or_new [(7, .agg #[.int .i64 x1.1, .int .i64 x1.2]), (8, .agg #[.int .i64 b2.1, .int .i64 b2.2]), (9, .agg #[.int .i64 p3.1, .int .i64 p3.2])] rfl rfl ⟨f.1, f.2.1, f.2.2.1, trivial⟩ (by kernel_rfl)) rfl rfl (show 3 ≤ maxLen by decide))) ?_
    refine sc (fun own a wx hf hsl hE => ?_) ?_
    · obtain ⟨⟨⟨A31, cA31⟩, f_10, b_A31⟩, -⟩ := hf
      exact px (or_call cf33 (args1 f_10) (exact_Right_w _ [x1, b2, p3] A31 cA31 (RdO.zero (RwO.rd b_A31)) r33 hr33) post_val)
    refine sc (fun _ _ _ f _ _ => px (or_move f.1)) ?_
    refine sc (fun _ _ _ f s hE => sg_t rfl rfl rfl f.1 (fun hg => or_load (l := [.int .i64 x1.1, .int .i64 x1.2]) ta32 (s.1.trans e30_3) (Blk.cellsFrom (be_ hE b30_g24).2 0 rfl) rfl)) ?_
    refine sc (fun _ _ _ f s hE => sg_t rfl rfl rfl f.1 (fun hg => or_load (l := [.int .i64 b2.1, .int .i64 b2.2]) ta32 (s.1.trans e30_4) (Blk.cellsFrom (be_ hE b30_g26).2 0 rfl) rfl)) ?_
    refine sc (fun _ _ _ f s hE => sg_t rfl rfl rfl f.1 (fun hg => or_load (l := [.int .i64 p3.1, .int .i64 p3.2]) ta32 (s.1.trans e30_5) (Blk.cellsFrom (be_ hE b30_g28).2 0 rfl) rfl)) ?_
    refine sc (fun _ _ _ f _ _ => sg_t rfl rfl rfl f.1 (fun hg => or_call cf38 (args3 (f.2.1.1 hg) (f.2.2.1.1 hg) (f.2.2.2.1.1 hg)) (exact_Turn_w _ x1 b2 p3  r34 (gd_t hr34 hg)) post_val)) ?_
    refine sc (fun _ _ _ f _ _ => sg_t rfl rfl rfl f.1 (fun hg => or_eql (f.2.1.1 hg) rfl rfl)) ?_
    refine sc (fun _ _ _ f _ _ => px (or_and f.1 (fun hx => f.2.1.1 hx) rfl rfl)) ?_
    refine sc (fun _ _ _ f _ _ => px (or_move f.1)) ?_
    refine sc (fun _ _ _ f s hE => sg_t rfl rfl rfl f.1 (fun hg => or_load (l := [.int .i64 x1.1, .int .i64 x1.2]) ta32 (s.1.trans e30_3) (Blk.cellsFrom (be_ hE b30_g24).2 0 rfl) rfl)) ?_
    refine sc (fun _ _ _ f s hE => sg_t rfl rfl rfl f.1 (fun hg => or_load (l := [.int .i64 b2.1, .int .i64 b2.2]) ta32 (s.1.trans e30_4) (Blk.cellsFrom (be_ hE b30_g26).2 0 rfl) rfl)) ?_
    refine sc (fun _ _ _ f s hE => sg_t rfl rfl rfl f.1 (fun hg => or_load (l := [.int .i64 p3.1, .int .i64 p3.2]) ta32 (s.1.trans e30_5) (Blk.cellsFrom (be_ hE b30_g28).2 0 rfl) rfl)) ?_
    refine sc (fun _ _ _ f _ _ => sg_t rfl rfl rfl f.1 (fun hg => or_call cf60 (args3 (f.2.1.1 hg) (f.2.2.1.1 hg) (f.2.2.2.1.1 hg)) (exact_between_w _ x1 b2 p3  r35 (gd_t hr35 hg)) post_val)) ?_
    refine sc (fun _ _ _ f _ _ => px (or_and f.1 (fun hx => f.2.1.1 hx) rfl rfl)) ?_
    refine sc (fun _ _ _ f _ _ => px (or_assign f.1)) ?_
    exact steps_nil
  intro own36 a36 w36 hd36 hz36 hk36 hf36 hE36
  obtain ⟨(e36_6 : a36.eval (.tmp 6) = .bool ((r33 && (decide (r34 = 0))) && r35)), -⟩ := hf36 [18] rfl
  have hX36 := es_ hX30 hE36
  refine fl_ret ?_
  obtain rfl := osome hs
  exact hret _ _ _ _ (.inl rfl) hd36 (results1_ rfl (RVal.tmp_ e36_6)) ⟨own36, rfl, hX36⟩
theorem ring_Winding_w (w : World) (l1 : List (Int × Int)) (Al1 : Option Addr) (cl1 : Nat) (p2 : Int × Int) (hl1 : RdO (fun _ => 0) [0] w R32 Al1 cl1 l1) (r : Int × Bool) (hs : ring_Winding l1 p2 = some r) :
    Calls Try.prog 16 #[.slice Al1 l1.length cl1, .agg #[.int .i64 p2.1, .int .i64 p2.2]] w fun e w' => ∃ own' : Own, e = .returned (.tuple #[.int .i64 r.1, .bool r.2]) ∧ Evo [] (fun _ => 0) own' w w' := by
  refine fl_enterM (n := 71) (kD := 11) (by decide) rfl rfl rfl (Nat.le_of_ble_eq_true rfl) ?_
  intro a0 Q hd0 hz0 harg hret
  have ha0 := harg 0 _ rfl
  have ha1 := harg 1 _ rfl
  clear harg
  have hE0 : Evo [] (fun _ => 0) (fun _ => 0) w w := Evo.refl _ _ _
  have hmk0 : MkO (fun _ => 0) 11 w [] := MkO.nil_
  refine rg0_seq 71 (fun _ => 0) [0, 0, 0] [⟨[], [1], [], Fct.blk 334 3 (fun g => .pointer (some ⟨g, 0, none⟩)) 32 #[.int .i64 p2.1, .int .i64 p2.2]⟩, ⟨[], [], [], Fct.blk 336 4 (fun g => .pointer (some ⟨g, 0, none⟩)) 3 #[.int .i64 0]⟩, ⟨[], [], [], Fct.blk 338 5 (fun g => .pointer (some ⟨g, 0, none⟩)) 4 #[.bool false]⟩] hz0 hd0 (by kernel_rfl) ?_ ?_
  · refine sc (fun _ _ _ _ s _ => px (or_new [(1, .agg #[.int .i64 p2.1, .int .i64 p2.2])] rfl rfl ⟨(s.1.trans ha1), trivial⟩ (by kernel_rfl))) ?_
    refine sc (fun _ _ _ _ _ _ => px (or_new [] rfl rfl trivial (by kernel_rfl))) ?_
    refine sc (fun _ _ _ _ _ _ => px (or_new [] rfl rfl trivial (by kernel_rfl))) ?_
    exact steps_nil
  intro own339 a339 w339 hd339 hz339 hk339 hf339 hE339
  have e339_0 := (hk339 0 rfl).trans ha0
  obtain ⟨⟨g333, (e339_3 : a339.eval (.tmp 3) = .pointer (some ⟨g333, 0, none⟩)), (b339_g333 : BlkO own339 334 w339 g333 32 #[.int .i64 p2.1, .int .i64 p2.2])⟩, ⟨g335, (e339_4 : a339.eval (.tmp 4) = .pointer (some ⟨g335, 0, none⟩)), (b339_g335 : BlkO own339 336 w339 g335 3 #[.int .i64 0])⟩, ⟨g337, (e339_5 : a339.eval (.tmp 5) = .pointer (some ⟨g337, 0, none⟩)), (b339_g337 : BlkO own339 338 w339 g337 4 #[.bool false])⟩, -⟩ := hf339 [0, 1, 2] rfl
  have hX339 := es_ hE0 hE339
  have b339_Al1 := RdO.evo rfl hE339 hl1
  have b339_mk := MkO.evo (by decide) hE339 hmk0
  refine fl_seq (fun Q340 hn340 hp340 => ?_)
  obtain ⟨r343, hr343, hs⟩ := obind hs
  obtain ⟨r344, hr344, hs⟩ := obind hs
  refine rg0_seq 71 own339 (bz 9) [⟨[], [3], [], Fct.val 10 (.agg #[.int .i64 p2.1, .int .i64 p2.2])⟩, ⟨[0], [], [], Fct.row 342 [] 11 32 R32 [p2]⟩, ⟨[1], [], [], Fct.val 12 (.bool r343)⟩, ⟨[2], [], [], Fct.val 13 (.bool (!r343))⟩, ⟨[3], [], [], Fct.val 14 (.bool (!r343))⟩, ⟨[4], [0], [], Fct.cond (!(!r343)) (some 15) (Fct.val 15 (.slice Al1 l1.length cl1))⟩, ⟨[4, 5], [], [], Fct.cond (!(!r343)) (some 16) (Fct.val 16 (.bool r344))⟩, ⟨[4, 6], [], [], Fct.cond (!(!r343)) (some 17) (Fct.val 17 (.bool (!r344)))⟩, ⟨[4, 7], [], [], Fct.val 18 (.bool ((!r343) || (!r344)))⟩] hz339 hd339 (by kernel_rfl) ?_ ?_
  · refine sc (fun _ _ _ _ s hE => px (or_load (l := [.int .i64 p2.1, .int .i64 p2.2]) ta32 (s.1.trans e339_3) (Blk.cellsFrom (be_ hE b339_g333).2 0 rfl) rfl)) ?_
    refine sc (fun _ _ _ f _ _ => px (or_lit (lab := 342) (e := 32) (cs := #[.int .i64 p2.1, .int .i64 p2.2]) (F := E32) (or_new [(10, .agg #[.int .i64 p2.1, .int .i64 p2.2])] rfl rfl ⟨f.1, trivial⟩ (by kernel_rfl)) rfl rfl (show 1 ≤ maxLen by decide))) ?_
    refine sc (fun own a wx hf hsl hE => ?_) ?_
    · obtain ⟨⟨⟨A341, cA341⟩, f_11, b_A341⟩, -⟩ := hf
      exact px (or_call cf33 (args1 f_11) (exact_Right_w _ [p2] A341 cA341 (RdO.zero (RwO.rd b_A341)) r343 hr343) post_val)
    refine sc (fun _ _ _ f _ _ => px (or_not f.1 rfl)) ?_
    refine sc (fun _ _ _ f _ _ => px (or_move f.1)) ?_
    refine sc (fun _ _ _ f s _ => sg_f rfl rfl rfl f.1 (fun hg => or_move (s.1.trans e339_0))) ?_
    refine sc (fun _ _ _ f _ hE => sg_f rfl rfl rfl f.1 (fun hg => or_call cf33 (args1 (f.2.1.1 hg)) (exact_Right_w _ l1 Al1 cl1 (RdO.zero (RdO.evo rfl hE b339_Al1)) r344 (gd_t hr344 hg)) post_val)) ?_
    refine sc (fun _ _ _ f _ _ => sg_f rfl rfl rfl f.1 (fun hg => or_not (f.2.1.1 hg) rfl)) ?_
    refine sc (fun _ _ _ f _ _ => px (or_or f.1 rfl (fun hx => f.2.1.1 hx) rfl)) ?_
    exact steps_nil
  intro own345 a345 w345 hd345 hz345 hk345 hf345 hE345
  have e345_0 := (hk345 0 rfl).trans e339_0
  have e345_3 := (hk345 3 rfl).trans e339_3
  have e345_4 := (hk345 4 rfl).trans e339_4
  have e345_5 := (hk345 5 rfl).trans e339_5
  obtain ⟨(e345_18 : a345.eval (.tmp 18) = .bool ((!r343) || (!r344))), -⟩ := hf345 [8] rfl
  have hX345 := es_ hX339 hE345
  have b345_Al1 := RdO.evo rfl hE345 b339_Al1
  have b345_mk := MkO.evo (by decide) hE345 b339_mk
  have b345_g333 := be_ hE345 b339_g333
  have b345_g335 := be_ hE345 b339_g335
  have b345_g337 := be_ hE345 b339_g337
  refine fl_cond e345_18 hs (fun c346 hs => ?_) (fun c346 hs => ?_)
  · refine rg_plain_seq (n := 71) (rs := [Fct.at_ 336 g335 3 #[.int .i64 0], Fct.at_ 338 g337 4 #[.bool false]]) (own0 := own345) (K := [336, 338]) (bs := (bz 2)) (ds := [⟨[2], [4], [336], Fct.at_ 348 g335 3 #[.int .i64 0]⟩, ⟨[3], [5], [338], Fct.at_ 349 g337 4 #[.bool false]⟩]) (by kernel_rfl) hz345 hd345 (by simp only [List.forall_mem_cons]; exact ⟨b345_g335, b345_g337, fun _ h => nomatch h⟩) ?_ ?_
    · refine sc (fun own a wx hf hsl hE => ?_) ?_
      · obtain ⟨b_g335, -⟩ := hf
        obtain ⟨s_4, -⟩ := hsl
        exact px (or_store1 (lab := 336) (lab2 := 348) ts3 (s_4.trans e345_4) rfl b_g335 (by simp) rfl (mem_of rfl) (by decide) rfl (fun own' a' w' ha hb => hb))
      refine sc (fun own a wx hf hsl hE => ?_) ?_
      · obtain ⟨b_g337, -⟩ := hf
        obtain ⟨s_5, -⟩ := hsl
        exact px (or_store1 (lab := 338) (lab2 := 349) ts4 (s_5.trans e345_5) rfl b_g337 (by simp) rfl (mem_of rfl) (by decide) rfl (fun own' a' w' ha hb => hb))
      exact steps_nil
    intro own350 a350 w350 hd350 hz350 hk350 hf350 hE350
    have e350_4 := (hk350 4 rfl).trans e345_4
    have e350_5 := (hk350 5 rfl).trans e345_5
    obtain ⟨(b350_g335 : BlkO own350 348 w350 g335 3 #[.int .i64 0]), (b350_g337 : BlkO own350 349 w350 g337 4 #[.bool false]), -⟩ := hf350 [0, 1] rfl
    have hX350 := es_ hX345 hE350
    have b350_mk := MkO.evo (by decide) hE350 b345_mk
    refine fl_ret ?_
    refine hp340 _ _ _ rfl ?_
    refine hret _ _ _ _ _ (.inl rfl) hd350 b350_mk (fun own351 w351 hE351 => ?_)
    have hX352 := es_ hX350 hE351
    have b352_g335 := be_ hE351 b350_g335
    have b352_g337 := be_ hE351 b350_g337
    obtain rfl := osome hs
    exact ⟨_, results2_ rfl (RVal.cell_ e350_4 (run_loadVarOne to3 (Blk.at_ b352_g335.2 0 rfl))) (RVal.cell_ e350_5 (run_loadVarOne to4 (Blk.at_ b352_g337.2 0 rfl))), ⟨own351, rfl, hX352⟩⟩
  refine fl_skip ?_
  refine hn340 _ _ ?_
  refine rg_plain_seq (n := 71) (rs := []) (own0 := own345) (K := [354]) (bs := (bz 2)) (ds := [⟨[], [], [], Fct.blk 354 6 (fun g => .pointer (some ⟨g, 0, none⟩)) 3 #[.int .i64 0]⟩, ⟨[0], [], [354], Fct.blk 355 6 (fun g => .pointer (some ⟨g, 0, none⟩)) 3 #[.int .i64 0]⟩]) (by kernel_rfl) hz345 hd345 nm_ ?_ ?_
  · refine sc (fun _ _ _ _ _ _ => px (or_new [] rfl rfl trivial (by kernel_rfl))) ?_
    refine sc (fun own a wx hf hsl hE => ?_) ?_
    · obtain ⟨⟨g353, f_6, b_g353⟩, -⟩ := hf
      exact px (or_store1 (lab := 354) (lab2 := 355) ts3 f_6 rfl b_g353 (by simp) rfl (mem_of rfl) (by decide) rfl (fun own' a' w' ha hb => ⟨_, (ha 6).trans f_6, hb⟩))
    exact steps_nil
  intro own356 a356 w356 hd356 hz356 hk356 hf356 hE356
  have e356_0 := (hk356 0 rfl).trans e345_0
  have e356_3 := (hk356 3 rfl).trans e345_3
  have e356_4 := (hk356 4 rfl).trans e345_4
  have e356_5 := (hk356 5 rfl).trans e345_5
  obtain ⟨⟨g353, (e356_6 : a356.eval (.tmp 6) = .pointer (some ⟨g353, 0, none⟩)), (b356_g353 : BlkO own356 355 w356 g353 3 #[.int .i64 0])⟩, -⟩ := hf356 [1] rfl
  have hX356 := es_ hX345 hE356
  have b356_Al1 := RdO.evo rfl hE356 b345_Al1
  have b356_mk := MkO.evo (by decide) hE356 b345_mk
  have b356_g333 := be_ hE356 b345_g333
  have b356_g335 := be_ hE356 b345_g335
  have b356_g337 := be_ hE356 b345_g337
  refine fl_seq (fun Q357 hn357 hp357 => ?_)
  refine rg0_seq 71 own356 (bz 2) [⟨[], [0], [], Fct.val 19 (.slice Al1 l1.length cl1)⟩, ⟨[0], [], [], Fct.mems [359] 20 (fun (x : Option Addr × Nat) => .func (.func 55) #[] #[.pointer (some ⟨x.2, 0, none⟩)]) (fun (x : Option Addr × Nat) own w => BlkO own 359 w x.2 22 #[.slice Al1 l1.length cl1]) (fun hk he h => BlkO.evo (not_hit hk (by decide)) he h)⟩] hz356 hd356 (by kernel_rfl) ?_ ?_
  · refine sc (fun _ _ _ _ s _ => px (or_move (s.1.trans e356_0))) ?_
    refine sc (fun _ _ _ f _ hE => px (or_call cf34 (args1 f.1) (ring_edges_w _ l1 Al1 cl1 (RdO.zero (RdO.evo rfl hE b356_Al1)) () rfl) (post_mems (m := (fun _ => 0)) (m' := (look0 [(1, 359)])) (fun _ _ => .inl rfl) (fun own' w' a' x h1 h => ⟨x, h1, BlkO.back_ h (by decide)⟩)))) ?_
    exact steps_nil
  intro own360 a360 w360 hd360 hz360 hk360 hf360 hE360
  have e360_3 := (hk360 3 rfl).trans e356_3
  have e360_4 := (hk360 4 rfl).trans e356_4
  have e360_5 := (hk360 5 rfl).trans e356_5
  have e360_6 := (hk360 6 rfl).trans e356_6
  obtain ⟨⟨⟨A358, cA358⟩, (e360_20 : a360.eval (.tmp 20) = .func (.func 55) #[] #[.pointer (some ⟨cA358, 0, none⟩)]), (b360_cA358 : BlkO own360 359 w360 cA358 22 #[.slice Al1 l1.length cl1])⟩, -⟩ := hf360 [1] rfl
  have hX360 := es_ hX356 hE360
  have b360_Al1 := RdO.evo rfl hE360 b356_Al1
  have b360_mk := MkO.evo (by decide) hE360 b356_mk
  have b360_g333 := be_ hE360 b356_g333
  have b360_g335 := be_ hE360 b356_g335
  have b360_g337 := be_ hE360 b356_g337
  have b360_g353 := be_ hE360 b356_g353
  refine fl_block (fun Q361 hn361 hx361 hp361 => ?_)
  obtain ⟨zz552, hzz552, hs⟩ := rngO_some hs
  refine fl_range (S := Int) (D := Unit) (X := (Int × Int) × (Int × Int)) (encs := (fun (x : (Int × Int) × (Int × Int)) => #[.agg #[.int .i64 x.1.1, .int .i64 x.1.2], .agg #[.int .i64 x.2.1, .int .i64 x.2.2]])) (n := 71) [336, 338, 355, 559, 563, 629, 637, 638, 643, 648] 553 11 rfl
      (fun (n457 : Int) (ox : Own) (wx : World) => Evo [] (fun _ => 0) ox w wx ∧ BlkO ox 334 wx g333 32 #[.int .i64 p2.1, .int .i64 p2.2] ∧ BlkO ox 336 wx g335 3 #[.int .i64 0] ∧ BlkO ox 338 wx g337 4 #[.bool false] ∧ BlkO ox 355 wx g353 3 #[.int .i64 n457] ∧ BlkO ox 359 wx cA358 22 #[.slice Al1 l1.length cl1] ∧ RdO ox [0] wx R32 Al1 cl1 l1)
      (fun (_ : Unit) (ox : Own) (wx : World) => Evo [] (fun _ => 0) ox w wx ∧ BlkO ox 539 wx g335 3 #[.int .i64 0] ∧ BlkO ox 540 wx g337 4 #[.bool false])
      (fun _ => Code.ret) (fun (sr : Int) (xr : (Int × Int) × (Int × Int)) => ring_Winding_b2 p2 sr xr) hz360 rfl e360_20 cf55 (cargs := fun l => #[.func (.yield l) #[] #[], .pointer (some ⟨cA358, 0, none⟩)]) (fun _ => by simp) (fun _ => rfl) hd360 b360_mk ?_ ?_ 0 zz552 ⟨hX360, b360_g333, b360_g335, b360_g337, b360_g353, b360_cA358, b360_Al1⟩ ?_ ?_ ?_ ?_
  · rintro n457 ox ox1 wx wx1 hEs ⟨h552_0, h552_1, h552_2, h552_3, h552_4, h552_5, h552_6⟩
    exact ⟨(es_ h552_0 hEs), (be_ hEs h552_1), (be_ hEs h552_2), (be_ hEs h552_3), (be_ hEs h552_4), (be_ hEs h552_5), (RdO.evo rfl hEs h552_6)⟩
  · rintro _ ox ox1 wx wx1 hEs ⟨h552_0, h552_1, h552_2⟩
    exact ⟨(es_ h552_0 hEs), (be_ hEs h552_1), (be_ hEs h552_2)⟩
  · intro l552 own1 w1 J552 hE1 hJ1 hR1
    exact (ring_edges_1_w w1 (forth own1 (look0 (kj 553 [336, 338, 355, 559, 563, 629, 637, 638, 643, 648]))) (Int ⊕ Unit) (yb (fun (sr : Int) (xr : (Int × Int) × (Int × Int)) => ring_Winding_b2 p2 sr xr)) J552 l552 (Sum.inl 0) l1 cA358 22 Al1 cl1 (look0_le rfl) hR1 hJ1 (BlkO.forth_ (be_ hE1 b360_cA358)) (RdO.forth0_ (RdO.evo rfl hE1 b360_Al1) rfl) zz552 hzz552).mono fun e wz ⟨oz, he, _, hJz⟩ => ⟨_, oz, he, hJz⟩
  · rintro l556 n457 x555 zz2 own556 a556 w556 Ds556 ⟨hE557, b557_g333, b557_g335, b557_g337, b557_g353, b557_cA358, b557_Al1⟩ - hrc556 hs ⟨hd556, hz556, hkp556, hpar556⟩ Q556 hn556
    have hs : ring_Winding_b2 p2 n457 x555 = some zz2 := hs
    replace hz556 := hz556.trans hz360
    have e556_3 : a556.eval (.tmp 3) = .pointer (some ⟨g333, 0, none⟩) := (hkp556 3 rfl).trans e360_3
    have e556_4 : a556.eval (.tmp 4) = .pointer (some ⟨g335, 0, none⟩) := (hkp556 4 rfl).trans e360_4
    have e556_5 : a556.eval (.tmp 5) = .pointer (some ⟨g337, 0, none⟩) := (hkp556 5 rfl).trans e360_5
    have e556_6 : a556.eval (.tmp 6) = .pointer (some ⟨g353, 0, none⟩) := (hkp556 6 rfl).trans e360_6
    have e556_20 : a556.eval (.tmp 20) = .func (.func 55) #[] #[.pointer (some ⟨cA358, 0, none⟩)] := (hkp556 20 rfl).trans e360_20
    have e556_21 : a556.eval (.tmp 21) = .agg #[.int .i64 x555.1.1, .int .i64 x555.1.2] := hpar556 0 21 _ rfl rfl
    have e556_22 : a556.eval (.tmp 22) = .agg #[.int .i64 x555.2.1, .int .i64 x555.2.2] := hpar556 1 22 _ rfl rfl
    have hE556 := Evo.refl [336, 338, 355, 559, 563, 629, 637, 638, 643, 648] own556 w556
    have hrc0_556 := hrc556
    refine rg_plain_seq (n := 71) (rs := []) (own0 := own556) (K := [559]) (bs := (bz 2)) (ds := [⟨[], [], [], Fct.blk 559 7 (fun g => .pointer (some ⟨g, 0, none⟩)) 32 #[.int .i64 0, .int .i64 0]⟩, ⟨[0], [21], [559], Fct.blk 560 7 (fun g => .pointer (some ⟨g, 0, none⟩)) 32 #[.int .i64 x555.1.1, .int .i64 x555.1.2]⟩]) (by kernel_rfl) hz556 hd556 nm_ ?_ ?_
    · refine sc (fun _ _ _ _ _ _ => px (or_new [] rfl rfl trivial (by kernel_rfl))) ?_
      refine sc (fun own a wx hf hsl hE => ?_) ?_
      · obtain ⟨⟨g558, f_7, b_g558⟩, -⟩ := hf
        obtain ⟨s_21, -⟩ := hsl
        exact px (or_store (l := #[.int .i64 x555.1.1, .int .i64 x555.1.2]) (lab := 559) (lab2 := 560) ts32 f_7 (s_21.trans e556_21) b_g558 (by simp) (by kernel_rfl) (mem_of rfl) (by decide) (by kernel_rfl) (fun own' a' w' ha hb => ⟨_, (ha 7).trans f_7, hb⟩))
      exact steps_nil
    intro own561 a561 w561 hd561 hz561 hk561 hf561 hE561
    have e561_3 := (hk561 3 rfl).trans e556_3
    have e561_4 := (hk561 4 rfl).trans e556_4
    have e561_5 := (hk561 5 rfl).trans e556_5
    have e561_6 := (hk561 6 rfl).trans e556_6
    have e561_20 := (hk561 20 rfl).trans e556_20
    have e561_22 := (hk561 22 rfl).trans e556_22
    obtain ⟨⟨g558, (e561_7 : a561.eval (.tmp 7) = .pointer (some ⟨g558, 0, none⟩)), (b561_g558 : BlkO own561 560 w561 g558 32 #[.int .i64 x555.1.1, .int .i64 x555.1.2])⟩, -⟩ := hf561 [1] rfl
    have hX561 := Evo.stepK hE556 hE561 rfl
    have b561_g333 := be_ hE561 b557_g333
    have b561_g335 := be_ hE561 b557_g335
    have b561_g337 := be_ hE561 b557_g337
    have b561_g353 := be_ hE561 b557_g353
    have b561_cA358 := be_ hE561 b557_cA358
    have b561_Al1 := RdO.evo rfl hE561 b557_Al1
    refine rg_plain (n := 71) (rs := []) (own0 := own561) (K := [563]) (bs := (bz 2)) (ds := [⟨[], [], [], Fct.blk 563 8 (fun g => .pointer (some ⟨g, 0, none⟩)) 32 #[.int .i64 0, .int .i64 0]⟩, ⟨[0], [22], [563], Fct.blk 564 8 (fun g => .pointer (some ⟨g, 0, none⟩)) 32 #[.int .i64 x555.2.1, .int .i64 x555.2.2]⟩]) (by kernel_rfl) hz561 hd561 nm_ ?_ ?_
    · refine sc (fun _ _ _ _ _ _ => px (or_new [] rfl rfl trivial (by kernel_rfl))) ?_
      refine sc (fun own a wx hf hsl hE => ?_) ?_
      · obtain ⟨⟨g562, f_8, b_g562⟩, -⟩ := hf
        obtain ⟨s_22, -⟩ := hsl
        exact px (or_store (l := #[.int .i64 x555.2.1, .int .i64 x555.2.2]) (lab := 563) (lab2 := 564) ts32 f_8 (s_22.trans e561_22) b_g562 (by simp) (by kernel_rfl) (mem_of rfl) (by decide) (by kernel_rfl) (fun own' a' w' ha hb => ⟨_, (ha 8).trans f_8, hb⟩))
      exact steps_nil
    intro own565 a565 w565 hd565 hz565 hk565 hf565 hE565
    have e565_3 := (hk565 3 rfl).trans e561_3
    have e565_4 := (hk565 4 rfl).trans e561_4
    have e565_5 := (hk565 5 rfl).trans e561_5
    have e565_6 := (hk565 6 rfl).trans e561_6
    have e565_7 := (hk565 7 rfl).trans e561_7
    have e565_20 := (hk565 20 rfl).trans e561_20
    obtain ⟨⟨g562, (e565_8 : a565.eval (.tmp 8) = .pointer (some ⟨g562, 0, none⟩)), (b565_g562 : BlkO own565 564 w565 g562 32 #[.int .i64 x555.2.1, .int .i64 x555.2.2])⟩, -⟩ := hf565 [1] rfl
    have hX565 := Evo.stepK hX561 hE565 rfl
    have b565_g333 := be_ hE565 b561_g333
    have b565_g335 := be_ hE565 b561_g335
    have b565_g337 := be_ hE565 b561_g337
    have b565_g353 := be_ hE565 b561_g353
    have b565_cA358 := be_ hE565 b561_cA358
    have b565_Al1 := RdO.evo rfl hE565 b561_Al1
    have b565_g558 := be_ hE565 b561_g558
    refine hn556 _ _ _ hX565 (fun w566 own566 hE566 hrc566 => ?_)
    have b566_g333 := be_ hE566 b565_g333
    have b566_g335 := be_ hE566 b565_g335
    have b566_g337 := be_ hE566 b565_g337
    have b566_g353 := be_ hE566 b565_g353
    have b566_cA358 := be_ hE566 b565_cA358
    have b566_Al1 := RdO.evo rfl hE566 b565_Al1
    have b566_g558 := be_ hE566 b565_g558
    have b566_g562 := be_ hE566 b565_g562
    have hU566 := es_ (es_ hE557 hX565) hE566
    have hX566 := Evo.refl [336, 338, 355, 559, 563, 629, 637, 638, 643, 648] own566 w566
    have hmk566 : MkO own566 11 w566 [] := MkO.nil_
    refine fl_block (fun Q567 hn567 hx567 hp567 => ?_)
    obtain ⟨r609, hr609, hs⟩ := obind hs
    refine rg0_seq 71 own566 [0, 0, 0, 7, 15] [⟨[], [7], [], Fct.val 23 (.agg #[.int .i64 x555.1.1, .int .i64 x555.1.2])⟩, ⟨[], [8], [], Fct.val 24 (.agg #[.int .i64 x555.2.1, .int .i64 x555.2.2])⟩, ⟨[], [3], [], Fct.val 25 (.agg #[.int .i64 p2.1, .int .i64 p2.2])⟩, ⟨[0, 1, 2], [], [], Fct.val 26 (.int .i64 r609)⟩, ⟨[3], [], [], Fct.val 9 (.int .i64 r609)⟩] hz565 hd565 (by kernel_rfl) ?_ ?_
    · refine sc (fun _ _ _ _ s hE => px (or_load (l := [.int .i64 x555.1.1, .int .i64 x555.1.2]) ta32 (s.1.trans e565_7) (Blk.cellsFrom (be_ hE b566_g558).2 0 rfl) rfl)) ?_
      refine sc (fun _ _ _ _ s hE => px (or_load (l := [.int .i64 x555.2.1, .int .i64 x555.2.2]) ta32 (s.1.trans e565_8) (Blk.cellsFrom (be_ hE b566_g562).2 0 rfl) rfl)) ?_
      refine sc (fun _ _ _ _ s hE => px (or_load (l := [.int .i64 p2.1, .int .i64 p2.2]) ta32 (s.1.trans e565_3) (Blk.cellsFrom (be_ hE b566_g333).2 0 rfl) rfl)) ?_
      refine sc (fun _ _ _ f _ _ => px (or_call cf38 (args3 f.1 f.2.1 f.2.2.1) (exact_Turn_w _ x555.1 x555.2 p2  r609 hr609) post_val)) ?_
      refine sc (fun _ _ _ f _ _ => px (or_assign f.1)) ?_
      exact steps_nil
    intro own610 a610 w610 hd610 hz610 hk610 hf610 hE610
    have e610_3 := (hk610 3 rfl).trans e565_3
    have e610_4 := (hk610 4 rfl).trans e565_4
    have e610_5 := (hk610 5 rfl).trans e565_5
    have e610_6 := (hk610 6 rfl).trans e565_6
    have e610_7 := (hk610 7 rfl).trans e565_7
    have e610_8 := (hk610 8 rfl).trans e565_8
    have e610_20 := (hk610 20 rfl).trans e565_20
    obtain ⟨(e610_9 : a610.eval (.tmp 9) = .int .i64 r609), -⟩ := hf610 [4] rfl
    have hX610 := Evo.stepK hX566 hE610 rfl
    have b610_g333 := be_ hE610 b566_g333
    have b610_g335 := be_ hE610 b566_g335
    have b610_g337 := be_ hE610 b566_g337
    have b610_g353 := be_ hE610 b566_g353
    have b610_cA358 := be_ hE610 b566_cA358
    have b610_Al1 := RdO.evo rfl hE610 b566_Al1
    have b610_g558 := be_ hE610 b566_g558
    have b610_g562 := be_ hE610 b566_g562
    have b610_rc := RcO.evo (by decide) hE610 hrc566
    have b610_mk := MkO.evo (by decide) hE610 hmk566
    refine fl_block (fun Q611 hn611 hx611 hp611 => ?_)
    have K631 : ∀ (a631 : Act) (w631 : World) (own631 : Own) (n630 : Int), a631.defers = mkD [] → a631.tmps.size = 71 → a631.eval (.tmp 3) = .pointer (some ⟨g333, 0, none⟩) → a631.eval (.tmp 4) = .pointer (some ⟨g335, 0, none⟩) → a631.eval (.tmp 5) = .pointer (some ⟨g337, 0, none⟩) → a631.eval (.tmp 6) = .pointer (some ⟨g353, 0, none⟩) → a631.eval (.tmp 20) = .func (.func 55) #[] #[.pointer (some ⟨cA358, 0, none⟩)] → Evo [336, 338, 355, 559, 563, 629, 637, 638, 643, 648] own566 own631 w566 w631 → BlkO own631 334 w631 g333 32 #[.int .i64 p2.1, .int .i64 p2.2] → BlkO own631 336 w631 g335 3 #[.int .i64 0] → BlkO own631 338 w631 g337 4 #[.bool false] → BlkO own631 629 w631 g353 3 #[.int .i64 n630] → BlkO own631 359 w631 cA358 22 #[.slice Al1 l1.length cl1] → RdO own631 [0] w631 R32 Al1 cl1 l1 → MkO own631 11 w631 [] → RcO own631 553 w631 l556 → ring_Winding_k1 n630 = some zz2 → (Q611 .normal a631 w631 ∧ Q611 (.exit 2) a631 w631) := by
      intro a631 w631 own631 n630 hd632 hz632 e632_3 e632_4 e632_5 e632_6 e632_20 hE632 b632_g333 b632_g335 b632_g337 b632_g353 b632_cA358 b632_Al1 b632_mk b632_rc hs
      refine and_both (hn611 _ _) (hx611 _ _) ?_
      refine hn567 _ _ ?_
      exact ⟨_, (rl [(629, 355)] own631), osome hs, (Evo.rlK hE632 rfl), (es_ hU566 (Evo.rlK hE632 rfl)), (BlkO.rl_ (mm := [(629, 355)]) b632_g333), (BlkO.rl_ (mm := [(629, 355)]) b632_g335), (BlkO.rl_ (mm := [(629, 355)]) b632_g337), (BlkO.rl_ (mm := [(629, 355)]) b632_g353), (BlkO.rl_ (mm := [(629, 355)]) b632_cA358), (RdO.rl_ (mm := [(629, 355)]) b632_Al1)⟩
    obtain ⟨r633, hr633, hs⟩ := obind hs
    refine rg0_seq 71 own610 [0, 0, 0, 7, 15] [⟨[], [7], [], Fct.val 28 (.agg #[.int .i64 x555.1.1, .int .i64 x555.1.2])⟩, ⟨[], [8], [], Fct.val 29 (.agg #[.int .i64 x555.2.1, .int .i64 x555.2.2])⟩, ⟨[], [3], [], Fct.val 30 (.agg #[.int .i64 p2.1, .int .i64 p2.2])⟩, ⟨[0, 1, 2], [], [], Fct.val 31 (.bool r633)⟩, ⟨[3], [], [], Fct.val 27 (.bool r633)⟩] hz610 hd610 (by kernel_rfl) ?_ ?_
    · refine sc (fun _ _ _ _ s hE => px (or_load (l := [.int .i64 x555.1.1, .int .i64 x555.1.2]) ta32 (s.1.trans e610_7) (Blk.cellsFrom (be_ hE b610_g558).2 0 rfl) rfl)) ?_
      refine sc (fun _ _ _ _ s hE => px (or_load (l := [.int .i64 x555.2.1, .int .i64 x555.2.2]) ta32 (s.1.trans e610_8) (Blk.cellsFrom (be_ hE b610_g562).2 0 rfl) rfl)) ?_
      refine sc (fun _ _ _ _ s hE => px (or_load (l := [.int .i64 p2.1, .int .i64 p2.2]) ta32 (s.1.trans e610_3) (Blk.cellsFrom (be_ hE b610_g333).2 0 rfl) rfl)) ?_
      refine sc (fun _ _ _ f _ _ => px (or_call cf39 (args3 f.1 f.2.1 f.2.2.1) (exact_On_w _ x555.1 x555.2 p2  r633 hr633) post_val)) ?_
      refine sc (fun _ _ _ f _ _ => px (or_assign f.1)) ?_
      exact steps_nil
    intro own634 a634 w634 hd634 hz634 hk634 hf634 hE634
    have e634_3 := (hk634 3 rfl).trans e610_3
    have e634_4 := (hk634 4 rfl).trans e610_4
    have e634_5 := (hk634 5 rfl).trans e610_5
    have e634_6 := (hk634 6 rfl).trans e610_6
    have e634_7 := (hk634 7 rfl).trans e610_7
    have e634_8 := (hk634 8 rfl).trans e610_8
    have e634_9 := (hk634 9 rfl).trans e610_9
    have e634_20 := (hk634 20 rfl).trans e610_20
    obtain ⟨(e634_27 : a634.eval (.tmp 27) = .bool r633), -⟩ := hf634 [4] rfl
    have hX634 := Evo.stepK hX610 hE634 rfl
    have b634_g333 := be_ hE634 b610_g333
    have b634_g335 := be_ hE634 b610_g335
    have b634_g337 := be_ hE634 b610_g337
    have b634_g353 := be_ hE634 b610_g353
    have b634_cA358 := be_ hE634 b610_cA358
    have b634_Al1 := RdO.evo rfl hE634 b610_Al1
    have b634_g558 := be_ hE634 b610_g558
    have b634_g562 := be_ hE634 b610_g562
    have b634_rc := RcO.evo (by decide) hE634 b610_rc
    have b634_mk := MkO.evo (by decide) hE634 b610_mk
    refine fl_cond e634_27 hs (fun c635 hs => ?_) (fun c635 hs => ?_)
    · refine rg_plain_seq (n := 71) (rs := [Fct.at_ 336 g335 3 #[.int .i64 0], Fct.at_ 338 g337 4 #[.bool false]]) (own0 := own634) (K := [336, 338]) (bs := (bz 2)) (ds := [⟨[2], [4], [336], Fct.at_ 637 g335 3 #[.int .i64 0]⟩, ⟨[3], [5], [338], Fct.at_ 638 g337 4 #[.bool false]⟩]) (by kernel_rfl) hz634 hd634 (by simp only [List.forall_mem_cons]; exact ⟨b634_g335, b634_g337, fun _ h => nomatch h⟩) ?_ ?_
      · refine sc (fun own a wx hf hsl hE => ?_) ?_
        · obtain ⟨b_g335, -⟩ := hf
          obtain ⟨s_4, -⟩ := hsl
          exact px (or_store1 (lab := 336) (lab2 := 637) ts3 (s_4.trans e634_4) rfl b_g335 (by simp) rfl (mem_of rfl) (by decide) rfl (fun own' a' w' ha hb => hb))
        refine sc (fun own a wx hf hsl hE => ?_) ?_
        · obtain ⟨b_g337, -⟩ := hf
          obtain ⟨s_5, -⟩ := hsl
          exact px (or_store1 (lab := 338) (lab2 := 638) ts4 (s_5.trans e634_5) rfl b_g337 (by simp) rfl (mem_of rfl) (by decide) rfl (fun own' a' w' ha hb => hb))
        exact steps_nil
      intro own639 a639 w639 hd639 hz639 hk639 hf639 hE639
      have e639_4 := (hk639 4 rfl).trans e634_4
      have e639_5 := (hk639 5 rfl).trans e634_5
      obtain ⟨(b639_g335 : BlkO own639 637 w639 g335 3 #[.int .i64 0]), (b639_g337 : BlkO own639 638 w639 g337 4 #[.bool false]), -⟩ := hf639 [0, 1] rfl
      have hX639 := Evo.stepK hX634 hE639 rfl
      have b639_rc := RcO.evo (by decide) hE639 b634_rc
      have b639_mk := MkO.evo (by decide) hE639 b634_mk
      refine fl_ret ?_
      refine hp611 _ _ _ rfl ?_
      refine hp567 _ _ _ rfl ?_
      exact ⟨_, (rl [(637, 539), (638, 540)] own639), osome hs, rfl, (Evo.rlK hX639 rfl), (es_ hU566 (Evo.rlK hX639 rfl)), (BlkO.rl_ (mm := [(637, 539), (638, 540)]) b639_g335), (BlkO.rl_ (mm := [(637, 539), (638, 540)]) b639_g337)⟩
    obtain ⟨x640, hx640, hs⟩ := obind hs
    refine rg0_seq 71 own634 [0, 1, 0, 4, 15, 31, 63, 127, 63, 319, 1023, 2047, 4095, 8191, 16383, 32767, 65535] [⟨[], [7], [], Fct.val 33 (.pointer (some ⟨g558, 1, none⟩))⟩, ⟨[0], [], [], Fct.val 34 (.int .i64 x555.1.2)⟩, ⟨[], [3], [], Fct.val 35 (.pointer (some ⟨g333, 1, none⟩))⟩, ⟨[2], [], [], Fct.val 36 (.int .i64 p2.2)⟩, ⟨[1, 3], [], [], Fct.val 37 (.bool (decide (x555.1.2 ≤ p2.2)))⟩, ⟨[4], [], [], Fct.val 38 (.bool (decide (x555.1.2 ≤ p2.2)))⟩, ⟨[5], [3], [], Fct.cond (decide (x555.1.2 ≤ p2.2)) (some 39) (Fct.val 39 (.pointer (some ⟨g333, 1, none⟩)))⟩, ⟨[5, 6], [], [], Fct.cond (decide (x555.1.2 ≤ p2.2)) (some 40) (Fct.val 40 (.int .i64 p2.2))⟩, ⟨[5], [8], [], Fct.cond (decide (x555.1.2 ≤ p2.2)) (some 41) (Fct.val 41 (.pointer (some ⟨g562, 1, none⟩)))⟩, ⟨[5, 8], [], [], Fct.cond (decide (x555.1.2 ≤ p2.2)) (some 42) (Fct.val 42 (.int .i64 x555.2.2))⟩, ⟨[5, 7, 9], [], [], Fct.cond (decide (x555.1.2 ≤ p2.2)) (some 43) (Fct.val 43 (.bool (decide (p2.2 < x555.2.2))))⟩, ⟨[5, 10], [], [], Fct.val 44 (.bool x640)⟩, ⟨[11], [], [], Fct.val 45 (.bool x640)⟩, ⟨[12], [9], [], Fct.cond x640 (some 46) (Fct.val 46 (.int .i64 r609))⟩, ⟨[12, 13], [], [], Fct.cond x640 (some 47) (Fct.val 47 (.bool (decide (0 < r609))))⟩, ⟨[12, 14], [], [], Fct.val 48 (.bool (x640 && (decide (0 < r609))))⟩, ⟨[15], [], [], Fct.val 32 (.bool (x640 && (decide (0 < r609))))⟩] hz634 hd634 (by kernel_rfl) ?_ ?_
    · refine sc (fun _ _ _ _ s _ => px (or_field fo32_1 (s.1.trans e634_7) (by rfl))) ?_
      refine sc (fun _ _ _ f _ hE => px (or_load1 to3 f.1 (Blk.at_ (be_ hE b634_g558).2 1 rfl))) ?_
      refine sc (fun _ _ _ _ s _ => px (or_field fo32_1 (s.1.trans e634_3) (by rfl))) ?_
      refine sc (fun _ _ _ f _ hE => px (or_load1 to3 f.1 (Blk.at_ (be_ hE b634_g333).2 1 rfl))) ?_
      refine sc (fun _ _ _ f _ _ => px (or_leq f.1 f.2.1 rfl)) ?_
      refine sc (fun _ _ _ f _ _ => px (or_move f.1)) ?_
      refine sc (fun _ _ _ f s _ => sg_t rfl rfl rfl f.1 (fun hg => or_field fo32_1 (s.1.trans e634_3) (by rfl))) ?_
      refine sc (fun _ _ _ f _ hE => sg_t rfl rfl rfl f.1 (fun hg => or_load1 to3 (f.2.1.1 hg) (Blk.at_ (be_ hE b634_g333).2 1 rfl))) ?_
      refine sc (fun _ _ _ f s _ => sg_t rfl rfl rfl f.1 (fun hg => or_field fo32_1 (s.1.trans e634_8) (by rfl))) ?_
      refine sc (fun _ _ _ f _ hE => sg_t rfl rfl rfl f.1 (fun hg => or_load1 to3 (f.2.1.1 hg) (Blk.at_ (be_ hE b634_g562).2 1 rfl))) ?_
      refine sc (fun _ _ _ f _ _ => sg_t rfl rfl rfl f.1 (fun hg => or_lss (f.2.1.1 hg) (f.2.2.1.1 hg) rfl)) ?_
      refine sc (fun _ _ _ f _ _ => px (or_and f.1 (fun hx => f.2.1.1 hx) rfl (osome hx640).symm)) ?_
      refine sc (fun _ _ _ f _ _ => px (or_move f.1)) ?_
      refine sc (fun _ _ _ f s _ => sg_t rfl rfl rfl f.1 (fun hg => or_move (s.1.trans e634_9))) ?_
      refine sc (fun _ _ _ f _ _ => sg_t rfl rfl rfl f.1 (fun hg => or_gtr (f.2.1.1 hg) rfl rfl)) ?_
      refine sc (fun _ _ _ f _ _ => px (or_and f.1 (fun hx => f.2.1.1 hx) rfl rfl)) ?_
      refine sc (fun _ _ _ f _ _ => px (or_assign f.1)) ?_
      exact steps_nil
    intro own641 a641 w641 hd641 hz641 hk641 hf641 hE641
    have e641_3 := (hk641 3 rfl).trans e634_3
    have e641_4 := (hk641 4 rfl).trans e634_4
    have e641_5 := (hk641 5 rfl).trans e634_5
    have e641_6 := (hk641 6 rfl).trans e634_6
    have e641_7 := (hk641 7 rfl).trans e634_7
    have e641_8 := (hk641 8 rfl).trans e634_8
    have e641_9 := (hk641 9 rfl).trans e634_9
    have e641_20 := (hk641 20 rfl).trans e634_20
    obtain ⟨(e641_32 : a641.eval (.tmp 32) = .bool (x640 && (decide (0 < r609)))), -⟩ := hf641 [16] rfl
    have hX641 := Evo.stepK hX634 hE641 rfl
    have b641_g333 := be_ hE641 b634_g333
    have b641_g335 := be_ hE641 b634_g335
    have b641_g337 := be_ hE641 b634_g337
    have b641_g353 := be_ hE641 b634_g353
    have b641_cA358 := be_ hE641 b634_cA358
    have b641_Al1 := RdO.evo rfl hE641 b634_Al1
    have b641_g558 := be_ hE641 b634_g558
    have b641_g562 := be_ hE641 b634_g562
    have b641_rc := RcO.evo (by decide) hE641 b634_rc
    have b641_mk := MkO.evo (by decide) hE641 b634_mk
    refine fl_cond e641_32 hs (fun c642 hs => ?_) (fun c642 hs => ?_)
    · refine rg_plain (n := 71) (rs := [Fct.at_ 355 g353 3 #[.int .i64 n457]]) (own0 := own641) (K := [355]) (bs := (bz 3)) (ds := [⟨[3], [6], [], Fct.val 49 (.int .i64 n457)⟩, ⟨[0], [], [], Fct.val 50 (.int .i64 (ad n457 1))⟩, ⟨[1, 3], [6], [355], Fct.at_ 643 g353 3 #[.int .i64 (ad n457 1)]⟩]) (by kernel_rfl) hz641 hd641 (by simp only [List.forall_mem_cons]; exact ⟨b641_g353, fun _ h => nomatch h⟩) ?_ ?_
      · refine sc (fun own a wx hf hsl hE => ?_) ?_
        · obtain ⟨(b_g353 : BlkO own 355 wx g353 3 #[.int .i64 n457]), -⟩ := hf
          obtain ⟨s_6, -⟩ := hsl
          exact px (or_load1 to3 (s_6.trans e641_6) (Blk.at_ b_g353.2 0 rfl))
        refine sc (fun _ _ _ f _ _ => px (or_add f.1 rfl rfl)) ?_
        refine sc (fun own a wx hf hsl hE => ?_) ?_
        · obtain ⟨f_50, b_g353, -⟩ := hf
          obtain ⟨s_6, -⟩ := hsl
          exact px (or_store1 (lab := 355) (lab2 := 643) ts3 (s_6.trans e641_6) f_50 b_g353 (by simp) rfl (mem_of rfl) (by decide) rfl (fun own' a' w' ha hb => hb))
        exact steps_nil
      intro own644 a644 w644 hd644 hz644 hk644 hf644 hE644
      have e644_3 := (hk644 3 rfl).trans e641_3
      have e644_4 := (hk644 4 rfl).trans e641_4
      have e644_5 := (hk644 5 rfl).trans e641_5
      have e644_6 := (hk644 6 rfl).trans e641_6
      have e644_20 := (hk644 20 rfl).trans e641_20
      obtain ⟨(b644_g353 : BlkO own644 643 w644 g353 3 #[.int .i64 (ad n457 1)]), -⟩ := hf644 [2] rfl
      have hX644 := Evo.stepK hX641 hE644 rfl
      have b644_g333 := be_ hE644 b641_g333
      have b644_g335 := be_ hE644 b641_g335
      have b644_g337 := be_ hE644 b641_g337
      have b644_cA358 := be_ hE644 b641_cA358
      have b644_Al1 := RdO.evo rfl hE644 b641_Al1
      have b644_rc := RcO.evo (by decide) hE644 b641_rc
      have b644_mk := MkO.evo (by decide) hE644 b641_mk
      exact (K631 _ _ (rl [(643, 629)] own644) _ hd644 hz644 e644_3 e644_4 e644_5 e644_6 e644_20 (Evo.rlK hX644 rfl) (BlkO.rl_ (mm := [(643, 629)]) b644_g333) (BlkO.rl_ (mm := [(643, 629)]) b644_g335) (BlkO.rl_ (mm := [(643, 629)]) b644_g337) (BlkO.rl_ (mm := [(643, 629)]) b644_g353) (BlkO.rl_ (mm := [(643, 629)]) b644_cA358) (RdO.rl_ (mm := [(643, 629)]) b644_Al1) (MkO.rl_ (mm := [(643, 629)]) b644_mk) (RcO.rl_ (mm := [(643, 629)]) b644_rc) hs).1
    obtain ⟨x645, hx645, hs⟩ := obind hs
    refine rg0_seq 71 own641 [0, 1, 0, 4, 15, 31, 63, 127, 63, 319, 1023, 2047, 4095, 8191, 16383, 32767, 65535] [⟨[], [8], [], Fct.val 52 (.pointer (some ⟨g562, 1, none⟩))⟩, ⟨[0], [], [], Fct.val 53 (.int .i64 x555.2.2)⟩, ⟨[], [3], [], Fct.val 54 (.pointer (some ⟨g333, 1, none⟩))⟩, ⟨[2], [], [], Fct.val 55 (.int .i64 p2.2)⟩, ⟨[1, 3], [], [], Fct.val 56 (.bool (decide (x555.2.2 ≤ p2.2)))⟩, ⟨[4], [], [], Fct.val 57 (.bool (decide (x555.2.2 ≤ p2.2)))⟩, ⟨[5], [3], [], Fct.cond (decide (x555.2.2 ≤ p2.2)) (some 58) (Fct.val 58 (.pointer (some ⟨g333, 1, none⟩)))⟩, ⟨[5, 6], [], [], Fct.cond (decide (x555.2.2 ≤ p2.2)) (some 59) (Fct.val 59 (.int .i64 p2.2))⟩, ⟨[5], [7], [], Fct.cond (decide (x555.2.2 ≤ p2.2)) (some 60) (Fct.val 60 (.pointer (some ⟨g558, 1, none⟩)))⟩, ⟨[5, 8], [], [], Fct.cond (decide (x555.2.2 ≤ p2.2)) (some 61) (Fct.val 61 (.int .i64 x555.1.2))⟩, ⟨[5, 7, 9], [], [], Fct.cond (decide (x555.2.2 ≤ p2.2)) (some 62) (Fct.val 62 (.bool (decide (p2.2 < x555.1.2))))⟩, ⟨[5, 10], [], [], Fct.val 63 (.bool x645)⟩, ⟨[11], [], [], Fct.val 64 (.bool x645)⟩, ⟨[12], [9], [], Fct.cond x645 (some 65) (Fct.val 65 (.int .i64 r609))⟩, ⟨[12, 13], [], [], Fct.cond x645 (some 66) (Fct.val 66 (.bool (decide (r609 < 0))))⟩, ⟨[12, 14], [], [], Fct.val 67 (.bool (x645 && (decide (r609 < 0))))⟩, ⟨[15], [], [], Fct.val 51 (.bool (x645 && (decide (r609 < 0))))⟩] hz641 hd641 (by kernel_rfl) ?_ ?_
    · refine sc (fun _ _ _ _ s _ => px (or_field fo32_1 (s.1.trans e641_8) (by rfl))) ?_
      refine sc (fun _ _ _ f _ hE => px (or_load1 to3 f.1 (Blk.at_ (be_ hE b641_g562).2 1 rfl))) ?_
      refine sc (fun _ _ _ _ s _ => px (or_field fo32_1 (s.1.trans e641_3) (by rfl))) ?_
      refine sc (fun _ _ _ f _ hE => px (or_load1 to3 f.1 (Blk.at_ (be_ hE b641_g333).2 1 rfl))) ?_
      refine sc (fun _ _ _ f _ _ => px (or_leq f.1 f.2.1 rfl)) ?_
      refine sc (fun _ _ _ f _ _ => px (or_move f.1)) ?_
      refine sc (fun _ _ _ f s _ => sg_t rfl rfl rfl f.1 (fun hg => or_field fo32_1 (s.1.trans e641_3) (by rfl))) ?_
      refine sc (fun _ _ _ f _ hE => sg_t rfl rfl rfl f.1 (fun hg => or_load1 to3 (f.2.1.1 hg) (Blk.at_ (be_ hE b641_g333).2 1 rfl))) ?_
      refine sc (fun _ _ _ f s _ => sg_t rfl rfl rfl f.1 (fun hg => or_field fo32_1 (s.1.trans e641_7) (by rfl))) ?_
      refine sc (fun _ _ _ f _ hE => sg_t rfl rfl rfl f.1 (fun hg => or_load1 to3 (f.2.1.1 hg) (Blk.at_ (be_ hE b641_g558).2 1 rfl))) ?_
      refine sc (fun _ _ _ f _ _ => sg_t rfl rfl rfl f.1 (fun hg => or_lss (f.2.1.1 hg) (f.2.2.1.1 hg) rfl)) ?_
      refine sc (fun _ _ _ f _ _ => px (or_and f.1 (fun hx => f.2.1.1 hx) rfl (osome hx645).symm)) ?_
      refine sc (fun _ _ _ f _ _ => px (or_move f.1)) ?_
      refine sc (fun _ _ _ f s _ => sg_t rfl rfl rfl f.1 (fun hg => or_move (s.1.trans e641_9))) ?_
      refine sc (fun _ _ _ f _ _ => sg_t rfl rfl rfl f.1 (fun hg => or_lss (f.2.1.1 hg) rfl rfl)) ?_
      refine sc (fun _ _ _ f _ _ => px (or_and f.1 (fun hx => f.2.1.1 hx) rfl rfl)) ?_
      refine sc (fun _ _ _ f _ _ => px (or_assign f.1)) ?_
      exact steps_nil
    intro own646 a646 w646 hd646 hz646 hk646 hf646 hE646
    have e646_3 := (hk646 3 rfl).trans e641_3
    have e646_4 := (hk646 4 rfl).trans e641_4
    have e646_5 := (hk646 5 rfl).trans e641_5
    have e646_6 := (hk646 6 rfl).trans e641_6
    have e646_20 := (hk646 20 rfl).trans e641_20
    obtain ⟨(e646_51 : a646.eval (.tmp 51) = .bool (x645 && (decide (r609 < 0)))), -⟩ := hf646 [16] rfl
    have hX646 := Evo.stepK hX641 hE646 rfl
    have b646_g333 := be_ hE646 b641_g333
    have b646_g335 := be_ hE646 b641_g335
    have b646_g337 := be_ hE646 b641_g337
    have b646_g353 := be_ hE646 b641_g353
    have b646_cA358 := be_ hE646 b641_cA358
    have b646_Al1 := RdO.evo rfl hE646 b641_Al1
    have b646_rc := RcO.evo (by decide) hE646 b641_rc
    have b646_mk := MkO.evo (by decide) hE646 b641_mk
    refine fl_cond e646_51 hs (fun c647 hs => ?_) (fun c647 hs => ?_)
    · refine rg_plain (n := 71) (rs := [Fct.at_ 355 g353 3 #[.int .i64 n457]]) (own0 := own646) (K := [355]) (bs := (bz 3)) (ds := [⟨[3], [6], [], Fct.val 68 (.int .i64 n457)⟩, ⟨[0], [], [], Fct.val 69 (.int .i64 (sb n457 1))⟩, ⟨[1, 3], [6], [355], Fct.at_ 648 g353 3 #[.int .i64 (sb n457 1)]⟩]) (by kernel_rfl) hz646 hd646 (by simp only [List.forall_mem_cons]; exact ⟨b646_g353, fun _ h => nomatch h⟩) ?_ ?_
      · refine sc (fun own a wx hf hsl hE => ?_) ?_
        · obtain ⟨(b_g353 : BlkO own 355 wx g353 3 #[.int .i64 n457]), -⟩ := hf
          obtain ⟨s_6, -⟩ := hsl
          exact px (or_load1 to3 (s_6.trans e646_6) (Blk.at_ b_g353.2 0 rfl))
        refine sc (fun _ _ _ f _ _ => px (or_sub f.1 rfl rfl)) ?_
        refine sc (fun own a wx hf hsl hE => ?_) ?_
        · obtain ⟨f_69, b_g353, -⟩ := hf
          obtain ⟨s_6, -⟩ := hsl
          exact px (or_store1 (lab := 355) (lab2 := 648) ts3 (s_6.trans e646_6) f_69 b_g353 (by simp) rfl (mem_of rfl) (by decide) rfl (fun own' a' w' ha hb => hb))
        exact steps_nil
      intro own649 a649 w649 hd649 hz649 hk649 hf649 hE649
      have e649_3 := (hk649 3 rfl).trans e646_3
      have e649_4 := (hk649 4 rfl).trans e646_4
      have e649_5 := (hk649 5 rfl).trans e646_5
      have e649_6 := (hk649 6 rfl).trans e646_6
      have e649_20 := (hk649 20 rfl).trans e646_20
      obtain ⟨(b649_g353 : BlkO own649 648 w649 g353 3 #[.int .i64 (sb n457 1)]), -⟩ := hf649 [2] rfl
      have hX649 := Evo.stepK hX646 hE649 rfl
      have b649_g333 := be_ hE649 b646_g333
      have b649_g335 := be_ hE649 b646_g335
      have b649_g337 := be_ hE649 b646_g337
      have b649_cA358 := be_ hE649 b646_cA358
      have b649_Al1 := RdO.evo rfl hE649 b646_Al1
      have b649_rc := RcO.evo (by decide) hE649 b646_rc
      have b649_mk := MkO.evo (by decide) hE649 b646_mk
      exact (K631 _ _ (rl [(648, 629)] own649) _ hd649 hz649 e649_3 e649_4 e649_5 e649_6 e649_20 (Evo.rlK hX649 rfl) (BlkO.rl_ (mm := [(648, 629)]) b649_g333) (BlkO.rl_ (mm := [(648, 629)]) b649_g335) (BlkO.rl_ (mm := [(648, 629)]) b649_g337) (BlkO.rl_ (mm := [(648, 629)]) b649_g353) (BlkO.rl_ (mm := [(648, 629)]) b649_cA358) (RdO.rl_ (mm := [(648, 629)]) b649_Al1) (MkO.rl_ (mm := [(648, 629)]) b649_mk) (RcO.rl_ (mm := [(648, 629)]) b649_rc) hs).1
    refine fl_skip ?_
    exact (K631 _ _ (rl [(355, 629)] own646) _ hd646 hz646 e646_3 e646_4 e646_5 e646_6 e646_20 (Evo.rlK hX646 rfl) (BlkO.rl_ (mm := [(355, 629)]) b646_g333) (BlkO.rl_ (mm := [(355, 629)]) b646_g335) (BlkO.rl_ (mm := [(355, 629)]) b646_g337) (BlkO.rl_ (mm := [(355, 629)]) b646_g353) (BlkO.rl_ (mm := [(355, 629)]) b646_cA358) (RdO.rl_ (mm := [(355, 629)]) b646_Al1) (MkO.rl_ (mm := [(355, 629)]) b646_mk) (RcO.rl_ (mm := [(355, 629)]) b646_rc) hs).1
  · rintro n457 a650 own650 w650 Ds650 hzz650 hd650 hz650 hkp650 hmk650 ⟨hE650, b650_g333, b650_g335, b650_g337, b650_g353, b650_cA358, b650_Al1⟩
    subst hzz650
    have hs : ring_Winding_b3 n457 = some r := hs
    have e650_3 : a650.eval (.tmp 3) = .pointer (some ⟨g333, 0, none⟩) := (hkp650 3).trans e360_3
    have e650_4 : a650.eval (.tmp 4) = .pointer (some ⟨g335, 0, none⟩) := (hkp650 4).trans e360_4
    have e650_5 : a650.eval (.tmp 5) = .pointer (some ⟨g337, 0, none⟩) := (hkp650 5).trans e360_5
    have e650_6 : a650.eval (.tmp 6) = .pointer (some ⟨g353, 0, none⟩) := (hkp650 6).trans e360_6
    have e650_20 : a650.eval (.tmp 20) = .func (.func 55) #[] #[.pointer (some ⟨cA358, 0, none⟩)] := (hkp650 20).trans e360_20
    refine hn361 _ _ ?_
    refine hn357 _ _ ?_
    refine rg_plain_seq (n := 71) (rs := [Fct.at_ 336 g335 3 #[.int .i64 0], Fct.at_ 338 g337 4 #[.bool false]]) (own0 := own650) (K := [336, 338]) (bs := (bz 3)) (ds := [⟨[], [6], [], Fct.val 70 (.int .i64 n457)⟩, ⟨[0, 3], [4], [336], Fct.at_ 652 g335 3 #[.int .i64 n457]⟩, ⟨[4], [5], [338], Fct.at_ 653 g337 4 #[.bool true]⟩]) (by kernel_rfl) hz650 hd650 (by simp only [List.forall_mem_cons]; exact ⟨b650_g335, b650_g337, fun _ h => nomatch h⟩) ?_ ?_
    · refine sc (fun _ _ _ _ s hE => px (or_load1 to3 (s.1.trans e650_6) (Blk.at_ (be_ hE b650_g353).2 0 rfl))) ?_
      refine sc (fun own a wx hf hsl hE => ?_) ?_
      · obtain ⟨f_70, b_g335, -⟩ := hf
        obtain ⟨s_4, -⟩ := hsl
        exact px (or_store1 (lab := 336) (lab2 := 652) ts3 (s_4.trans e650_4) f_70 b_g335 (by simp) rfl (mem_of rfl) (by decide) rfl (fun own' a' w' ha hb => hb))
      refine sc (fun own a wx hf hsl hE => ?_) ?_
      · obtain ⟨b_g337, -⟩ := hf
        obtain ⟨s_5, -⟩ := hsl
        exact px (or_store1 (lab := 338) (lab2 := 653) ts4 (s_5.trans e650_5) rfl b_g337 (by simp) rfl (mem_of rfl) (by decide) rfl (fun own' a' w' ha hb => hb))
      exact steps_nil
    intro own654 a654 w654 hd654 hz654 hk654 hf654 hE654
    have e654_4 := (hk654 4 rfl).trans e650_4
    have e654_5 := (hk654 5 rfl).trans e650_5
    obtain ⟨(b654_g335 : BlkO own654 652 w654 g335 3 #[.int .i64 n457]), (b654_g337 : BlkO own654 653 w654 g337 4 #[.bool true]), -⟩ := hf654 [1, 2] rfl
    have hX654 := es_ hE650 hE654
    have b654_mk := MkO.evo (by decide) hE654 hmk650
    refine fl_ret ?_
    refine hret _ _ _ _ _ (.inl rfl) hd654 b654_mk (fun own655 w655 hE655 => ?_)
    have hX656 := es_ hX654 hE655
    have b656_g335 := be_ hE655 b654_g335
    have b656_g337 := be_ hE655 b654_g337
    obtain rfl := osome hs
    exact ⟨_, results2_ rfl (RVal.cell_ e654_4 (run_loadVarOne to3 (Blk.at_ b656_g335.2 0 rfl))) (RVal.cell_ e654_5 (run_loadVarOne to4 (Blk.at_ b656_g337.2 0 rfl))), ⟨own655, rfl, hX656⟩⟩
  · rintro _ a657 own657 w657 Ds657 hzz657 hd657 hz657 hkp657 hmk657 ⟨hE657, b657_g335, b657_g337⟩
    subst hzz657
    have hs : ring_Winding_b4 = some r := hs
    have e657_4 : a657.eval (.tmp 4) = .pointer (some ⟨g335, 0, none⟩) := (hkp657 4).trans e360_4
    have e657_5 : a657.eval (.tmp 5) = .pointer (some ⟨g337, 0, none⟩) := (hkp657 5).trans e360_5
    refine fl_ret ?_
    refine hp361 _ _ _ rfl ?_
    refine hp357 _ _ _ rfl ?_
    refine hret _ _ _ _ _ (.inl rfl) hd657 hmk657 (fun own658 w658 hE658 => ?_)
    have hX659 := es_ hE657 hE658
    have b659_g335 := be_ hE658 b657_g335
    have b659_g337 := be_ hE658 b657_g337
    obtain rfl := osome hs
    exact ⟨_, results2_ rfl (RVal.cell_ e657_4 (run_loadVarOne to3 (Blk.at_ b659_g335.2 0 rfl))) (RVal.cell_ e657_5 (run_loadVarOne to4 (Blk.at_ b659_g337.2 0 rfl))), ⟨own658, rfl, hX659⟩⟩
theorem ring_beside_has_1_w (w : World) (n1 : Int) (c2 : Int) (d3 : Int) (r : Bool) (hs : ring_beside_has_1 n1 c2 d3 = some r) :
    Calls Try.prog 61 #[.int .i64 n1, .int .i64 c2, .int .i64 d3] w fun e w' => ∃ own' : Own, e = .returned (.bool r) ∧ Evo [] (fun _ => 0) own' w w' := by
  refine fl_enter (n := 21) rfl rfl rfl (Nat.le_of_ble_eq_true rfl) ?_
  intro a0 Q hd0 hz0 harg hret
  have ha0 := harg 0 _ rfl
  have ha1 := harg 1 _ rfl
  have ha2 := harg 2 _ rfl
  clear harg
  have hE0 : Evo [] (fun _ => 0) (fun _ => 0) w w := Evo.refl _ _ _
  refine rg0_seq 21 (fun _ => 0) (bz 1) [⟨[], [], [], Fct.val 6 (.bool false)⟩] hz0 hd0 (by kernel_rfl) ?_ ?_
  · refine sc (fun _ _ _ _ _ _ => px (or_assign rfl)) ?_
    exact steps_nil
  intro own14 a14 w14 hd14 hz14 hk14 hf14 hE14
  have e14_0 := (hk14 0 rfl).trans ha0
  have e14_1 := (hk14 1 rfl).trans ha1
  have e14_2 := (hk14 2 rfl).trans ha2
  have hX14 := es_ hE0 hE14
  obtain ⟨x15, hx15, hs⟩ := obind hs
  refine rg0_seq 21 own14 [0, 0, 3, 7, 0, 31, 63, 127, 127, 127, 895, 1919, 4095, 8191, 16383] [⟨[], [1], [], Fct.val 7 (.int .i64 c2)⟩, ⟨[], [2], [], Fct.val 8 (.int .i64 d3)⟩, ⟨[0, 1], [], [], Fct.val 9 (.int .i64 (mn c2 d3))⟩, ⟨[2], [], [], Fct.val 10 (.int .i64 (ml 2 (mn c2 d3)))⟩, ⟨[], [0], [], Fct.val 11 (.int .i64 n1)⟩, ⟨[3, 4], [], [], Fct.val 12 (.bool (decide ((ml 2 (mn c2 d3)) ≤ n1)))⟩, ⟨[5], [], [], Fct.val 13 (.bool (decide ((ml 2 (mn c2 d3)) ≤ n1)))⟩, ⟨[6], [0], [], Fct.cond (decide ((ml 2 (mn c2 d3)) ≤ n1)) (some 14) (Fct.val 14 (.int .i64 n1))⟩, ⟨[6], [1], [], Fct.cond (decide ((ml 2 (mn c2 d3)) ≤ n1)) (some 15) (Fct.val 15 (.int .i64 c2))⟩, ⟨[6], [2], [], Fct.cond (decide ((ml 2 (mn c2 d3)) ≤ n1)) (some 16) (Fct.val 16 (.int .i64 d3))⟩, ⟨[6, 8, 9], [], [], Fct.cond (decide ((ml 2 (mn c2 d3)) ≤ n1)) (some 17) (Fct.val 17 (.int .i64 (mx c2 d3)))⟩, ⟨[6, 10], [], [], Fct.cond (decide ((ml 2 (mn c2 d3)) ≤ n1)) (some 18) (Fct.val 18 (.int .i64 (ml 2 (mx c2 d3))))⟩, ⟨[6, 7, 11], [], [], Fct.cond (decide ((ml 2 (mn c2 d3)) ≤ n1)) (some 19) (Fct.val 19 (.bool (decide (n1 ≤ (ml 2 (mx c2 d3))))))⟩, ⟨[6, 12], [], [], Fct.val 20 (.bool x15)⟩, ⟨[13], [], [], Fct.val 6 (.bool x15)⟩] hz14 hd14 (by kernel_rfl) ?_ ?_
  · refine sc (fun _ _ _ _ s _ => px (or_move (s.1.trans e14_1))) ?_
    refine sc (fun _ _ _ _ s _ => px (or_move (s.1.trans e14_2))) ?_
    refine sc (fun _ _ _ f _ _ => px (or_min f.1 f.2.1)) ?_
    refine sc (fun _ _ _ f _ _ => px (or_mul rfl f.1 rfl)) ?_
    refine sc (fun _ _ _ _ s _ => px (or_move (s.1.trans e14_0))) ?_
    refine sc (fun _ _ _ f _ _ => px (or_leq f.1 f.2.1 rfl)) ?_
    refine sc (fun _ _ _ f _ _ => px (or_move f.1)) ?_
    refine sc (fun _ _ _ f s _ => sg_t rfl rfl rfl f.1 (fun hg => or_move (s.1.trans e14_0))) ?_
    refine sc (fun _ _ _ f s _ => sg_t rfl rfl rfl f.1 (fun hg => or_move (s.1.trans e14_1))) ?_
    refine sc (fun _ _ _ f s _ => sg_t rfl rfl rfl f.1 (fun hg => or_move (s.1.trans e14_2))) ?_
    refine sc (fun _ _ _ f _ _ => sg_t rfl rfl rfl f.1 (fun hg => or_max (f.2.1.1 hg) (f.2.2.1.1 hg))) ?_
    refine sc (fun _ _ _ f _ _ => sg_t rfl rfl rfl f.1 (fun hg => or_mul rfl (f.2.1.1 hg) rfl)) ?_
    refine sc (fun _ _ _ f _ _ => sg_t rfl rfl rfl f.1 (fun hg => or_leq (f.2.1.1 hg) (f.2.2.1.1 hg) rfl)) ?_
    refine sc (fun _ _ _ f _ _ => px (or_and f.1 (fun hx => f.2.1.1 hx) rfl (osome hx15).symm)) ?_
    refine sc (fun _ _ _ f _ _ => px (or_assign f.1)) ?_
    exact steps_nil
  intro own16 a16 w16 hd16 hz16 hk16 hf16 hE16
  obtain ⟨(e16_6 : a16.eval (.tmp 6) = .bool x15), -⟩ := hf16 [14] rfl
  have hX16 := es_ hX14 hE16
  refine fl_ret ?_
  obtain rfl := (osome hs).symm
  exact hret _ _ _ _ (.inl rfl) hd16 (results1_ rfl (RVal.tmp_ e16_6)) ⟨own16, rfl, hX16⟩
theorem ring_beside_has_w (w : World) (m1 : (Int × Int) × (Int × Int)) (x2 : Int × Int) (b3 : Int × Int) (r : Bool) (hs : ring_beside_has m1 x2 b3 = some r) :
    Calls Try.prog 40 #[.agg #[.int .i64 m1.1.1, .int .i64 m1.1.2, .int .i64 m1.2.1, .int .i64 m1.2.2], .agg #[.int .i64 x2.1, .int .i64 x2.2], .agg #[.int .i64 b3.1, .int .i64 b3.2]] w fun e w' => ∃ own' : Own, e = .returned (.bool r) ∧ Evo [] (fun _ => 0) own' w w' := by
  refine fl_enter (n := 72) rfl rfl rfl (Nat.le_of_ble_eq_true rfl) ?_
  intro a0 Q hd0 hz0 harg hret
  have ha0 := harg 0 _ rfl
  have ha1 := harg 1 _ rfl
  have ha2 := harg 2 _ rfl
  clear harg
  have hE0 : Evo [] (fun _ => 0) (fun _ => 0) w w := Evo.refl _ _ _
  refine rg0_seq 72 (fun _ => 0) [0, 0, 0, 0] [⟨[], [0], [], Fct.blk 31 3 (fun g => .pointer (some ⟨g, 0, none⟩)) 64 #[.int .i64 m1.1.1, .int .i64 m1.1.2, .int .i64 m1.2.1, .int .i64 m1.2.2]⟩, ⟨[], [1], [], Fct.blk 33 4 (fun g => .pointer (some ⟨g, 0, none⟩)) 32 #[.int .i64 x2.1, .int .i64 x2.2]⟩, ⟨[], [2], [], Fct.blk 35 5 (fun g => .pointer (some ⟨g, 0, none⟩)) 32 #[.int .i64 b3.1, .int .i64 b3.2]⟩, ⟨[], [], [], Fct.val 6 (.bool false)⟩] hz0 hd0 (by kernel_rfl) ?_ ?_
  · refine sc (fun _ _ _ _ s _ => px (or_new [(0, .agg #[.int .i64 m1.1.1, .int .i64 m1.1.2, .int .i64 m1.2.1, .int .i64 m1.2.2])] rfl rfl ⟨(s.1.trans ha0), trivial⟩ (by kernel_rfl))) ?_
    refine sc (fun _ _ _ _ s _ => px (or_new [(1, .agg #[.int .i64 x2.1, .int .i64 x2.2])] rfl rfl ⟨(s.1.trans ha1), trivial⟩ (by kernel_rfl))) ?_
    refine sc (fun _ _ _ _ s _ => px (or_new [(2, .agg #[.int .i64 b3.1, .int .i64 b3.2])] rfl rfl ⟨(s.1.trans ha2), trivial⟩ (by kernel_rfl))) ?_
    refine sc (fun _ _ _ _ _ _ => px (or_assign rfl)) ?_
    exact steps_nil
  intro own36 a36 w36 hd36 hz36 hk36 hf36 hE36
  obtain ⟨⟨g30, (e36_3 : a36.eval (.tmp 3) = .pointer (some ⟨g30, 0, none⟩)), (b36_g30 : BlkO own36 31 w36 g30 64 #[.int .i64 m1.1.1, .int .i64 m1.1.2, .int .i64 m1.2.1, .int .i64 m1.2.2])⟩, ⟨g32, (e36_4 : a36.eval (.tmp 4) = .pointer (some ⟨g32, 0, none⟩)), (b36_g32 : BlkO own36 33 w36 g32 32 #[.int .i64 x2.1, .int .i64 x2.2])⟩, ⟨g34, (e36_5 : a36.eval (.tmp 5) = .pointer (some ⟨g34, 0, none⟩)), (b36_g34 : BlkO own36 35 w36 g34 32 #[.int .i64 b3.1, .int .i64 b3.2])⟩, -⟩ := hf36 [0, 1, 2] rfl
  have hX36 := es_ hE0 hE36
  refine rg_draw_seq g_mixed (n := 72) (rs := []) (own0 := own36) (K := []) (bs := [0, 1, 0, 4, 15, 0, 32, 0, 128, 480, 31, 2047]) (ds := [⟨[], [5], [], Fct.val 10 (.pointer (some ⟨g34, 0, none⟩))⟩, ⟨[0], [], [], Fct.val 11 (.int .i64 b3.1)⟩, ⟨[], [4], [], Fct.val 12 (.pointer (some ⟨g32, 0, none⟩))⟩, ⟨[2], [], [], Fct.val 13 (.int .i64 x2.1)⟩, ⟨[1, 3], [], [], Fct.val 14 (.int .i64 (sb b3.1 x2.1))⟩, ⟨[], [5], [], Fct.val 15 (.pointer (some ⟨g34, 1, none⟩))⟩, ⟨[5], [], [], Fct.val 16 (.int .i64 b3.2)⟩, ⟨[], [4], [], Fct.val 17 (.pointer (some ⟨g32, 1, none⟩))⟩, ⟨[7], [], [], Fct.val 18 (.int .i64 x2.2)⟩, ⟨[6, 8], [], [], Fct.val 19 (.int .i64 (sb b3.2 x2.2))⟩, ⟨[4], [], [], Fct.val 7 (.int .i64 (sb b3.1 x2.1))⟩, ⟨[9], [], [], Fct.val 8 (.int .i64 (sb b3.2 x2.2))⟩]) (by kernel_rfl) hz36 hd36 nm_ ?_ ?_
  · refine sc (fun _ _ _ _ s _ => px (or_field fo32_0 (s.1.trans e36_5) (by rfl))) ?_
    refine sc (fun _ _ _ f _ hE => px (or_load1 to3 f.1 (Blk.at_ (be_ hE b36_g34).2 0 rfl))) ?_
    refine sc (fun _ _ _ _ s _ => px (or_field fo32_0 (s.1.trans e36_4) (by rfl))) ?_
    refine sc (fun _ _ _ f _ hE => px (or_load1 to3 f.1 (Blk.at_ (be_ hE b36_g32).2 0 rfl))) ?_
    refine sc (fun _ _ _ f _ _ => px (or_sub f.1 f.2.1 rfl)) ?_
    refine sc (fun _ _ _ _ s _ => px (or_field fo32_1 (s.1.trans e36_5) (by rfl))) ?_
    refine sc (fun _ _ _ f _ hE => px (or_load1 to3 f.1 (Blk.at_ (be_ hE b36_g34).2 1 rfl))) ?_
    refine sc (fun _ _ _ _ s _ => px (or_field fo32_1 (s.1.trans e36_4) (by rfl))) ?_
    refine sc (fun _ _ _ f _ hE => px (or_load1 to3 f.1 (Blk.at_ (be_ hE b36_g32).2 1 rfl))) ?_
    refine sc (fun _ _ _ f _ _ => px (or_sub f.1 f.2.1 rfl)) ?_
    refine sc (fun _ _ _ f _ _ => px (or_assign f.1)) ?_
    refine sc (fun _ _ _ f _ _ => px (or_assign f.1)) ?_
    exact steps_nil
  intro own37 a37 w37 hd37 hz37 hk37 hf37 hE37
  have e37_3 := (hk37 3 rfl).trans e36_3
  have e37_4 := (hk37 4 rfl).trans e36_4
  have e37_5 := (hk37 5 rfl).trans e36_5
  obtain ⟨(e37_7 : a37.eval (.tmp 7) = .int .i64 (sb b3.1 x2.1)), (e37_8 : a37.eval (.tmp 8) = .int .i64 (sb b3.2 x2.2)), -⟩ := hf37 [10, 11] rfl
  have hX37 := es_ hX36 hE37
  have b37_g30 := be_ hE37 b36_g30
  have b37_g32 := be_ hE37 b36_g32
  have b37_g34 := be_ hE37 b36_g34
  refine fl_seq (fun Q38 hn38 hp38 => ?_)
  obtain ⟨x39, hx39, hs⟩ := obind hs
  obtain ⟨x40, hx40, hs⟩ := obind hs
  obtain ⟨x41, hx41, hs⟩ := obind hs
  refine rg0_seq 72 own37 [0, 0, 2, 6, 15, 0, 0, 64, 192, 480, 1023, 2047, 4095, 4095, 12287, 28671, 4095, 69631, 200703, 520191, 1048575, 4095, 4095, 4198399, 12587007, 4095, 33558527, 100667391, 264245247, 534777855, 1073741823, 2147483647] [⟨[], [7], [], Fct.val 20 (.int .i64 (sb b3.1 x2.1))⟩, ⟨[], [3], [], Fct.val 21 (.pointer (some ⟨g30, 2, none⟩))⟩, ⟨[1], [], [], Fct.val 22 (.pointer (some ⟨g30, 3, none⟩))⟩, ⟨[2], [], [], Fct.val 23 (.int .i64 m1.2.2)⟩, ⟨[0, 3], [], [], Fct.val 24 (.int .i64 (ml (sb b3.1 x2.1) m1.2.2))⟩, ⟨[], [8], [], Fct.val 25 (.int .i64 (sb b3.2 x2.2))⟩, ⟨[], [3], [], Fct.val 26 (.pointer (some ⟨g30, 2, none⟩))⟩, ⟨[6], [], [], Fct.val 27 (.pointer (some ⟨g30, 2, none⟩))⟩, ⟨[7], [], [], Fct.val 28 (.int .i64 m1.2.1)⟩, ⟨[5, 8], [], [], Fct.val 29 (.int .i64 (ml (sb b3.2 x2.2) m1.2.1))⟩, ⟨[4, 9], [], [], Fct.val 30 (.bool (decide ((ml (sb b3.1 x2.1) m1.2.2) = (ml (sb b3.2 x2.2) m1.2.1))))⟩, ⟨[10], [], [], Fct.val 31 (.bool (decide ((ml (sb b3.1 x2.1) m1.2.2) = (ml (sb b3.2 x2.2) m1.2.1))))⟩, ⟨[11], [7], [], Fct.cond (!(decide ((ml (sb b3.1 x2.1) m1.2.2) = (ml (sb b3.2 x2.2) m1.2.1)))) (some 32) (Fct.val 32 (.int .i64 (sb b3.1 x2.1)))⟩, ⟨[11], [3], [], Fct.cond (!(decide ((ml (sb b3.1 x2.1) m1.2.2) = (ml (sb b3.2 x2.2) m1.2.1)))) (some 33) (Fct.val 33 (.pointer (some ⟨g30, 0, none⟩)))⟩, ⟨[11, 13], [], [], Fct.cond (!(decide ((ml (sb b3.1 x2.1) m1.2.2) = (ml (sb b3.2 x2.2) m1.2.1)))) (some 34) (Fct.val 34 (.pointer (some ⟨g30, 1, none⟩)))⟩, ⟨[11, 14], [], [], Fct.cond (!(decide ((ml (sb b3.1 x2.1) m1.2.2) = (ml (sb b3.2 x2.2) m1.2.1)))) (some 35) (Fct.val 35 (.int .i64 m1.1.2))⟩, ⟨[11], [4], [], Fct.cond (!(decide ((ml (sb b3.1 x2.1) m1.2.2) = (ml (sb b3.2 x2.2) m1.2.1)))) (some 36) (Fct.val 36 (.pointer (some ⟨g32, 1, none⟩)))⟩, ⟨[11, 16], [], [], Fct.cond (!(decide ((ml (sb b3.1 x2.1) m1.2.2) = (ml (sb b3.2 x2.2) m1.2.1)))) (some 37) (Fct.val 37 (.int .i64 x2.2))⟩, ⟨[11, 17], [], [], Fct.cond (!(decide ((ml (sb b3.1 x2.1) m1.2.2) = (ml (sb b3.2 x2.2) m1.2.1)))) (some 38) (Fct.val 38 (.int .i64 (ml 2 x2.2)))⟩, ⟨[11, 15, 18], [], [], Fct.cond (!(decide ((ml (sb b3.1 x2.1) m1.2.2) = (ml (sb b3.2 x2.2) m1.2.1)))) (some 39) (Fct.val 39 (.int .i64 (sb m1.1.2 (ml 2 x2.2))))⟩, ⟨[11, 12, 19], [], [], Fct.cond (!(decide ((ml (sb b3.1 x2.1) m1.2.2) = (ml (sb b3.2 x2.2) m1.2.1)))) (some 40) (Fct.val 40 (.int .i64 x39))⟩, ⟨[11], [8], [], Fct.cond (!(decide ((ml (sb b3.1 x2.1) m1.2.2) = (ml (sb b3.2 x2.2) m1.2.1)))) (some 41) (Fct.val 41 (.int .i64 (sb b3.2 x2.2)))⟩, ⟨[11], [3], [], Fct.cond (!(decide ((ml (sb b3.1 x2.1) m1.2.2) = (ml (sb b3.2 x2.2) m1.2.1)))) (some 42) (Fct.val 42 (.pointer (some ⟨g30, 0, none⟩)))⟩, ⟨[11, 22], [], [], Fct.cond (!(decide ((ml (sb b3.1 x2.1) m1.2.2) = (ml (sb b3.2 x2.2) m1.2.1)))) (some 43) (Fct.val 43 (.pointer (some ⟨g30, 0, none⟩)))⟩, ⟨[11, 23], [], [], Fct.cond (!(decide ((ml (sb b3.1 x2.1) m1.2.2) = (ml (sb b3.2 x2.2) m1.2.1)))) (some 44) (Fct.val 44 (.int .i64 m1.1.1))⟩, ⟨[11], [4], [], Fct.cond (!(decide ((ml (sb b3.1 x2.1) m1.2.2) = (ml (sb b3.2 x2.2) m1.2.1)))) (some 45) (Fct.val 45 (.pointer (some ⟨g32, 0, none⟩)))⟩, ⟨[11, 25], [], [], Fct.cond (!(decide ((ml (sb b3.1 x2.1) m1.2.2) = (ml (sb b3.2 x2.2) m1.2.1)))) (some 46) (Fct.val 46 (.int .i64 x2.1))⟩, ⟨[11, 26], [], [], Fct.cond (!(decide ((ml (sb b3.1 x2.1) m1.2.2) = (ml (sb b3.2 x2.2) m1.2.1)))) (some 47) (Fct.val 47 (.int .i64 (ml 2 x2.1)))⟩, ⟨[11, 24, 27], [], [], Fct.cond (!(decide ((ml (sb b3.1 x2.1) m1.2.2) = (ml (sb b3.2 x2.2) m1.2.1)))) (some 48) (Fct.val 48 (.int .i64 (sb m1.1.1 (ml 2 x2.1))))⟩, ⟨[11, 21, 28], [], [], Fct.cond (!(decide ((ml (sb b3.1 x2.1) m1.2.2) = (ml (sb b3.2 x2.2) m1.2.1)))) (some 49) (Fct.val 49 (.int .i64 x40))⟩, ⟨[11, 20, 29], [], [], Fct.cond (!(decide ((ml (sb b3.1 x2.1) m1.2.2) = (ml (sb b3.2 x2.2) m1.2.1)))) (some 50) (Fct.val 50 (.bool (!decide (x39 = x40))))⟩, ⟨[11, 30], [], [], Fct.val 51 (.bool x41)⟩] hz37 hd37 (by kernel_rfl) ?_ ?_
  · refine sc (fun _ _ _ _ s _ => px (or_move (s.1.trans e37_7))) ?_
    refine sc (fun _ _ _ _ s _ => px (or_field fo64_1 (s.1.trans e37_3) (by rfl))) ?_
    refine sc (fun _ _ _ f _ _ => px (or_field fo32_1 f.1 (by rfl))) ?_
    refine sc (fun _ _ _ f _ hE => px (or_load1 to3 f.1 (Blk.at_ (be_ hE b37_g30).2 3 rfl))) ?_
    refine sc (fun _ _ _ f _ _ => px (or_mul f.1 f.2.1 rfl)) ?_
    refine sc (fun _ _ _ _ s _ => px (or_move (s.1.trans e37_8))) ?_
    refine sc (fun _ _ _ _ s _ => px (or_field fo64_1 (s.1.trans e37_3) (by rfl))) ?_
    refine sc (fun _ _ _ f _ _ => px (or_field fo32_0 f.1 (by rfl))) ?_
    refine sc (fun _ _ _ f _ hE => px (or_load1 to3 f.1 (Blk.at_ (be_ hE b37_g30).2 2 rfl))) ?_
    refine sc (fun _ _ _ f _ _ => px (or_mul f.1 f.2.1 rfl)) ?_
    refine sc (fun _ _ _ f _ _ => px (or_eql f.1 f.2.1 rfl)) ?_
    refine sc (fun _ _ _ f _ _ => px (or_move f.1)) ?_
    refine sc (fun _ _ _ f s _ => sg_f rfl rfl rfl f.1 (fun hg => or_move (s.1.trans e37_7))) ?_
    refine sc (fun _ _ _ f s _ => sg_f rfl rfl rfl f.1 (fun hg => or_field fo64_0 (s.1.trans e37_3) (by rfl))) ?_
    refine sc (fun _ _ _ f _ _ => sg_f rfl rfl rfl f.1 (fun hg => or_field fo32_1 (f.2.1.1 hg) (by rfl))) ?_
    refine sc (fun _ _ _ f _ hE => sg_f rfl rfl rfl f.1 (fun hg => or_load1 to3 (f.2.1.1 hg) (Blk.at_ (be_ hE b37_g30).2 1 rfl))) ?_
    refine sc (fun _ _ _ f s _ => sg_f rfl rfl rfl f.1 (fun hg => or_field fo32_1 (s.1.trans e37_4) (by rfl))) ?_
    refine sc (fun _ _ _ f _ hE => sg_f rfl rfl rfl f.1 (fun hg => or_load1 to3 (f.2.1.1 hg) (Blk.at_ (be_ hE b37_g32).2 1 rfl))) ?_
    refine sc (fun _ _ _ f _ _ => sg_f rfl rfl rfl f.1 (fun hg => or_mul rfl (f.2.1.1 hg) rfl)) ?_
    refine sc (fun _ _ _ f _ _ => sg_f rfl rfl rfl f.1 (fun hg => or_sub (f.2.1.1 hg) (f.2.2.1.1 hg) rfl)) ?_
    refine sc (fun _ _ _ f _ _ => sg_f rfl rfl rfl f.1 (fun hg => or_mul (f.2.1.1 hg) (f.2.2.1.1 hg) (osome hx39).symm)) ?_
    refine sc (fun _ _ _ f s _ => sg_f rfl rfl rfl f.1 (fun hg => or_move (s.1.trans e37_8))) ?_
    refine sc (fun _ _ _ f s _ => sg_f rfl rfl rfl f.1 (fun hg => or_field fo64_0 (s.1.trans e37_3) (by rfl))) ?_
    refine sc (fun _ _ _ f _ _ => sg_f rfl rfl rfl f.1 (fun hg => or_field fo32_0 (f.2.1.1 hg) (by rfl))) ?_
    refine sc (fun _ _ _ f _ hE => sg_f rfl rfl rfl f.1 (fun hg => or_load1 to3 (f.2.1.1 hg) (Blk.at_ (be_ hE b37_g30).2 0 rfl))) ?_
    refine sc (fun _ _ _ f s _ => sg_f rfl rfl rfl f.1 (fun hg => or_field fo32_0 (s.1.trans e37_4) (by rfl))) ?_
    refine sc (fun _ _ _ f _ hE => sg_f rfl rfl rfl f.1 (fun hg => or_load1 to3 (f.2.1.1 hg) (Blk.at_ (be_ hE b37_g32).2 0 rfl))) ?_
    refine sc (fun _ _ _ f _ _ => sg_f rfl rfl rfl f.1 (fun hg => or_mul rfl (f.2.1.1 hg) rfl)) ?_
    refine sc (fun _ _ _ f _ _ => sg_f rfl rfl rfl f.1 (fun hg => or_sub (f.2.1.1 hg) (f.2.2.1.1 hg) rfl)) ?_
    refine sc (fun _ _ _ f _ _ => sg_f rfl rfl rfl f.1 (fun hg => or_mul (f.2.1.1 hg) (f.2.2.1.1 hg) (osome hx40).symm)) ?_
    refine sc (fun _ _ _ f _ _ => sg_f rfl rfl rfl f.1 (fun hg => or_neq (f.2.1.1 hg) (f.2.2.1.1 hg) rfl)) ?_
    refine sc (fun _ _ _ f _ _ => px (or_or f.1 rfl (fun hx => f.2.1.1 hx) (osome hx41).symm)) ?_
    exact steps_nil
  intro own42 a42 w42 hd42 hz42 hk42 hf42 hE42
  have e42_3 := (hk42 3 rfl).trans e37_3
  have e42_4 := (hk42 4 rfl).trans e37_4
  have e42_5 := (hk42 5 rfl).trans e37_5
  obtain ⟨(e42_51 : a42.eval (.tmp 51) = .bool x41), -⟩ := hf42 [31] rfl
  have hX42 := es_ hX37 hE42
  have b42_g30 := be_ hE42 b37_g30
  have b42_g32 := be_ hE42 b37_g32
  have b42_g34 := be_ hE42 b37_g34
  refine fl_cond e42_51 hs (fun c43 hs => ?_) (fun c43 hs => ?_)
  · refine rg0_seq 72 own42 (bz 1) [⟨[], [], [], Fct.val 6 (.bool false)⟩] hz42 hd42 (by kernel_rfl) ?_ ?_
    · refine sc (fun _ _ _ _ _ _ => px (or_assign rfl)) ?_
      exact steps_nil
    intro own44 a44 w44 hd44 hz44 hk44 hf44 hE44
    obtain ⟨(e44_6 : a44.eval (.tmp 6) = .bool false), -⟩ := hf44 [0] rfl
    have hX44 := es_ hX42 hE44
    refine fl_ret ?_
    refine hp38 _ _ _ rfl ?_
    obtain rfl := osome hs
    exact hret _ _ _ _ (.inl rfl) hd44 (results1_ rfl (RVal.tmp_ e44_6)) ⟨own44, rfl, hX44⟩
  refine fl_skip ?_
  refine hn38 _ _ ?_
  refine rg0_seq 72 own42 (bz 1) [⟨[], [], [], Fct.val 9 (.func (.func 61) #[] #[])⟩] hz42 hd42 (by kernel_rfl) ?_ ?_
  · refine sc (fun _ _ _ _ _ _ => px (or_assign rfl)) ?_
    exact steps_nil
  intro own45 a45 w45 hd45 hz45 hk45 hf45 hE45
  have e45_3 := (hk45 3 rfl).trans e42_3
  have e45_4 := (hk45 4 rfl).trans e42_4
  have e45_5 := (hk45 5 rfl).trans e42_5
  obtain ⟨(e45_9 : a45.eval (.tmp 9) = .func (.func 61) #[] #[]), -⟩ := hf45 [0] rfl
  have hX45 := es_ hX42 hE45
  have b45_g30 := be_ hE45 b42_g30
  have b45_g32 := be_ hE45 b42_g32
  have b45_g34 := be_ hE45 b42_g34
  obtain ⟨r46, hr46, hs⟩ := obind hs
  obtain ⟨r47, hr47, hs⟩ := obind hs
  refine rg0_seq 72 own45 [0, 0, 2, 6, 0, 16, 0, 64, 255, 511, 1023, 1023, 3071, 7167, 1023, 17407, 1023, 66559, 262143, 524287, 1048575] [⟨[], [9], [], Fct.val 52 (.func (.func 61) #[] #[])⟩, ⟨[], [3], [], Fct.val 53 (.pointer (some ⟨g30, 0, none⟩))⟩, ⟨[1], [], [], Fct.val 54 (.pointer (some ⟨g30, 0, none⟩))⟩, ⟨[2], [], [], Fct.val 55 (.int .i64 m1.1.1)⟩, ⟨[], [4], [], Fct.val 56 (.pointer (some ⟨g32, 0, none⟩))⟩, ⟨[4], [], [], Fct.val 57 (.int .i64 x2.1)⟩, ⟨[], [5], [], Fct.val 58 (.pointer (some ⟨g34, 0, none⟩))⟩, ⟨[6], [], [], Fct.val 59 (.int .i64 b3.1)⟩, ⟨[0, 3, 5, 7], [], [], Fct.val 60 (.bool r46)⟩, ⟨[8], [], [], Fct.val 61 (.bool r46)⟩, ⟨[9], [9], [], Fct.cond r46 (some 62) (Fct.val 62 (.func (.func 61) #[] #[]))⟩, ⟨[9], [3], [], Fct.cond r46 (some 63) (Fct.val 63 (.pointer (some ⟨g30, 0, none⟩)))⟩, ⟨[9, 11], [], [], Fct.cond r46 (some 64) (Fct.val 64 (.pointer (some ⟨g30, 1, none⟩)))⟩, ⟨[9, 12], [], [], Fct.cond r46 (some 65) (Fct.val 65 (.int .i64 m1.1.2))⟩, ⟨[9], [4], [], Fct.cond r46 (some 66) (Fct.val 66 (.pointer (some ⟨g32, 1, none⟩)))⟩, ⟨[9, 14], [], [], Fct.cond r46 (some 67) (Fct.val 67 (.int .i64 x2.2))⟩, ⟨[9], [5], [], Fct.cond r46 (some 68) (Fct.val 68 (.pointer (some ⟨g34, 1, none⟩)))⟩, ⟨[9, 16], [], [], Fct.cond r46 (some 69) (Fct.val 69 (.int .i64 b3.2))⟩, ⟨[9, 10, 13, 15, 17], [], [], Fct.cond r46 (some 70) (Fct.val 70 (.bool r47))⟩, ⟨[9, 18], [], [], Fct.val 71 (.bool (r46 && r47))⟩, ⟨[19], [], [], Fct.val 6 (.bool (r46 && r47))⟩] hz45 hd45 (by kernel_rfl) ?_ ?_
  · refine sc (fun _ _ _ _ s _ => px (or_move (s.1.trans e45_9))) ?_
    refine sc (fun _ _ _ _ s _ => px (or_field fo64_0 (s.1.trans e45_3) (by rfl))) ?_
    refine sc (fun _ _ _ f _ _ => px (or_field fo32_0 f.1 (by rfl))) ?_
    refine sc (fun _ _ _ f _ hE => px (or_load1 to3 f.1 (Blk.at_ (be_ hE b45_g30).2 0 rfl))) ?_
    refine sc (fun _ _ _ _ s _ => px (or_field fo32_0 (s.1.trans e45_4) (by rfl))) ?_
    refine sc (fun _ _ _ f _ hE => px (or_load1 to3 f.1 (Blk.at_ (be_ hE b45_g32).2 0 rfl))) ?_
    refine sc (fun _ _ _ _ s _ => px (or_field fo32_0 (s.1.trans e45_5) (by rfl))) ?_
    refine sc (fun _ _ _ f _ hE => px (or_load1 to3 f.1 (Blk.at_ (be_ hE b45_g34).2 0 rfl))) ?_
    refine sc (fun _ _ _ f _ _ => px (or_callf cf61 f.1 (args3 f.2.1 f.2.2.1 f.2.2.2.1) rfl (ring_beside_has_1_w _ m1.1.1 x2.1 b3.1  r46 hr46) post_val)) ?_
    refine sc (fun _ _ _ f _ _ => px (or_move f.1)) ?_
    refine sc (fun _ _ _ f s _ => sg_t rfl rfl rfl f.1 (fun hg => or_move (s.1.trans e45_9))) ?_
    refine sc (fun _ _ _ f s _ => sg_t rfl rfl rfl f.1 (fun hg => or_field fo64_0 (s.1.trans e45_3) (by rfl))) ?_
    refine sc (fun _ _ _ f _ _ => sg_t rfl rfl rfl f.1 (fun hg => or_field fo32_1 (f.2.1.1 hg) (by rfl))) ?_
    refine sc (fun _ _ _ f _ hE => sg_t rfl rfl rfl f.1 (fun hg => or_load1 to3 (f.2.1.1 hg) (Blk.at_ (be_ hE b45_g30).2 1 rfl))) ?_
    refine sc (fun _ _ _ f s _ => sg_t rfl rfl rfl f.1 (fun hg => or_field fo32_1 (s.1.trans e45_4) (by rfl))) ?_
    refine sc (fun _ _ _ f _ hE => sg_t rfl rfl rfl f.1 (fun hg => or_load1 to3 (f.2.1.1 hg) (Blk.at_ (be_ hE b45_g32).2 1 rfl))) ?_
    refine sc (fun _ _ _ f s _ => sg_t rfl rfl rfl f.1 (fun hg => or_field fo32_1 (s.1.trans e45_5) (by rfl))) ?_
    refine sc (fun _ _ _ f _ hE => sg_t rfl rfl rfl f.1 (fun hg => or_load1 to3 (f.2.1.1 hg) (Blk.at_ (be_ hE b45_g34).2 1 rfl))) ?_
    refine sc (fun _ _ _ f _ _ => sg_t rfl rfl rfl f.1 (fun hg => or_callf cf61 (f.2.1.1 hg) (args3 (f.2.2.1.1 hg) (f.2.2.2.1.1 hg) (f.2.2.2.2.1.1 hg)) rfl (ring_beside_has_1_w _ m1.1.2 x2.2 b3.2  r47 (gd_t hr47 hg)) post_val)) ?_
    refine sc (fun _ _ _ f _ _ => px (or_and f.1 (fun hx => f.2.1.1 hx) rfl rfl)) ?_
    refine sc (fun _ _ _ f _ _ => px (or_assign f.1)) ?_
    exact steps_nil
  intro own48 a48 w48 hd48 hz48 hk48 hf48 hE48
  obtain ⟨(e48_6 : a48.eval (.tmp 6) = .bool (r46 && r47)), -⟩ := hf48 [20] rfl
  have hX48 := es_ hX45 hE48
  refine fl_ret ?_
  obtain rfl := osome hs
  exact hret _ _ _ _ (.inl rfl) hd48 (results1_ rfl (RVal.tmp_ e48_6)) ⟨own48, rfl, hX48⟩
theorem ring_beside_over_w (w : World) (m1 : (Int × Int) × (Int × Int)) (y2 : Int) (r : Bool) (hs : ring_beside_over m1 y2 = some r) :
    Calls Try.prog 41 #[.agg #[.int .i64 m1.1.1, .int .i64 m1.1.2, .int .i64 m1.2.1, .int .i64 m1.2.2], .int .i64 y2] w fun e w' => ∃ own' : Own, e = .returned (.bool r) ∧ Evo [] (fun _ => 0) own' w w' := by
  refine fl_enter (n := 21) rfl rfl rfl (Nat.le_of_ble_eq_true rfl) ?_
  intro a0 Q hd0 hz0 harg hret
  have ha0 := harg 0 _ rfl
  have ha1 := harg 1 _ rfl
  clear harg
  have hE0 : Evo [] (fun _ => 0) (fun _ => 0) w w := Evo.refl _ _ _
  refine rg0_seq 21 (fun _ => 0) [0, 0] [⟨[], [0], [], Fct.blk 20 2 (fun g => .pointer (some ⟨g, 0, none⟩)) 64 #[.int .i64 m1.1.1, .int .i64 m1.1.2, .int .i64 m1.2.1, .int .i64 m1.2.2]⟩, ⟨[], [], [], Fct.val 4 (.bool false)⟩] hz0 hd0 (by kernel_rfl) ?_ ?_
  · refine sc (fun _ _ _ _ s _ => px (or_new [(0, .agg #[.int .i64 m1.1.1, .int .i64 m1.1.2, .int .i64 m1.2.1, .int .i64 m1.2.2])] rfl rfl ⟨(s.1.trans ha0), trivial⟩ (by kernel_rfl))) ?_
    refine sc (fun _ _ _ _ _ _ => px (or_assign rfl)) ?_
    exact steps_nil
  intro own21 a21 w21 hd21 hz21 hk21 hf21 hE21
  have e21_1 := (hk21 1 rfl).trans ha1
  obtain ⟨⟨g19, (e21_2 : a21.eval (.tmp 2) = .pointer (some ⟨g19, 0, none⟩)), (b21_g19 : BlkO own21 20 w21 g19 64 #[.int .i64 m1.1.1, .int .i64 m1.1.2, .int .i64 m1.2.1, .int .i64 m1.2.2])⟩, -⟩ := hf21 [0] rfl
  have hX21 := es_ hE0 hE21
  refine fl_seq (fun Q22 hn22 hp22 => ?_)
  refine rg0_seq 21 own21 (bz 4) [⟨[], [2], [], Fct.val 5 (.pointer (some ⟨g19, 2, none⟩))⟩, ⟨[0], [], [], Fct.val 6 (.pointer (some ⟨g19, 2, none⟩))⟩, ⟨[1], [], [], Fct.val 7 (.int .i64 m1.2.1)⟩, ⟨[2], [], [], Fct.val 8 (.bool (decide (m1.2.1 < 0)))⟩] hz21 hd21 (by kernel_rfl) ?_ ?_
  · refine sc (fun _ _ _ _ s _ => px (or_field fo64_1 (s.1.trans e21_2) (by rfl))) ?_
    refine sc (fun _ _ _ f _ _ => px (or_field fo32_0 f.1 (by rfl))) ?_
    refine sc (fun _ _ _ f _ hE => px (or_load1 to3 f.1 (Blk.at_ (be_ hE b21_g19).2 2 rfl))) ?_
    refine sc (fun _ _ _ f _ _ => px (or_lss f.1 rfl rfl)) ?_
    exact steps_nil
  intro own23 a23 w23 hd23 hz23 hk23 hf23 hE23
  have e23_1 := (hk23 1 rfl).trans e21_1
  have e23_2 := (hk23 2 rfl).trans e21_2
  obtain ⟨(e23_8 : a23.eval (.tmp 8) = .bool (decide (m1.2.1 < 0))), -⟩ := hf23 [3] rfl
  have hX23 := es_ hX21 hE23
  have b23_g19 := be_ hE23 b21_g19
  refine fl_cond e23_8 hs (fun c24 hs => ?_) (fun c24 hs => ?_)
  · refine rg0_seq 21 own23 [0, 1, 0, 4, 12, 31, 63] [⟨[], [1], [], Fct.val 9 (.int .i64 y2)⟩, ⟨[0], [], [], Fct.val 10 (.int .i64 (ml 2 y2))⟩, ⟨[], [2], [], Fct.val 11 (.pointer (some ⟨g19, 0, none⟩))⟩, ⟨[2], [], [], Fct.val 12 (.pointer (some ⟨g19, 1, none⟩))⟩, ⟨[3], [], [], Fct.val 13 (.int .i64 m1.1.2)⟩, ⟨[1, 4], [], [], Fct.val 14 (.bool (decide (m1.1.2 ≤ (ml 2 y2))))⟩, ⟨[5], [], [], Fct.val 4 (.bool (decide (m1.1.2 ≤ (ml 2 y2))))⟩] hz23 hd23 (by kernel_rfl) ?_ ?_
    · refine sc (fun _ _ _ _ s _ => px (or_move (s.1.trans e23_1))) ?_
      refine sc (fun _ _ _ f _ _ => px (or_mul rfl f.1 rfl)) ?_
      refine sc (fun _ _ _ _ s _ => px (or_field fo64_0 (s.1.trans e23_2) (by rfl))) ?_
      refine sc (fun _ _ _ f _ _ => px (or_field fo32_1 f.1 (by rfl))) ?_
      refine sc (fun _ _ _ f _ hE => px (or_load1 to3 f.1 (Blk.at_ (be_ hE b23_g19).2 1 rfl))) ?_
      refine sc (fun _ _ _ f _ _ => px (or_geq f.1 f.2.1 rfl)) ?_
      refine sc (fun _ _ _ f _ _ => px (or_assign f.1)) ?_
      exact steps_nil
    intro own25 a25 w25 hd25 hz25 hk25 hf25 hE25
    obtain ⟨(e25_4 : a25.eval (.tmp 4) = .bool (decide (m1.1.2 ≤ (ml 2 y2)))), -⟩ := hf25 [6] rfl
    have hX25 := es_ hX23 hE25
    refine fl_ret ?_
    refine hp22 _ _ _ rfl ?_
    obtain rfl := osome hs
    exact hret _ _ _ _ (.inl rfl) hd25 (results1_ rfl (RVal.tmp_ e25_4)) ⟨own25, rfl, hX25⟩
  refine fl_skip ?_
  refine hn22 _ _ ?_
  refine rg0_seq 21 own23 [0, 1, 0, 4, 12, 31, 63] [⟨[], [1], [], Fct.val 15 (.int .i64 y2)⟩, ⟨[0], [], [], Fct.val 16 (.int .i64 (ml 2 y2))⟩, ⟨[], [2], [], Fct.val 17 (.pointer (some ⟨g19, 0, none⟩))⟩, ⟨[2], [], [], Fct.val 18 (.pointer (some ⟨g19, 1, none⟩))⟩, ⟨[3], [], [], Fct.val 19 (.int .i64 m1.1.2)⟩, ⟨[1, 4], [], [], Fct.val 20 (.bool (decide (m1.1.2 < (ml 2 y2))))⟩, ⟨[5], [], [], Fct.val 4 (.bool (decide (m1.1.2 < (ml 2 y2))))⟩] hz23 hd23 (by kernel_rfl) ?_ ?_
  · refine sc (fun _ _ _ _ s _ => px (or_move (s.1.trans e23_1))) ?_
    refine sc (fun _ _ _ f _ _ => px (or_mul rfl f.1 rfl)) ?_
    refine sc (fun _ _ _ _ s _ => px (or_field fo64_0 (s.1.trans e23_2) (by rfl))) ?_
    refine sc (fun _ _ _ f _ _ => px (or_field fo32_1 f.1 (by rfl))) ?_
    refine sc (fun _ _ _ f _ hE => px (or_load1 to3 f.1 (Blk.at_ (be_ hE b23_g19).2 1 rfl))) ?_
    refine sc (fun _ _ _ f _ _ => px (or_gtr f.1 f.2.1 rfl)) ?_
    refine sc (fun _ _ _ f _ _ => px (or_assign f.1)) ?_
    exact steps_nil
  intro own26 a26 w26 hd26 hz26 hk26 hf26 hE26
  obtain ⟨(e26_4 : a26.eval (.tmp 4) = .bool (decide (m1.1.2 < (ml 2 y2)))), -⟩ := hf26 [6] rfl
  have hX26 := es_ hX23 hE26
  refine fl_ret ?_
  obtain rfl := osome hs
  exact hret _ _ _ _ (.inl rfl) hd26 (results1_ rfl (RVal.tmp_ e26_4)) ⟨own26, rfl, hX26⟩
theorem ring_beside_side_w (w : World) (m1 : (Int × Int) × (Int × Int)) (x2 : Int × Int) (b3 : Int × Int) (r : Int) (hs : ring_beside_side m1 x2 b3 = some r) :
    Calls Try.prog 42 #[.agg #[.int .i64 m1.1.1, .int .i64 m1.1.2, .int .i64 m1.2.1, .int .i64 m1.2.2], .agg #[.int .i64 x2.1, .int .i64 x2.2], .agg #[.int .i64 b3.1, .int .i64 b3.2]] w fun e w' => ∃ own' : Own, e = .returned (.int .i64 r) ∧ Evo [] (fun _ => 0) own' w w' := by
  refine fl_enter (n := 53) rfl rfl rfl (Nat.le_of_ble_eq_true rfl) ?_
  intro a0 Q hd0 hz0 harg hret
  have ha0 := harg 0 _ rfl
  have ha1 := harg 1 _ rfl
  have ha2 := harg 2 _ rfl
  clear harg
  have hE0 : Evo [] (fun _ => 0) (fun _ => 0) w w := Evo.refl _ _ _
  refine rg0_seq 53 (fun _ => 0) [0, 0, 0, 0] [⟨[], [0], [], Fct.blk 36 3 (fun g => .pointer (some ⟨g, 0, none⟩)) 64 #[.int .i64 m1.1.1, .int .i64 m1.1.2, .int .i64 m1.2.1, .int .i64 m1.2.2]⟩, ⟨[], [1], [], Fct.blk 38 4 (fun g => .pointer (some ⟨g, 0, none⟩)) 32 #[.int .i64 x2.1, .int .i64 x2.2]⟩, ⟨[], [2], [], Fct.blk 40 5 (fun g => .pointer (some ⟨g, 0, none⟩)) 32 #[.int .i64 b3.1, .int .i64 b3.2]⟩, ⟨[], [], [], Fct.val 6 (.int .i64 0)⟩] hz0 hd0 (by kernel_rfl) ?_ ?_
  · refine sc (fun _ _ _ _ s _ => px (or_new [(0, .agg #[.int .i64 m1.1.1, .int .i64 m1.1.2, .int .i64 m1.2.1, .int .i64 m1.2.2])] rfl rfl ⟨(s.1.trans ha0), trivial⟩ (by kernel_rfl))) ?_
    refine sc (fun _ _ _ _ s _ => px (or_new [(1, .agg #[.int .i64 x2.1, .int .i64 x2.2])] rfl rfl ⟨(s.1.trans ha1), trivial⟩ (by kernel_rfl))) ?_
    refine sc (fun _ _ _ _ s _ => px (or_new [(2, .agg #[.int .i64 b3.1, .int .i64 b3.2])] rfl rfl ⟨(s.1.trans ha2), trivial⟩ (by kernel_rfl))) ?_
    refine sc (fun _ _ _ _ _ _ => px (or_assign rfl)) ?_
    exact steps_nil
  intro own41 a41 w41 hd41 hz41 hk41 hf41 hE41
  obtain ⟨⟨g35, (e41_3 : a41.eval (.tmp 3) = .pointer (some ⟨g35, 0, none⟩)), (b41_g35 : BlkO own41 36 w41 g35 64 #[.int .i64 m1.1.1, .int .i64 m1.1.2, .int .i64 m1.2.1, .int .i64 m1.2.2])⟩, ⟨g37, (e41_4 : a41.eval (.tmp 4) = .pointer (some ⟨g37, 0, none⟩)), (b41_g37 : BlkO own41 38 w41 g37 32 #[.int .i64 x2.1, .int .i64 x2.2])⟩, ⟨g39, (e41_5 : a41.eval (.tmp 5) = .pointer (some ⟨g39, 0, none⟩)), (b41_g39 : BlkO own41 40 w41 g39 32 #[.int .i64 b3.1, .int .i64 b3.2])⟩, -⟩ := hf41 [0, 1, 2] rfl
  have hX41 := es_ hE0 hE41
  refine rg_draw_seq g_mixed (n := 53) (rs := []) (own0 := own41) (K := []) (bs := [0, 1, 0, 4, 15, 0, 32, 0, 128, 480, 31, 2047]) (ds := [⟨[], [5], [], Fct.val 10 (.pointer (some ⟨g39, 0, none⟩))⟩, ⟨[0], [], [], Fct.val 11 (.int .i64 b3.1)⟩, ⟨[], [4], [], Fct.val 12 (.pointer (some ⟨g37, 0, none⟩))⟩, ⟨[2], [], [], Fct.val 13 (.int .i64 x2.1)⟩, ⟨[1, 3], [], [], Fct.val 14 (.int .i64 (sb b3.1 x2.1))⟩, ⟨[], [5], [], Fct.val 15 (.pointer (some ⟨g39, 1, none⟩))⟩, ⟨[5], [], [], Fct.val 16 (.int .i64 b3.2)⟩, ⟨[], [4], [], Fct.val 17 (.pointer (some ⟨g37, 1, none⟩))⟩, ⟨[7], [], [], Fct.val 18 (.int .i64 x2.2)⟩, ⟨[6, 8], [], [], Fct.val 19 (.int .i64 (sb b3.2 x2.2))⟩, ⟨[4], [], [], Fct.val 7 (.int .i64 (sb b3.1 x2.1))⟩, ⟨[9], [], [], Fct.val 8 (.int .i64 (sb b3.2 x2.2))⟩]) (by kernel_rfl) hz41 hd41 nm_ ?_ ?_
  · refine sc (fun _ _ _ _ s _ => px (or_field fo32_0 (s.1.trans e41_5) (by rfl))) ?_
    refine sc (fun _ _ _ f _ hE => px (or_load1 to3 f.1 (Blk.at_ (be_ hE b41_g39).2 0 rfl))) ?_
    refine sc (fun _ _ _ _ s _ => px (or_field fo32_0 (s.1.trans e41_4) (by rfl))) ?_
    refine sc (fun _ _ _ f _ hE => px (or_load1 to3 f.1 (Blk.at_ (be_ hE b41_g37).2 0 rfl))) ?_
    refine sc (fun _ _ _ f _ _ => px (or_sub f.1 f.2.1 rfl)) ?_
    refine sc (fun _ _ _ _ s _ => px (or_field fo32_1 (s.1.trans e41_5) (by rfl))) ?_
    refine sc (fun _ _ _ f _ hE => px (or_load1 to3 f.1 (Blk.at_ (be_ hE b41_g39).2 1 rfl))) ?_
    refine sc (fun _ _ _ _ s _ => px (or_field fo32_1 (s.1.trans e41_4) (by rfl))) ?_
    refine sc (fun _ _ _ f _ hE => px (or_load1 to3 f.1 (Blk.at_ (be_ hE b41_g37).2 1 rfl))) ?_
    refine sc (fun _ _ _ f _ _ => px (or_sub f.1 f.2.1 rfl)) ?_
    refine sc (fun _ _ _ f _ _ => px (or_assign f.1)) ?_
    refine sc (fun _ _ _ f _ _ => px (or_assign f.1)) ?_
    exact steps_nil
  intro own42 a42 w42 hd42 hz42 hk42 hf42 hE42
  have e42_3 := (hk42 3 rfl).trans e41_3
  have e42_4 := (hk42 4 rfl).trans e41_4
  obtain ⟨(e42_7 : a42.eval (.tmp 7) = .int .i64 (sb b3.1 x2.1)), (e42_8 : a42.eval (.tmp 8) = .int .i64 (sb b3.2 x2.2)), -⟩ := hf42 [10, 11] rfl
  have hX42 := es_ hX41 hE42
  have b42_g35 := be_ hE42 b41_g35
  have b42_g37 := be_ hE42 b41_g37
  obtain ⟨x43, hx43, hs⟩ := obind hs
  obtain ⟨x44, hx44, hs⟩ := obind hs
  refine rg0_seq 53 own42 [0, 0, 2, 6, 0, 16, 48, 126, 255, 0, 0, 1024, 3072, 0, 8192, 24576, 64512, 130560, 262143, 524287] [⟨[], [7], [], Fct.val 20 (.int .i64 (sb b3.1 x2.1))⟩, ⟨[], [3], [], Fct.val 21 (.pointer (some ⟨g35, 0, none⟩))⟩, ⟨[1], [], [], Fct.val 22 (.pointer (some ⟨g35, 1, none⟩))⟩, ⟨[2], [], [], Fct.val 23 (.int .i64 m1.1.2)⟩, ⟨[], [4], [], Fct.val 24 (.pointer (some ⟨g37, 1, none⟩))⟩, ⟨[4], [], [], Fct.val 25 (.int .i64 x2.2)⟩, ⟨[5], [], [], Fct.val 26 (.int .i64 (ml 2 x2.2))⟩, ⟨[3, 6], [], [], Fct.val 27 (.int .i64 (sb m1.1.2 (ml 2 x2.2)))⟩, ⟨[0, 7], [], [], Fct.val 28 (.int .i64 x43)⟩, ⟨[], [8], [], Fct.val 29 (.int .i64 (sb b3.2 x2.2))⟩, ⟨[], [3], [], Fct.val 30 (.pointer (some ⟨g35, 0, none⟩))⟩, ⟨[10], [], [], Fct.val 31 (.pointer (some ⟨g35, 0, none⟩))⟩, ⟨[11], [], [], Fct.val 32 (.int .i64 m1.1.1)⟩, ⟨[], [4], [], Fct.val 33 (.pointer (some ⟨g37, 0, none⟩))⟩, ⟨[13], [], [], Fct.val 34 (.int .i64 x2.1)⟩, ⟨[14], [], [], Fct.val 35 (.int .i64 (ml 2 x2.1))⟩, ⟨[12, 15], [], [], Fct.val 36 (.int .i64 (sb m1.1.1 (ml 2 x2.1)))⟩, ⟨[9, 16], [], [], Fct.val 37 (.int .i64 x44)⟩, ⟨[8, 17], [], [], Fct.val 38 (.int .i64 (sb x43 x44))⟩, ⟨[18], [], [], Fct.val 9 (.int .i64 (sb x43 x44))⟩] hz42 hd42 (by kernel_rfl) ?_ ?_
  · refine sc (fun _ _ _ _ s _ => px (or_move (s.1.trans e42_7))) ?_
    refine sc (fun _ _ _ _ s _ => px (or_field fo64_0 (s.1.trans e42_3) (by rfl))) ?_
    refine sc (fun _ _ _ f _ _ => px (or_field fo32_1 f.1 (by rfl))) ?_
    refine sc (fun _ _ _ f _ hE => px (or_load1 to3 f.1 (Blk.at_ (be_ hE b42_g35).2 1 rfl))) ?_
    refine sc (fun _ _ _ _ s _ => px (or_field fo32_1 (s.1.trans e42_4) (by rfl))) ?_
    refine sc (fun _ _ _ f _ hE => px (or_load1 to3 f.1 (Blk.at_ (be_ hE b42_g37).2 1 rfl))) ?_
    refine sc (fun _ _ _ f _ _ => px (or_mul rfl f.1 rfl)) ?_
    refine sc (fun _ _ _ f _ _ => px (or_sub f.1 f.2.1 rfl)) ?_
    refine sc (fun _ _ _ f _ _ => px (or_mul f.1 f.2.1 (osome hx43).symm)) ?_
    refine sc (fun _ _ _ _ s _ => px (or_move (s.1.trans e42_8))) ?_
    refine sc (fun _ _ _ _ s _ => px (or_field fo64_0 (s.1.trans e42_3) (by rfl))) ?_
    refine sc (fun _ _ _ f _ _ => px (or_field fo32_0 f.1 (by rfl))) ?_
    refine sc (fun _ _ _ f _ hE => px (or_load1 to3 f.1 (Blk.at_ (be_ hE b42_g35).2 0 rfl))) ?_
    refine sc (fun _ _ _ _ s _ => px (or_field fo32_0 (s.1.trans e42_4) (by rfl))) ?_
    refine sc (fun _ _ _ f _ hE => px (or_load1 to3 f.1 (Blk.at_ (be_ hE b42_g37).2 0 rfl))) ?_
    refine sc (fun _ _ _ f _ _ => px (or_mul rfl f.1 rfl)) ?_
    refine sc (fun _ _ _ f _ _ => px (or_sub f.1 f.2.1 rfl)) ?_
    refine sc (fun _ _ _ f _ _ => px (or_mul f.1 f.2.1 (osome hx44).symm)) ?_
    refine sc (fun _ _ _ f _ _ => px (or_sub f.1 f.2.1 rfl)) ?_
    refine sc (fun _ _ _ f _ _ => px (or_assign f.1)) ?_
    exact steps_nil
  intro own45 a45 w45 hd45 hz45 hk45 hf45 hE45
  have e45_3 := (hk45 3 rfl).trans e42_3
  have e45_7 := (hk45 7 rfl).trans e42_7
  have e45_8 := (hk45 8 rfl).trans e42_8
  obtain ⟨(e45_9 : a45.eval (.tmp 9) = .int .i64 (sb x43 x44)), -⟩ := hf45 [19] rfl
  have hX45 := es_ hX42 hE45
  have b45_g35 := be_ hE45 b42_g35
  refine fl_seq (fun Q46 hn46 hp46 => ?_)
  have K52 : ∀ (a52 : Act) (w52 : World) (own52 : Own) (n51 : Int), a52.defers = [] → a52.tmps.size = 53 → a52.eval (.tmp 9) = .int .i64 n51 → Evo [] (fun _ => 0) own52 w w52 → ring_beside_side_k1 n51 = some r → Q46 .normal a52 w52 := by
    intro a52 w52 own52 n51 hd53 hz53 e53_9 hE53 hs
    refine hn46 _ _ ?_
    refine rg0_seq 53 own52 (bz 2) [⟨[], [9], [], Fct.val 52 (.int .i64 n51)⟩, ⟨[0], [], [], Fct.val 6 (.int .i64 n51)⟩] hz53 hd53 (by kernel_rfl) ?_ ?_
    · refine sc (fun _ _ _ _ s _ => px (or_move (s.1.trans e53_9))) ?_
      refine sc (fun _ _ _ f _ _ => px (or_assign f.1)) ?_
      exact steps_nil
    intro own54 a54 w54 hd54 hz54 hk54 hf54 hE54
    obtain ⟨(e54_6 : a54.eval (.tmp 6) = .int .i64 n51), -⟩ := hf54 [1] rfl
    have hX54 := es_ hE53 hE54
    refine fl_ret ?_
    obtain rfl := (osome hs).symm
    exact hret _ _ _ _ (.inl rfl) hd54 (results1_ rfl (RVal.tmp_ e54_6)) ⟨own54, rfl, hX54⟩
  refine rg0_seq 53 own45 (bz 2) [⟨[], [9], [], Fct.val 39 (.int .i64 (sb x43 x44))⟩, ⟨[0], [], [], Fct.val 40 (.bool (decide ((sb x43 x44) = 0)))⟩] hz45 hd45 (by kernel_rfl) ?_ ?_
  · refine sc (fun _ _ _ _ s _ => px (or_move (s.1.trans e45_9))) ?_
    refine sc (fun _ _ _ f _ _ => px (or_eql f.1 rfl rfl)) ?_
    exact steps_nil
  intro own55 a55 w55 hd55 hz55 hk55 hf55 hE55
  have e55_3 := (hk55 3 rfl).trans e45_3
  have e55_7 := (hk55 7 rfl).trans e45_7
  have e55_8 := (hk55 8 rfl).trans e45_8
  have e55_9 := (hk55 9 rfl).trans e45_9
  obtain ⟨(e55_40 : a55.eval (.tmp 40) = .bool (decide ((sb x43 x44) = 0))), -⟩ := hf55 [1] rfl
  have hX55 := es_ hX45 hE55
  have b55_g35 := be_ hE55 b45_g35
  refine fl_cond e55_40 hs (fun c56 hs => ?_) (fun c56 hs => ?_)
  · obtain ⟨x57, hx57, hs⟩ := obind hs
    refine rg0 53 own55 [0, 0, 2, 6, 15, 0, 0, 64, 192, 480, 1023, 2047] [⟨[], [7], [], Fct.val 41 (.int .i64 (sb b3.1 x2.1))⟩, ⟨[], [3], [], Fct.val 42 (.pointer (some ⟨g35, 2, none⟩))⟩, ⟨[1], [], [], Fct.val 43 (.pointer (some ⟨g35, 2, none⟩))⟩, ⟨[2], [], [], Fct.val 44 (.int .i64 m1.2.1)⟩, ⟨[0, 3], [], [], Fct.val 45 (.int .i64 (ml (sb b3.1 x2.1) m1.2.1))⟩, ⟨[], [8], [], Fct.val 46 (.int .i64 (sb b3.2 x2.2))⟩, ⟨[], [3], [], Fct.val 47 (.pointer (some ⟨g35, 2, none⟩))⟩, ⟨[6], [], [], Fct.val 48 (.pointer (some ⟨g35, 3, none⟩))⟩, ⟨[7], [], [], Fct.val 49 (.int .i64 m1.2.2)⟩, ⟨[5, 8], [], [], Fct.val 50 (.int .i64 (ml (sb b3.2 x2.2) m1.2.2))⟩, ⟨[4, 9], [], [], Fct.val 51 (.int .i64 x57)⟩, ⟨[10], [], [], Fct.val 9 (.int .i64 x57)⟩] hz55 hd55 (by kernel_rfl) ?_ ?_
    · refine sc (fun _ _ _ _ s _ => px (or_move (s.1.trans e55_7))) ?_
      refine sc (fun _ _ _ _ s _ => px (or_field fo64_1 (s.1.trans e55_3) (by rfl))) ?_
      refine sc (fun _ _ _ f _ _ => px (or_field fo32_0 f.1 (by rfl))) ?_
      refine sc (fun _ _ _ f _ hE => px (or_load1 to3 f.1 (Blk.at_ (be_ hE b55_g35).2 2 rfl))) ?_
      refine sc (fun _ _ _ f _ _ => px (or_mul f.1 f.2.1 rfl)) ?_
      refine sc (fun _ _ _ _ s _ => px (or_move (s.1.trans e55_8))) ?_
      refine sc (fun _ _ _ _ s _ => px (or_field fo64_1 (s.1.trans e55_3) (by rfl))) ?_
      refine sc (fun _ _ _ f _ _ => px (or_field fo32_1 f.1 (by rfl))) ?_
      refine sc (fun _ _ _ f _ hE => px (or_load1 to3 f.1 (Blk.at_ (be_ hE b55_g35).2 3 rfl))) ?_
      refine sc (fun _ _ _ f _ _ => px (or_mul f.1 f.2.1 rfl)) ?_
      refine sc (fun _ _ _ f _ _ => px (or_add f.1 f.2.1 (osome hx57).symm)) ?_
      refine sc (fun _ _ _ f _ _ => px (or_assign f.1)) ?_
      exact steps_nil
    intro own58 a58 w58 hd58 hz58 hk58 hf58 hE58
    obtain ⟨(e58_9 : a58.eval (.tmp 9) = .int .i64 x57), -⟩ := hf58 [11] rfl
    have hX58 := es_ hX55 hE58
    exact (K52 _ _ own58 _ hd58 hz58 e58_9 hX58 hs)
  refine fl_skip ?_
  exact (K52 _ _ own55 _ hd55 hz55 e55_9 hX55 hs)
theorem ring_Beside_w (w : World) (l1 : List (Int × Int)) (Al1 : Option Addr) (cl1 : Nat) (x2 : Int × Int) (b3 : Int × Int) (hl1 : RdO (fun _ => 0) [0] w R32 Al1 cl1 l1) (r : Int × Bool) (hs : ring_Beside l1 x2 b3 = some r) :
    Calls Try.prog 17 #[.slice Al1 l1.length cl1, .agg #[.int .i64 x2.1, .int .i64 x2.2], .agg #[.int .i64 b3.1, .int .i64 b3.2]] w fun e w' => ∃ own' : Own, e = .returned (.tuple #[.int .i64 r.1, .bool r.2]) ∧ Evo [] (fun _ => 0) own' w w' := by
  refine fl_enterM (n := 101) (kD := 11) (by decide) rfl rfl rfl (Nat.le_of_ble_eq_true rfl) ?_
  intro a0 Q hd0 hz0 harg hret
  have ha0 := harg 0 _ rfl
  have ha1 := harg 1 _ rfl
  have ha2 := harg 2 _ rfl
  clear harg
  have hE0 : Evo [] (fun _ => 0) (fun _ => 0) w w := Evo.refl _ _ _
  have hmk0 : MkO (fun _ => 0) 11 w [] := MkO.nil_
  refine rg0_seq 101 (fun _ => 0) [0, 0, 0, 0] [⟨[], [1], [], Fct.blk 365 4 (fun g => .pointer (some ⟨g, 0, none⟩)) 32 #[.int .i64 x2.1, .int .i64 x2.2]⟩, ⟨[], [2], [], Fct.blk 367 5 (fun g => .pointer (some ⟨g, 0, none⟩)) 32 #[.int .i64 b3.1, .int .i64 b3.2]⟩, ⟨[], [], [], Fct.blk 369 6 (fun g => .pointer (some ⟨g, 0, none⟩)) 3 #[.int .i64 0]⟩, ⟨[], [], [], Fct.blk 371 7 (fun g => .pointer (some ⟨g, 0, none⟩)) 4 #[.bool false]⟩] hz0 hd0 (by kernel_rfl) ?_ ?_
  · refine sc (fun _ _ _ _ s _ => px (or_new [(1, .agg #[.int .i64 x2.1, .int .i64 x2.2])] rfl rfl ⟨(s.1.trans ha1), trivial⟩ (by kernel_rfl))) ?_
    refine sc (fun _ _ _ _ s _ => px (or_new [(2, .agg #[.int .i64 b3.1, .int .i64 b3.2])] rfl rfl ⟨(s.1.trans ha2), trivial⟩ (by kernel_rfl))) ?_
    refine sc (fun _ _ _ _ _ _ => px (or_new [] rfl rfl trivial (by kernel_rfl))) ?_
    refine sc (fun _ _ _ _ _ _ => px (or_new [] rfl rfl trivial (by kernel_rfl))) ?_
    exact steps_nil
  intro own372 a372 w372 hd372 hz372 hk372 hf372 hE372
  have e372_0 := (hk372 0 rfl).trans ha0
  obtain ⟨⟨g364, (e372_4 : a372.eval (.tmp 4) = .pointer (some ⟨g364, 0, none⟩)), (b372_g364 : BlkO own372 365 w372 g364 32 #[.int .i64 x2.1, .int .i64 x2.2])⟩, ⟨g366, (e372_5 : a372.eval (.tmp 5) = .pointer (some ⟨g366, 0, none⟩)), (b372_g366 : BlkO own372 367 w372 g366 32 #[.int .i64 b3.1, .int .i64 b3.2])⟩, ⟨g368, (e372_6 : a372.eval (.tmp 6) = .pointer (some ⟨g368, 0, none⟩)), (b372_g368 : BlkO own372 369 w372 g368 3 #[.int .i64 0])⟩, ⟨g370, (e372_7 : a372.eval (.tmp 7) = .pointer (some ⟨g370, 0, none⟩)), (b372_g370 : BlkO own372 371 w372 g370 4 #[.bool false])⟩, -⟩ := hf372 [0, 1, 2, 3] rfl
  have hX372 := es_ hE0 hE372
  have b372_Al1 := RdO.evo rfl hE372 hl1
  have b372_mk := MkO.evo (by decide) hE372 hmk0
  refine fl_seq (fun Q373 hn373 hp373 => ?_)
  obtain ⟨r376, hr376, hs⟩ := obind hs
  obtain ⟨r377, hr377, hs⟩ := obind hs
  obtain ⟨x378, hx378, hs⟩ := obind hs
  refine rg0_seq 101 own372 [0, 0, 3, 7, 15, 15, 63, 127, 255, 511, 1023, 2047, 4095, 8191, 16383] [⟨[], [4], [], Fct.val 12 (.agg #[.int .i64 x2.1, .int .i64 x2.2])⟩, ⟨[], [5], [], Fct.val 13 (.agg #[.int .i64 b3.1, .int .i64 b3.2])⟩, ⟨[0, 1], [], [], Fct.val 14 (.bool (decide (x2 = b3)))⟩, ⟨[2], [], [], Fct.val 15 (.bool (decide (x2 = b3)))⟩, ⟨[3], [4], [], Fct.cond (!(decide (x2 = b3))) (some 16) (Fct.val 16 (.agg #[.int .i64 x2.1, .int .i64 x2.2]))⟩, ⟨[3], [5], [], Fct.cond (!(decide (x2 = b3))) (some 17) (Fct.val 17 (.agg #[.int .i64 b3.1, .int .i64 b3.2]))⟩, ⟨[3, 4, 5], [], [], Fct.cond (!(decide (x2 = b3))) (some 18) (Fct.row 375 [] 18 32 R32 [x2, b3])⟩, ⟨[3, 6], [], [], Fct.cond (!(decide (x2 = b3))) (some 19) (Fct.val 19 (.bool r376))⟩, ⟨[3, 7], [], [], Fct.cond (!(decide (x2 = b3))) (some 20) (Fct.val 20 (.bool (!r376)))⟩, ⟨[3, 8], [], [], Fct.val 21 (.bool ((decide (x2 = b3)) || (!r376)))⟩, ⟨[9], [], [], Fct.val 22 (.bool ((decide (x2 = b3)) || (!r376)))⟩, ⟨[10], [0], [], Fct.cond (!((decide (x2 = b3)) || (!r376))) (some 23) (Fct.val 23 (.slice Al1 l1.length cl1))⟩, ⟨[10, 11], [], [], Fct.cond (!((decide (x2 = b3)) || (!r376))) (some 24) (Fct.val 24 (.bool r377))⟩, ⟨[10, 12], [], [], Fct.cond (!((decide (x2 = b3)) || (!r376))) (some 25) (Fct.val 25 (.bool (!r377)))⟩, ⟨[10, 13], [], [], Fct.val 26 (.bool x378)⟩] hz372 hd372 (by kernel_rfl) ?_ ?_
  · refine sc (fun _ _ _ _ s hE => px (or_load (l := [.int .i64 x2.1, .int .i64 x2.2]) ta32 (s.1.trans e372_4) (Blk.cellsFrom (be_ hE b372_g364).2 0 rfl) rfl)) ?_
    refine sc (fun _ _ _ _ s hE => px (or_load (l := [.int .i64 b3.1, .int .i64 b3.2]) ta32 (s.1.trans e372_5) (Blk.cellsFrom (be_ hE b372_g366).2 0 rfl) rfl)) ?_
    refine sc (fun _ _ _ f _ _ => px (or_eqlA sg32 f.1 f.2.1 (se32 x2.1 x2.2 b3.1 b3.2 _) rfl)) ?_
    refine sc (fun _ _ _ f _ _ => px (or_move f.1)) ?_
    refine sc (fun _ _ _ f s hE => sg_f rfl rfl rfl f.1 (fun hg => or_load (l := [.int .i64 x2.1, .int .i64 x2.2]) ta32 (s.1.trans e372_4) (Blk.cellsFrom (be_ hE b372_g364).2 0 rfl) rfl)) ?_
    refine sc (fun _ _ _ f s hE => sg_f rfl rfl rfl f.1 (fun hg => or_load (l := [.int .i64 b3.1, .int .i64 b3.2]) ta32 (s.1.trans e372_5) (Blk.cellsFrom (be_ hE b372_g366).2 0 rfl) rfl)) ?_
    refine sc (fun _ _ _ f _ _ => sg_f rfl rfl rfl f.1 (fun hg => or_lit (lab := 375) (e := 32) (cs := #[.int .i64 x2.1, .int .i64 x2.2, .int .i64 b3.1, .int .i64 b3.2]) (F := E32) (or_new [(16, .agg #[.int .i64 x2.1, .int .i64 x2.2]), (17, .agg #[.int .i64 b3.1, .int .i64 b3.2])] rfl rfl ⟨(f.2.1.1 hg), (f.2.2.1.1 hg), trivial⟩ (by kernel_rfl)) rfl rfl (show 2 ≤ maxLen by decide))) ?_
    refine sc (fun own a wx hf hsl hE => ?_) ?_
    · obtain ⟨f_15, c_18, -⟩ := hf
      refine sg_f rfl rfl rfl f_15 (fun hg => ?_)
      obtain ⟨⟨A374, cA374⟩, f_18, b_A374⟩ := c_18.1 hg
      exact or_call cf33 (args1 f_18) (exact_Right_w _ [x2, b3] A374 cA374 (RdO.zero (RwO.rd b_A374)) r376 (gd_t hr376 hg)) post_val
    refine sc (fun _ _ _ f _ _ => sg_f rfl rfl rfl f.1 (fun hg => or_not (f.2.1.1 hg) rfl)) ?_
    refine sc (fun _ _ _ f _ _ => px (or_or f.1 rfl (fun hx => f.2.1.1 hx) rfl)) ?_
    refine sc (fun _ _ _ f _ _ => px (or_move f.1)) ?_
    refine sc (fun _ _ _ f s _ => sg_f rfl rfl rfl f.1 (fun hg => or_move (s.1.trans e372_0))) ?_
    refine sc (fun _ _ _ f _ hE => sg_f rfl rfl rfl f.1 (fun hg => or_call cf33 (args1 (f.2.1.1 hg)) (exact_Right_w _ l1 Al1 cl1 (RdO.zero (RdO.evo rfl hE b372_Al1)) r377 (gd_t hr377 hg)) post_val)) ?_
    refine sc (fun _ _ _ f _ _ => sg_f rfl rfl rfl f.1 (fun hg => or_not (f.2.1.1 hg) rfl)) ?_
    refine sc (fun _ _ _ f _ _ => px (or_or f.1 rfl (fun hx => f.2.1.1 hx) (osome hx378).symm)) ?_
    exact steps_nil
  intro own379 a379 w379 hd379 hz379 hk379 hf379 hE379
  have e379_0 := (hk379 0 rfl).trans e372_0
  have e379_4 := (hk379 4 rfl).trans e372_4
  have e379_5 := (hk379 5 rfl).trans e372_5
  have e379_6 := (hk379 6 rfl).trans e372_6
  have e379_7 := (hk379 7 rfl).trans e372_7
  obtain ⟨(e379_26 : a379.eval (.tmp 26) = .bool x378), -⟩ := hf379 [14] rfl
  have hX379 := es_ hX372 hE379
  have b379_Al1 := RdO.evo rfl hE379 b372_Al1
  have b379_mk := MkO.evo (by decide) hE379 b372_mk
  have b379_g364 := be_ hE379 b372_g364
  have b379_g366 := be_ hE379 b372_g366
  have b379_g368 := be_ hE379 b372_g368
  have b379_g370 := be_ hE379 b372_g370
  refine fl_cond e379_26 hs (fun c380 hs => ?_) (fun c380 hs => ?_)
  · refine rg_plain_seq (n := 101) (rs := [Fct.at_ 369 g368 3 #[.int .i64 0], Fct.at_ 371 g370 4 #[.bool false]]) (own0 := own379) (K := [369, 371]) (bs := (bz 2)) (ds := [⟨[2], [6], [369], Fct.at_ 382 g368 3 #[.int .i64 0]⟩, ⟨[3], [7], [371], Fct.at_ 383 g370 4 #[.bool false]⟩]) (by kernel_rfl) hz379 hd379 (by simp only [List.forall_mem_cons]; exact ⟨b379_g368, b379_g370, fun _ h => nomatch h⟩) ?_ ?_
    · refine sc (fun own a wx hf hsl hE => ?_) ?_
      · obtain ⟨b_g368, -⟩ := hf
        obtain ⟨s_6, -⟩ := hsl
        exact px (or_store1 (lab := 369) (lab2 := 382) ts3 (s_6.trans e379_6) rfl b_g368 (by simp) rfl (mem_of rfl) (by decide) rfl (fun own' a' w' ha hb => hb))
      refine sc (fun own a wx hf hsl hE => ?_) ?_
      · obtain ⟨b_g370, -⟩ := hf
        obtain ⟨s_7, -⟩ := hsl
        exact px (or_store1 (lab := 371) (lab2 := 383) ts4 (s_7.trans e379_7) rfl b_g370 (by simp) rfl (mem_of rfl) (by decide) rfl (fun own' a' w' ha hb => hb))
      exact steps_nil
    intro own384 a384 w384 hd384 hz384 hk384 hf384 hE384
    have e384_6 := (hk384 6 rfl).trans e379_6
    have e384_7 := (hk384 7 rfl).trans e379_7
    obtain ⟨(b384_g368 : BlkO own384 382 w384 g368 3 #[.int .i64 0]), (b384_g370 : BlkO own384 383 w384 g370 4 #[.bool false]), -⟩ := hf384 [0, 1] rfl
    have hX384 := es_ hX379 hE384
    have b384_mk := MkO.evo (by decide) hE384 b379_mk
    refine fl_ret ?_
    refine hp373 _ _ _ rfl ?_
    refine hret _ _ _ _ _ (.inl rfl) hd384 b384_mk (fun own385 w385 hE385 => ?_)
    have hX386 := es_ hX384 hE385
    have b386_g368 := be_ hE385 b384_g368
    have b386_g370 := be_ hE385 b384_g370
    obtain rfl := osome hs
    exact ⟨_, results2_ rfl (RVal.cell_ e384_6 (run_loadVarOne to3 (Blk.at_ b386_g368.2 0 rfl))) (RVal.cell_ e384_7 (run_loadVarOne to4 (Blk.at_ b386_g370.2 0 rfl))), ⟨own385, rfl, hX386⟩⟩
  refine fl_skip ?_
  refine hn373 _ _ ?_
  refine rg_plain_seq (n := 101) (rs := []) (own0 := own379) (K := [388]) (bs := [0, 1, 0, 4, 15, 0, 32, 0, 128, 480, 1023, 0, 2048, 0, 8192, 30720, 0, 65536, 0, 262144, 983040, 2095104, 4194303, 0, 16777215]) (ds := [⟨[], [4], [], Fct.val 27 (.pointer (some ⟨g364, 0, none⟩))⟩, ⟨[0], [], [], Fct.val 28 (.int .i64 x2.1)⟩, ⟨[], [5], [], Fct.val 29 (.pointer (some ⟨g366, 0, none⟩))⟩, ⟨[2], [], [], Fct.val 30 (.int .i64 b3.1)⟩, ⟨[1, 3], [], [], Fct.val 31 (.int .i64 (ad x2.1 b3.1))⟩, ⟨[], [4], [], Fct.val 32 (.pointer (some ⟨g364, 1, none⟩))⟩, ⟨[5], [], [], Fct.val 33 (.int .i64 x2.2)⟩, ⟨[], [5], [], Fct.val 34 (.pointer (some ⟨g366, 1, none⟩))⟩, ⟨[7], [], [], Fct.val 35 (.int .i64 b3.2)⟩, ⟨[6, 8], [], [], Fct.val 36 (.int .i64 (ad x2.2 b3.2))⟩, ⟨[4, 9], [], [], Fct.val 37 (.agg #[.int .i64 (ad x2.1 b3.1), .int .i64 (ad x2.2 b3.2)])⟩, ⟨[], [5], [], Fct.val 38 (.pointer (some ⟨g366, 0, none⟩))⟩, ⟨[11], [], [], Fct.val 39 (.int .i64 b3.1)⟩, ⟨[], [4], [], Fct.val 40 (.pointer (some ⟨g364, 0, none⟩))⟩, ⟨[13], [], [], Fct.val 41 (.int .i64 x2.1)⟩, ⟨[12, 14], [], [], Fct.val 42 (.int .i64 (sb b3.1 x2.1))⟩, ⟨[], [5], [], Fct.val 43 (.pointer (some ⟨g366, 1, none⟩))⟩, ⟨[16], [], [], Fct.val 44 (.int .i64 b3.2)⟩, ⟨[], [4], [], Fct.val 45 (.pointer (some ⟨g364, 1, none⟩))⟩, ⟨[18], [], [], Fct.val 46 (.int .i64 x2.2)⟩, ⟨[17, 19], [], [], Fct.val 47 (.int .i64 (sb b3.2 x2.2))⟩, ⟨[15, 20], [], [], Fct.val 48 (.agg #[.int .i64 (sb b3.1 x2.1), .int .i64 (sb b3.2 x2.2)])⟩, ⟨[10, 21], [], [], Fct.val 49 (.agg #[.int .i64 (ad x2.1 b3.1), .int .i64 (ad x2.2 b3.2), .int .i64 (sb b3.1 x2.1), .int .i64 (sb b3.2 x2.2)])⟩, ⟨[], [], [], Fct.blk 388 8 (fun g => .pointer (some ⟨g, 0, none⟩)) 64 #[.int .i64 0, .int .i64 0, .int .i64 0, .int .i64 0]⟩, ⟨[23, 22], [], [388], Fct.blk 389 8 (fun g => .pointer (some ⟨g, 0, none⟩)) 64 #[.int .i64 (ad x2.1 b3.1), .int .i64 (ad x2.2 b3.2), .int .i64 (sb b3.1 x2.1), .int .i64 (sb b3.2 x2.2)]⟩]) (by kernel_rfl) hz379 hd379 nm_ ?_ ?_
  · refine sc (fun _ _ _ _ s _ => px (or_field fo32_0 (s.1.trans e379_4) (by rfl))) ?_
    refine sc (fun _ _ _ f _ hE => px (or_load1 to3 f.1 (Blk.at_ (be_ hE b379_g364).2 0 rfl))) ?_
    refine sc (fun _ _ _ _ s _ => px (or_field fo32_0 (s.1.trans e379_5) (by rfl))) ?_
    refine sc (fun _ _ _ f _ hE => px (or_load1 to3 f.1 (Blk.at_ (be_ hE b379_g366).2 0 rfl))) ?_
    refine sc (fun _ _ _ f _ _ => px (or_add f.1 f.2.1 rfl)) ?_
    refine sc (fun _ _ _ _ s _ => px (or_field fo32_1 (s.1.trans e379_4) (by rfl))) ?_
    refine sc (fun _ _ _ f _ hE => px (or_load1 to3 f.1 (Blk.at_ (be_ hE b379_g364).2 1 rfl))) ?_
    refine sc (fun _ _ _ _ s _ => px (or_field fo32_1 (s.1.trans e379_5) (by rfl))) ?_
    refine sc (fun _ _ _ f _ hE => px (or_load1 to3 f.1 (Blk.at_ (be_ hE b379_g366).2 1 rfl))) ?_
    refine sc (fun _ _ _ f _ _ => px (or_add f.1 f.2.1 rfl)) ?_
    refine sc (fun _ _ _ f _ _ => px (or_k [(31, .int .i64 (ad x2.1 b3.1)), (36, .int .i64 (ad x2.2 b3.2))] rfl rfl ⟨f.1, f.2.1, trivial⟩ (by kernel_rfl))) ?_
    refine sc (fun _ _ _ _ s _ => px (or_field fo32_0 (s.1.trans e379_5) (by rfl))) ?_
    refine sc (fun _ _ _ f _ hE => px (or_load1 to3 f.1 (Blk.at_ (be_ hE b379_g366).2 0 rfl))) ?_
    refine sc (fun _ _ _ _ s _ => px (or_field fo32_0 (s.1.trans e379_4) (by rfl))) ?_
    refine sc (fun _ _ _ f _ hE => px (or_load1 to3 f.1 (Blk.at_ (be_ hE b379_g364).2 0 rfl))) ?_
    refine sc (fun _ _ _ f _ _ => px (or_sub f.1 f.2.1 rfl)) ?_
    refine sc (fun _ _ _ _ s _ => px (or_field fo32_1 (s.1.trans e379_5) (by rfl))) ?_
    refine sc (fun _ _ _ f _ hE => px (or_load1 to3 f.1 (Blk.at_ (be_ hE b379_g366).2 1 rfl))) ?_
    refine sc (fun _ _ _ _ s _ => px (or_field fo32_1 (s.1.trans e379_4) (by rfl))) ?_
    refine sc (fun _ _ _ f _ hE => px (or_load1 to3 f.1 (Blk.at_ (be_ hE b379_g364).2 1 rfl))) ?_
    refine sc (fun _ _ _ f _ _ => px (or_sub f.1 f.2.1 rfl)) ?_
    refine sc (fun _ _ _ f _ _ => px (or_k [(42, .int .i64 (sb b3.1 x2.1)), (47, .int .i64 (sb b3.2 x2.2))] rfl rfl ⟨f.1, f.2.1, trivial⟩ (by kernel_rfl))) ?_
    refine sc (fun _ _ _ f _ _ => px (or_k [(37, .agg #[.int .i64 (ad x2.1 b3.1), .int .i64 (ad x2.2 b3.2)]), (48, .agg #[.int .i64 (sb b3.1 x2.1), .int .i64 (sb b3.2 x2.2)])] rfl rfl ⟨f.1, f.2.1, trivial⟩ (by kernel_rfl))) ?_
    refine sc (fun _ _ _ _ _ _ => px (or_new [] rfl rfl trivial (by kernel_rfl))) ?_
    refine sc (fun own a wx hf hsl hE => ?_) ?_
    · obtain ⟨⟨g387, f_8, b_g387⟩, f_49, -⟩ := hf
      exact px (or_store (l := #[.int .i64 (ad x2.1 b3.1), .int .i64 (ad x2.2 b3.2), .int .i64 (sb b3.1 x2.1), .int .i64 (sb b3.2 x2.2)]) (lab := 388) (lab2 := 389) ts64 f_8 f_49 b_g387 (by simp) (by kernel_rfl) (mem_of rfl) (by decide) (by kernel_rfl) (fun own' a' w' ha hb => ⟨_, (ha 8).trans f_8, hb⟩))
    exact steps_nil
  intro own390 a390 w390 hd390 hz390 hk390 hf390 hE390
  have e390_0 := (hk390 0 rfl).trans e379_0
  have e390_6 := (hk390 6 rfl).trans e379_6
  have e390_7 := (hk390 7 rfl).trans e379_7
  obtain ⟨⟨g387, (e390_8 : a390.eval (.tmp 8) = .pointer (some ⟨g387, 0, none⟩)), (b390_g387 : BlkO own390 389 w390 g387 64 #[.int .i64 (ad x2.1 b3.1), .int .i64 (ad x2.2 b3.2), .int .i64 (sb b3.1 x2.1), .int .i64 (sb b3.2 x2.2)])⟩, -⟩ := hf390 [24] rfl
  have hX390 := es_ hX379 hE390
  have b390_Al1 := RdO.evo rfl hE390 b379_Al1
  have b390_mk := MkO.evo (by decide) hE390 b379_mk
  have b390_g368 := be_ hE390 b379_g368
  have b390_g370 := be_ hE390 b379_g370
  refine rg_plain_seq (n := 101) (rs := []) (own0 := own390) (K := [392]) (bs := (bz 2)) (ds := [⟨[], [], [], Fct.blk 392 9 (fun g => .pointer (some ⟨g, 0, none⟩)) 3 #[.int .i64 0]⟩, ⟨[0], [], [392], Fct.blk 393 9 (fun g => .pointer (some ⟨g, 0, none⟩)) 3 #[.int .i64 0]⟩]) (by kernel_rfl) hz390 hd390 nm_ ?_ ?_
  · refine sc (fun _ _ _ _ _ _ => px (or_new [] rfl rfl trivial (by kernel_rfl))) ?_
    refine sc (fun own a wx hf hsl hE => ?_) ?_
    · obtain ⟨⟨g391, f_9, b_g391⟩, -⟩ := hf
      exact px (or_store1 (lab := 392) (lab2 := 393) ts3 f_9 rfl b_g391 (by simp) rfl (mem_of rfl) (by decide) rfl (fun own' a' w' ha hb => ⟨_, (ha 9).trans f_9, hb⟩))
    exact steps_nil
  intro own394 a394 w394 hd394 hz394 hk394 hf394 hE394
  have e394_0 := (hk394 0 rfl).trans e390_0
  have e394_6 := (hk394 6 rfl).trans e390_6
  have e394_7 := (hk394 7 rfl).trans e390_7
  have e394_8 := (hk394 8 rfl).trans e390_8
  obtain ⟨⟨g391, (e394_9 : a394.eval (.tmp 9) = .pointer (some ⟨g391, 0, none⟩)), (b394_g391 : BlkO own394 393 w394 g391 3 #[.int .i64 0])⟩, -⟩ := hf394 [1] rfl
  have hX394 := es_ hX390 hE394
  have b394_Al1 := RdO.evo rfl hE394 b390_Al1
  have b394_mk := MkO.evo (by decide) hE394 b390_mk
  have b394_g368 := be_ hE394 b390_g368
  have b394_g370 := be_ hE394 b390_g370
  have b394_g387 := be_ hE394 b390_g387
  refine fl_seq (fun Q395 hn395 hp395 => ?_)
  refine rg0_seq 101 own394 (bz 2) [⟨[], [0], [], Fct.val 50 (.slice Al1 l1.length cl1)⟩, ⟨[0], [], [], Fct.mems [397] 51 (fun (x : Option Addr × Nat) => .func (.func 55) #[] #[.pointer (some ⟨x.2, 0, none⟩)]) (fun (x : Option Addr × Nat) own w => BlkO own 397 w x.2 22 #[.slice Al1 l1.length cl1]) (fun hk he h => BlkO.evo (not_hit hk (by decide)) he h)⟩] hz394 hd394 (by kernel_rfl) ?_ ?_
  · refine sc (fun _ _ _ _ s _ => px (or_move (s.1.trans e394_0))) ?_
    refine sc (fun _ _ _ f _ hE => px (or_call cf34 (args1 f.1) (ring_edges_w _ l1 Al1 cl1 (RdO.zero (RdO.evo rfl hE b394_Al1)) () rfl) (post_mems (m := (fun _ => 0)) (m' := (look0 [(1, 397)])) (fun _ _ => .inl rfl) (fun own' w' a' x h1 h => ⟨x, h1, BlkO.back_ h (by decide)⟩)))) ?_
    exact steps_nil
  intro own398 a398 w398 hd398 hz398 hk398 hf398 hE398
  have e398_6 := (hk398 6 rfl).trans e394_6
  have e398_7 := (hk398 7 rfl).trans e394_7
  have e398_8 := (hk398 8 rfl).trans e394_8
  have e398_9 := (hk398 9 rfl).trans e394_9
  obtain ⟨⟨⟨A396, cA396⟩, (e398_51 : a398.eval (.tmp 51) = .func (.func 55) #[] #[.pointer (some ⟨cA396, 0, none⟩)]), (b398_cA396 : BlkO own398 397 w398 cA396 22 #[.slice Al1 l1.length cl1])⟩, -⟩ := hf398 [1] rfl
  have hX398 := es_ hX394 hE398
  have b398_Al1 := RdO.evo rfl hE398 b394_Al1
  have b398_mk := MkO.evo (by decide) hE398 b394_mk
  have b398_g368 := be_ hE398 b394_g368
  have b398_g370 := be_ hE398 b394_g370
  have b398_g387 := be_ hE398 b394_g387
  have b398_g391 := be_ hE398 b394_g391
  refine fl_block (fun Q399 hn399 hx399 hp399 => ?_)
  obtain ⟨zz606, hzz606, hs⟩ := rngO_some hs
  refine fl_range (S := Int) (D := Unit) (X := (Int × Int) × (Int × Int)) (encs := (fun (x : (Int × Int) × (Int × Int)) => #[.agg #[.int .i64 x.1.1, .int .i64 x.1.2], .agg #[.int .i64 x.2.1, .int .i64 x.2.2]])) (n := 101) [369, 371, 393, 613, 617, 672, 673, 692, 702, 710] 607 11 rfl
      (fun (n503 : Int) (ox : Own) (wx : World) => Evo [] (fun _ => 0) ox w wx ∧ BlkO ox 369 wx g368 3 #[.int .i64 0] ∧ BlkO ox 371 wx g370 4 #[.bool false] ∧ BlkO ox 389 wx g387 64 #[.int .i64 (ad x2.1 b3.1), .int .i64 (ad x2.2 b3.2), .int .i64 (sb b3.1 x2.1), .int .i64 (sb b3.2 x2.2)] ∧ BlkO ox 393 wx g391 3 #[.int .i64 n503] ∧ BlkO ox 397 wx cA396 22 #[.slice Al1 l1.length cl1] ∧ RdO ox [0] wx R32 Al1 cl1 l1)
      (fun (_ : Unit) (ox : Own) (wx : World) => Evo [] (fun _ => 0) ox w wx ∧ BlkO ox 566 wx g368 3 #[.int .i64 0] ∧ BlkO ox 567 wx g370 4 #[.bool false])
      (fun _ => Code.ret) (fun (sr : Int) (xr : (Int × Int) × (Int × Int)) => ring_Beside_b2 x2 b3 sr xr) hz398 rfl e398_51 cf55 (cargs := fun l => #[.func (.yield l) #[] #[], .pointer (some ⟨cA396, 0, none⟩)]) (fun _ => by simp) (fun _ => rfl) hd398 b398_mk ?_ ?_ 0 zz606 ⟨hX398, b398_g368, b398_g370, b398_g387, b398_g391, b398_cA396, b398_Al1⟩ ?_ ?_ ?_ ?_
  · rintro n503 ox ox1 wx wx1 hEs ⟨h606_0, h606_1, h606_2, h606_3, h606_4, h606_5, h606_6⟩
    exact ⟨(es_ h606_0 hEs), (be_ hEs h606_1), (be_ hEs h606_2), (be_ hEs h606_3), (be_ hEs h606_4), (be_ hEs h606_5), (RdO.evo rfl hEs h606_6)⟩
  · rintro _ ox ox1 wx wx1 hEs ⟨h606_0, h606_1, h606_2⟩
    exact ⟨(es_ h606_0 hEs), (be_ hEs h606_1), (be_ hEs h606_2)⟩
  · intro l606 own1 w1 J606 hE1 hJ1 hR1
    exact (ring_edges_1_w w1 (forth own1 (look0 (kj 607 [369, 371, 393, 613, 617, 672, 673, 692, 702, 710]))) (Int ⊕ Unit) (yb (fun (sr : Int) (xr : (Int × Int) × (Int × Int)) => ring_Beside_b2 x2 b3 sr xr)) J606 l606 (Sum.inl 0) l1 cA396 22 Al1 cl1 (look0_le rfl) hR1 hJ1 (BlkO.forth_ (be_ hE1 b398_cA396)) (RdO.forth0_ (RdO.evo rfl hE1 b398_Al1) rfl) zz606 hzz606).mono fun e wz ⟨oz, he, _, hJz⟩ => ⟨_, oz, he, hJz⟩
  · rintro l610 n503 x609 zz2 own610 a610 w610 Ds610 ⟨hE611, b611_g368, b611_g370, b611_g387, b611_g391, b611_cA396, b611_Al1⟩ - hrc610 hs ⟨hd610, hz610, hkp610, hpar610⟩ Q610 hn610
    have hs : ring_Beside_b2 x2 b3 n503 x609 = some zz2 := hs
    replace hz610 := hz610.trans hz398
    have e610_6 : a610.eval (.tmp 6) = .pointer (some ⟨g368, 0, none⟩) := (hkp610 6 rfl).trans e398_6
    have e610_7 : a610.eval (.tmp 7) = .pointer (some ⟨g370, 0, none⟩) := (hkp610 7 rfl).trans e398_7
    have e610_8 : a610.eval (.tmp 8) = .pointer (some ⟨g387, 0, none⟩) := (hkp610 8 rfl).trans e398_8
    have e610_9 : a610.eval (.tmp 9) = .pointer (some ⟨g391, 0, none⟩) := (hkp610 9 rfl).trans e398_9
    have e610_51 : a610.eval (.tmp 51) = .func (.func 55) #[] #[.pointer (some ⟨cA396, 0, none⟩)] := (hkp610 51 rfl).trans e398_51
    have e610_52 : a610.eval (.tmp 52) = .agg #[.int .i64 x609.1.1, .int .i64 x609.1.2] := hpar610 0 52 _ rfl rfl
    have e610_53 : a610.eval (.tmp 53) = .agg #[.int .i64 x609.2.1, .int .i64 x609.2.2] := hpar610 1 53 _ rfl rfl
    have hE610 := Evo.refl [369, 371, 393, 613, 617, 672, 673, 692, 702, 710] own610 w610
    have hrc0_610 := hrc610
    refine rg_plain_seq (n := 101) (rs := []) (own0 := own610) (K := [613]) (bs := (bz 2)) (ds := [⟨[], [], [], Fct.blk 613 10 (fun g => .pointer (some ⟨g, 0, none⟩)) 32 #[.int .i64 0, .int .i64 0]⟩, ⟨[0], [52], [613], Fct.blk 614 10 (fun g => .pointer (some ⟨g, 0, none⟩)) 32 #[.int .i64 x609.1.1, .int .i64 x609.1.2]⟩]) (by kernel_rfl) hz610 hd610 nm_ ?_ ?_
    · refine sc (fun _ _ _ _ _ _ => px (or_new [] rfl rfl trivial (by kernel_rfl))) ?_
      refine sc (fun own a wx hf hsl hE => ?_) ?_
      · obtain ⟨⟨g612, f_10, b_g612⟩, -⟩ := hf
        obtain ⟨s_52, -⟩ := hsl
        exact px (or_store (l := #[.int .i64 x609.1.1, .int .i64 x609.1.2]) (lab := 613) (lab2 := 614) ts32 f_10 (s_52.trans e610_52) b_g612 (by simp) (by kernel_rfl) (mem_of rfl) (by decide) (by kernel_rfl) (fun own' a' w' ha hb => ⟨_, (ha 10).trans f_10, hb⟩))
      exact steps_nil
    intro own615 a615 w615 hd615 hz615 hk615 hf615 hE615
    have e615_6 := (hk615 6 rfl).trans e610_6
    have e615_7 := (hk615 7 rfl).trans e610_7
    have e615_8 := (hk615 8 rfl).trans e610_8
    have e615_9 := (hk615 9 rfl).trans e610_9
    have e615_51 := (hk615 51 rfl).trans e610_51
    have e615_53 := (hk615 53 rfl).trans e610_53
    obtain ⟨⟨g612, (e615_10 : a615.eval (.tmp 10) = .pointer (some ⟨g612, 0, none⟩)), (b615_g612 : BlkO own615 614 w615 g612 32 #[.int .i64 x609.1.1, .int .i64 x609.1.2])⟩, -⟩ := hf615 [1] rfl
    have hX615 := Evo.stepK hE610 hE615 rfl
    have b615_g368 := be_ hE615 b611_g368
    have b615_g370 := be_ hE615 b611_g370
    have b615_g387 := be_ hE615 b611_g387
    have b615_g391 := be_ hE615 b611_g391
    have b615_cA396 := be_ hE615 b611_cA396
    have b615_Al1 := RdO.evo rfl hE615 b611_Al1
    refine rg_plain (n := 101) (rs := []) (own0 := own615) (K := [617]) (bs := (bz 2)) (ds := [⟨[], [], [], Fct.blk 617 11 (fun g => .pointer (some ⟨g, 0, none⟩)) 32 #[.int .i64 0, .int .i64 0]⟩, ⟨[0], [53], [617], Fct.blk 618 11 (fun g => .pointer (some ⟨g, 0, none⟩)) 32 #[.int .i64 x609.2.1, .int .i64 x609.2.2]⟩]) (by kernel_rfl) hz615 hd615 nm_ ?_ ?_
    · refine sc (fun _ _ _ _ _ _ => px (or_new [] rfl rfl trivial (by kernel_rfl))) ?_
      refine sc (fun own a wx hf hsl hE => ?_) ?_
      · obtain ⟨⟨g616, f_11, b_g616⟩, -⟩ := hf
        obtain ⟨s_53, -⟩ := hsl
        exact px (or_store (l := #[.int .i64 x609.2.1, .int .i64 x609.2.2]) (lab := 617) (lab2 := 618) ts32 f_11 (s_53.trans e615_53) b_g616 (by simp) (by kernel_rfl) (mem_of rfl) (by decide) (by kernel_rfl) (fun own' a' w' ha hb => ⟨_, (ha 11).trans f_11, hb⟩))
      exact steps_nil
    intro own619 a619 w619 hd619 hz619 hk619 hf619 hE619
    have e619_6 := (hk619 6 rfl).trans e615_6
    have e619_7 := (hk619 7 rfl).trans e615_7
    have e619_8 := (hk619 8 rfl).trans e615_8
    have e619_9 := (hk619 9 rfl).trans e615_9
    have e619_10 := (hk619 10 rfl).trans e615_10
    have e619_51 := (hk619 51 rfl).trans e615_51
    obtain ⟨⟨g616, (e619_11 : a619.eval (.tmp 11) = .pointer (some ⟨g616, 0, none⟩)), (b619_g616 : BlkO own619 618 w619 g616 32 #[.int .i64 x609.2.1, .int .i64 x609.2.2])⟩, -⟩ := hf619 [1] rfl
    have hX619 := Evo.stepK hX615 hE619 rfl
    have b619_g368 := be_ hE619 b615_g368
    have b619_g370 := be_ hE619 b615_g370
    have b619_g387 := be_ hE619 b615_g387
    have b619_g391 := be_ hE619 b615_g391
    have b619_cA396 := be_ hE619 b615_cA396
    have b619_Al1 := RdO.evo rfl hE619 b615_Al1
    have b619_g612 := be_ hE619 b615_g612
    refine hn610 _ _ _ hX619 (fun w620 own620 hE620 hrc620 => ?_)
    have b620_g368 := be_ hE620 b619_g368
    have b620_g370 := be_ hE620 b619_g370
    have b620_g387 := be_ hE620 b619_g387
    have b620_g391 := be_ hE620 b619_g391
    have b620_cA396 := be_ hE620 b619_cA396
    have b620_Al1 := RdO.evo rfl hE620 b619_Al1
    have b620_g612 := be_ hE620 b619_g612
    have b620_g616 := be_ hE620 b619_g616
    have hU620 := es_ (es_ hE611 hX619) hE620
    have hX620 := Evo.refl [369, 371, 393, 613, 617, 672, 673, 692, 702, 710] own620 w620
    have hmk620 : MkO own620 11 w620 [] := MkO.nil_
    refine fl_block (fun Q621 hn621 hx621 hp621 => ?_)
    refine fl_seq (fun Q667 hn667 hp667 => ?_)
    obtain ⟨r668, hr668, hs⟩ := obind hs
    refine rg0_seq 101 own620 [0, 0, 0, 7] [⟨[], [8], [], Fct.val 54 (.agg #[.int .i64 (ad x2.1 b3.1), .int .i64 (ad x2.2 b3.2), .int .i64 (sb b3.1 x2.1), .int .i64 (sb b3.2 x2.2)])⟩, ⟨[], [10], [], Fct.val 55 (.agg #[.int .i64 x609.1.1, .int .i64 x609.1.2])⟩, ⟨[], [11], [], Fct.val 56 (.agg #[.int .i64 x609.2.1, .int .i64 x609.2.2])⟩, ⟨[0, 1, 2], [], [], Fct.val 57 (.bool r668)⟩] hz619 hd619 (by kernel_rfl) ?_ ?_
    · refine sc (fun _ _ _ _ s hE => px (or_load (l := [.int .i64 (ad x2.1 b3.1), .int .i64 (ad x2.2 b3.2), .int .i64 (sb b3.1 x2.1), .int .i64 (sb b3.2 x2.2)]) ta64 (s.1.trans e619_8) (Blk.cellsFrom (be_ hE b620_g387).2 0 rfl) rfl)) ?_
      refine sc (fun _ _ _ _ s hE => px (or_load (l := [.int .i64 x609.1.1, .int .i64 x609.1.2]) ta32 (s.1.trans e619_10) (Blk.cellsFrom (be_ hE b620_g612).2 0 rfl) rfl)) ?_
      refine sc (fun _ _ _ _ s hE => px (or_load (l := [.int .i64 x609.2.1, .int .i64 x609.2.2]) ta32 (s.1.trans e619_11) (Blk.cellsFrom (be_ hE b620_g616).2 0 rfl) rfl)) ?_
      refine sc (fun _ _ _ f _ _ => px (or_call cf40 (args3 f.1 f.2.1 f.2.2.1) (ring_beside_has_w _ ((ad x2.1 b3.1, ad x2.2 b3.2), (sb b3.1 x2.1, sb b3.2 x2.2)) x609.1 x609.2  r668 hr668) post_val)) ?_
      exact steps_nil
    intro own669 a669 w669 hd669 hz669 hk669 hf669 hE669
    have e669_6 := (hk669 6 rfl).trans e619_6
    have e669_7 := (hk669 7 rfl).trans e619_7
    have e669_8 := (hk669 8 rfl).trans e619_8
    have e669_9 := (hk669 9 rfl).trans e619_9
    have e669_10 := (hk669 10 rfl).trans e619_10
    have e669_11 := (hk669 11 rfl).trans e619_11
    have e669_51 := (hk669 51 rfl).trans e619_51
    obtain ⟨(e669_57 : a669.eval (.tmp 57) = .bool r668), -⟩ := hf669 [3] rfl
    have hX669 := Evo.stepK hX620 hE669 rfl
    have b669_g368 := be_ hE669 b620_g368
    have b669_g370 := be_ hE669 b620_g370
    have b669_g387 := be_ hE669 b620_g387
    have b669_g391 := be_ hE669 b620_g391
    have b669_cA396 := be_ hE669 b620_cA396
    have b669_Al1 := RdO.evo rfl hE669 b620_Al1
    have b669_g612 := be_ hE669 b620_g612
    have b669_g616 := be_ hE669 b620_g616
    have b669_rc := RcO.evo (by decide) hE669 hrc620
    have b669_mk := MkO.evo (by decide) hE669 hmk620
    refine fl_cond e669_57 hs (fun c670 hs => ?_) (fun c670 hs => ?_)
    · refine rg_plain_seq (n := 101) (rs := [Fct.at_ 369 g368 3 #[.int .i64 0], Fct.at_ 371 g370 4 #[.bool false]]) (own0 := own669) (K := [369, 371]) (bs := (bz 2)) (ds := [⟨[2], [6], [369], Fct.at_ 672 g368 3 #[.int .i64 0]⟩, ⟨[3], [7], [371], Fct.at_ 673 g370 4 #[.bool false]⟩]) (by kernel_rfl) hz669 hd669 (by simp only [List.forall_mem_cons]; exact ⟨b669_g368, b669_g370, fun _ h => nomatch h⟩) ?_ ?_
      · refine sc (fun own a wx hf hsl hE => ?_) ?_
        · obtain ⟨b_g368, -⟩ := hf
          obtain ⟨s_6, -⟩ := hsl
          exact px (or_store1 (lab := 369) (lab2 := 672) ts3 (s_6.trans e669_6) rfl b_g368 (by simp) rfl (mem_of rfl) (by decide) rfl (fun own' a' w' ha hb => hb))
        refine sc (fun own a wx hf hsl hE => ?_) ?_
        · obtain ⟨b_g370, -⟩ := hf
          obtain ⟨s_7, -⟩ := hsl
          exact px (or_store1 (lab := 371) (lab2 := 673) ts4 (s_7.trans e669_7) rfl b_g370 (by simp) rfl (mem_of rfl) (by decide) rfl (fun own' a' w' ha hb => hb))
        exact steps_nil
      intro own674 a674 w674 hd674 hz674 hk674 hf674 hE674
      have e674_6 := (hk674 6 rfl).trans e669_6
      have e674_7 := (hk674 7 rfl).trans e669_7
      obtain ⟨(b674_g368 : BlkO own674 672 w674 g368 3 #[.int .i64 0]), (b674_g370 : BlkO own674 673 w674 g370 4 #[.bool false]), -⟩ := hf674 [0, 1] rfl
      have hX674 := Evo.stepK hX669 hE674 rfl
      have b674_rc := RcO.evo (by decide) hE674 b669_rc
      have b674_mk := MkO.evo (by decide) hE674 b669_mk
      refine fl_ret ?_
      refine hp667 _ _ _ rfl ?_
      refine hp621 _ _ _ rfl ?_
      exact ⟨_, (rl [(672, 566), (673, 567)] own674), osome hs, rfl, (Evo.rlK hX674 rfl), (es_ hU620 (Evo.rlK hX674 rfl)), (BlkO.rl_ (mm := [(672, 566), (673, 567)]) b674_g368), (BlkO.rl_ (mm := [(672, 566), (673, 567)]) b674_g370)⟩
    refine fl_skip ?_
    refine hn667 _ _ ?_
    refine fl_block (fun Q675 hn675 hx675 hp675 => ?_)
    have K694 : ∀ (a694 : Act) (w694 : World) (own694 : Own) (n693 : Int), a694.defers = mkD [] → a694.tmps.size = 101 → a694.eval (.tmp 6) = .pointer (some ⟨g368, 0, none⟩) → a694.eval (.tmp 7) = .pointer (some ⟨g370, 0, none⟩) → a694.eval (.tmp 8) = .pointer (some ⟨g387, 0, none⟩) → a694.eval (.tmp 9) = .pointer (some ⟨g391, 0, none⟩) → a694.eval (.tmp 51) = .func (.func 55) #[] #[.pointer (some ⟨cA396, 0, none⟩)] → Evo [369, 371, 393, 613, 617, 672, 673, 692, 702, 710] own620 own694 w620 w694 → BlkO own694 369 w694 g368 3 #[.int .i64 0] → BlkO own694 371 w694 g370 4 #[.bool false] → BlkO own694 389 w694 g387 64 #[.int .i64 (ad x2.1 b3.1), .int .i64 (ad x2.2 b3.2), .int .i64 (sb b3.1 x2.1), .int .i64 (sb b3.2 x2.2)] → BlkO own694 692 w694 g391 3 #[.int .i64 n693] → BlkO own694 397 w694 cA396 22 #[.slice Al1 l1.length cl1] → RdO own694 [0] w694 R32 Al1 cl1 l1 → MkO own694 11 w694 [] → RcO own694 607 w694 l610 → ring_Beside_k1 n693 = some zz2 → (Q675 .normal a694 w694 ∧ Q675 (.exit 2) a694 w694) := by
      intro a694 w694 own694 n693 hd695 hz695 e695_6 e695_7 e695_8 e695_9 e695_51 hE695 b695_g368 b695_g370 b695_g387 b695_g391 b695_cA396 b695_Al1 b695_mk b695_rc hs
      refine and_both (hn675 _ _) (hx675 _ _) ?_
      refine hn621 _ _ ?_
      exact ⟨_, (rl [(692, 393)] own694), osome hs, (Evo.rlK hE695 rfl), (es_ hU620 (Evo.rlK hE695 rfl)), (BlkO.rl_ (mm := [(692, 393)]) b695_g368), (BlkO.rl_ (mm := [(692, 393)]) b695_g370), (BlkO.rl_ (mm := [(692, 393)]) b695_g387), (BlkO.rl_ (mm := [(692, 393)]) b695_g391), (BlkO.rl_ (mm := [(692, 393)]) b695_cA396), (RdO.rl_ (mm := [(692, 393)]) b695_Al1)⟩
    obtain ⟨r696, hr696, hs⟩ := obind hs
    obtain ⟨r697, hr697, hs⟩ := obind hs
    obtain ⟨r698, hr698, hs⟩ := obind hs
    obtain ⟨x699, hx699, hs⟩ := obind hs
    refine rg0_seq 101 own669 [0, 0, 2, 7, 15, 31, 63, 63, 191, 511, 1023, 2047, 4095, 4095, 4095, 32767, 65535, 131071, 262143] [⟨[], [8], [], Fct.val 59 (.agg #[.int .i64 (ad x2.1 b3.1), .int .i64 (ad x2.2 b3.2), .int .i64 (sb b3.1 x2.1), .int .i64 (sb b3.2 x2.2)])⟩, ⟨[], [10], [], Fct.val 60 (.pointer (some ⟨g612, 1, none⟩))⟩, ⟨[1], [], [], Fct.val 61 (.int .i64 x609.1.2)⟩, ⟨[0, 2], [], [], Fct.val 62 (.bool r696)⟩, ⟨[3], [], [], Fct.val 63 (.bool (!r696))⟩, ⟨[4], [], [], Fct.val 64 (.bool (!r696))⟩, ⟨[5], [8], [], Fct.cond (!r696) (some 65) (Fct.val 65 (.agg #[.int .i64 (ad x2.1 b3.1), .int .i64 (ad x2.2 b3.2), .int .i64 (sb b3.1 x2.1), .int .i64 (sb b3.2 x2.2)]))⟩, ⟨[5], [11], [], Fct.cond (!r696) (some 66) (Fct.val 66 (.pointer (some ⟨g616, 1, none⟩)))⟩, ⟨[5, 7], [], [], Fct.cond (!r696) (some 67) (Fct.val 67 (.int .i64 x609.2.2))⟩, ⟨[5, 6, 8], [], [], Fct.cond (!r696) (some 68) (Fct.val 68 (.bool r697))⟩, ⟨[5, 9], [], [], Fct.val 69 (.bool ((!r696) && r697))⟩, ⟨[10], [], [], Fct.val 70 (.bool ((!r696) && r697))⟩, ⟨[11], [8], [], Fct.cond ((!r696) && r697) (some 71) (Fct.val 71 (.agg #[.int .i64 (ad x2.1 b3.1), .int .i64 (ad x2.2 b3.2), .int .i64 (sb b3.1 x2.1), .int .i64 (sb b3.2 x2.2)]))⟩, ⟨[11], [10], [], Fct.cond ((!r696) && r697) (some 72) (Fct.val 72 (.agg #[.int .i64 x609.1.1, .int .i64 x609.1.2]))⟩, ⟨[11], [11], [], Fct.cond ((!r696) && r697) (some 73) (Fct.val 73 (.agg #[.int .i64 x609.2.1, .int .i64 x609.2.2]))⟩, ⟨[11, 12, 13, 14], [], [], Fct.cond ((!r696) && r697) (some 74) (Fct.val 74 (.int .i64 r698))⟩, ⟨[11, 15], [], [], Fct.cond ((!r696) && r697) (some 75) (Fct.val 75 (.bool (decide (0 < r698))))⟩, ⟨[11, 16], [], [], Fct.val 76 (.bool x699)⟩, ⟨[17], [], [], Fct.val 58 (.bool x699)⟩] hz669 hd669 (by kernel_rfl) ?_ ?_
    · refine sc (fun _ _ _ _ s hE => px (or_load (l := [.int .i64 (ad x2.1 b3.1), .int .i64 (ad x2.2 b3.2), .int .i64 (sb b3.1 x2.1), .int .i64 (sb b3.2 x2.2)]) ta64 (s.1.trans e669_8) (Blk.cellsFrom (be_ hE b669_g387).2 0 rfl) rfl)) ?_
      refine sc (fun _ _ _ _ s _ => px (or_field fo32_1 (s.1.trans e669_10) (by rfl))) ?_
      refine sc (fun _ _ _ f _ hE => px (or_load1 to3 f.1 (Blk.at_ (be_ hE b669_g612).2 1 rfl))) ?_
      refine sc (fun _ _ _ f _ _ => px (or_call cf41 (args2 f.1 f.2.1) (ring_beside_over_w _ ((ad x2.1 b3.1, ad x2.2 b3.2), (sb b3.1 x2.1, sb b3.2 x2.2)) x609.1.2  r696 hr696) post_val)) ?_
      refine sc (fun _ _ _ f _ _ => px (or_not f.1 rfl)) ?_
      refine sc (fun _ _ _ f _ _ => px (or_move f.1)) ?_
      refine sc (fun _ _ _ f s hE => sg_t rfl rfl rfl f.1 (fun hg => or_load (l := [.int .i64 (ad x2.1 b3.1), .int .i64 (ad x2.2 b3.2), .int .i64 (sb b3.1 x2.1), .int .i64 (sb b3.2 x2.2)]) ta64 (s.1.trans e669_8) (Blk.cellsFrom (be_ hE b669_g387).2 0 rfl) rfl)) ?_
      refine sc (fun _ _ _ f s _ => sg_t rfl rfl rfl f.1 (fun hg => or_field fo32_1 (s.1.trans e669_11) (by rfl))) ?_
      refine sc (fun _ _ _ f _ hE => sg_t rfl rfl rfl f.1 (fun hg => or_load1 to3 (f.2.1.1 hg) (Blk.at_ (be_ hE b669_g616).2 1 rfl))) ?_
      refine sc (fun _ _ _ f _ _ => sg_t rfl rfl rfl f.1 (fun hg => or_call cf41 (args2 (f.2.1.1 hg) (f.2.2.1.1 hg)) (ring_beside_over_w _ ((ad x2.1 b3.1, ad x2.2 b3.2), (sb b3.1 x2.1, sb b3.2 x2.2)) x609.2.2  r697 (gd_t hr697 hg)) post_val)) ?_
      refine sc (fun _ _ _ f _ _ => px (or_and f.1 (fun hx => f.2.1.1 hx) rfl rfl)) ?_
      refine sc (fun _ _ _ f _ _ => px (or_move f.1)) ?_
      refine sc (fun _ _ _ f s hE => sg_t rfl rfl rfl f.1 (fun hg => or_load (l := [.int .i64 (ad x2.1 b3.1), .int .i64 (ad x2.2 b3.2), .int .i64 (sb b3.1 x2.1), .int .i64 (sb b3.2 x2.2)]) ta64 (s.1.trans e669_8) (Blk.cellsFrom (be_ hE b669_g387).2 0 rfl) rfl)) ?_
      refine sc (fun _ _ _ f s hE => sg_t rfl rfl rfl f.1 (fun hg => or_load (l := [.int .i64 x609.1.1, .int .i64 x609.1.2]) ta32 (s.1.trans e669_10) (Blk.cellsFrom (be_ hE b669_g612).2 0 rfl) rfl)) ?_
      refine sc (fun _ _ _ f s hE => sg_t rfl rfl rfl f.1 (fun hg => or_load (l := [.int .i64 x609.2.1, .int .i64 x609.2.2]) ta32 (s.1.trans e669_11) (Blk.cellsFrom (be_ hE b669_g616).2 0 rfl) rfl)) ?_
      refine sc (fun _ _ _ f _ _ => sg_t rfl rfl rfl f.1 (fun hg => or_call cf42 (args3 (f.2.1.1 hg) (f.2.2.1.1 hg) (f.2.2.2.1.1 hg)) (ring_beside_side_w _ ((ad x2.1 b3.1, ad x2.2 b3.2), (sb b3.1 x2.1, sb b3.2 x2.2)) x609.1 x609.2  r698 (gd_t hr698 hg)) post_val)) ?_
      refine sc (fun _ _ _ f _ _ => sg_t rfl rfl rfl f.1 (fun hg => or_gtr (f.2.1.1 hg) rfl rfl)) ?_
      refine sc (fun _ _ _ f _ _ => px (or_and f.1 (fun hx => f.2.1.1 hx) rfl (osome hx699).symm)) ?_
      refine sc (fun _ _ _ f _ _ => px (or_assign f.1)) ?_
      exact steps_nil
    intro own700 a700 w700 hd700 hz700 hk700 hf700 hE700
    have e700_6 := (hk700 6 rfl).trans e669_6
    have e700_7 := (hk700 7 rfl).trans e669_7
    have e700_8 := (hk700 8 rfl).trans e669_8
    have e700_9 := (hk700 9 rfl).trans e669_9
    have e700_10 := (hk700 10 rfl).trans e669_10
    have e700_11 := (hk700 11 rfl).trans e669_11
    have e700_51 := (hk700 51 rfl).trans e669_51
    obtain ⟨(e700_58 : a700.eval (.tmp 58) = .bool x699), -⟩ := hf700 [18] rfl
    have hX700 := Evo.stepK hX669 hE700 rfl
    have b700_g368 := be_ hE700 b669_g368
    have b700_g370 := be_ hE700 b669_g370
    have b700_g387 := be_ hE700 b669_g387
    have b700_g391 := be_ hE700 b669_g391
    have b700_cA396 := be_ hE700 b669_cA396
    have b700_Al1 := RdO.evo rfl hE700 b669_Al1
    have b700_g612 := be_ hE700 b669_g612
    have b700_g616 := be_ hE700 b669_g616
    have b700_rc := RcO.evo (by decide) hE700 b669_rc
    have b700_mk := MkO.evo (by decide) hE700 b669_mk
    refine fl_cond e700_58 hs (fun c701 hs => ?_) (fun c701 hs => ?_)
    · refine rg_plain (n := 101) (rs := [Fct.at_ 393 g391 3 #[.int .i64 n503]]) (own0 := own700) (K := [393]) (bs := (bz 3)) (ds := [⟨[3], [9], [], Fct.val 77 (.int .i64 n503)⟩, ⟨[0], [], [], Fct.val 78 (.int .i64 (ad n503 1))⟩, ⟨[1, 3], [9], [393], Fct.at_ 702 g391 3 #[.int .i64 (ad n503 1)]⟩]) (by kernel_rfl) hz700 hd700 (by simp only [List.forall_mem_cons]; exact ⟨b700_g391, fun _ h => nomatch h⟩) ?_ ?_
      · refine sc (fun own a wx hf hsl hE => ?_) ?_
        · obtain ⟨(b_g391 : BlkO own 393 wx g391 3 #[.int .i64 n503]), -⟩ := hf
          obtain ⟨s_9, -⟩ := hsl
          exact px (or_load1 to3 (s_9.trans e700_9) (Blk.at_ b_g391.2 0 rfl))
        refine sc (fun _ _ _ f _ _ => px (or_add f.1 rfl rfl)) ?_
        refine sc (fun own a wx hf hsl hE => ?_) ?_
        · obtain ⟨f_78, b_g391, -⟩ := hf
          obtain ⟨s_9, -⟩ := hsl
          exact px (or_store1 (lab := 393) (lab2 := 702) ts3 (s_9.trans e700_9) f_78 b_g391 (by simp) rfl (mem_of rfl) (by decide) rfl (fun own' a' w' ha hb => hb))
        exact steps_nil
      intro own703 a703 w703 hd703 hz703 hk703 hf703 hE703
      have e703_6 := (hk703 6 rfl).trans e700_6
      have e703_7 := (hk703 7 rfl).trans e700_7
      have e703_8 := (hk703 8 rfl).trans e700_8
      have e703_9 := (hk703 9 rfl).trans e700_9
      have e703_51 := (hk703 51 rfl).trans e700_51
      obtain ⟨(b703_g391 : BlkO own703 702 w703 g391 3 #[.int .i64 (ad n503 1)]), -⟩ := hf703 [2] rfl
      have hX703 := Evo.stepK hX700 hE703 rfl
      have b703_g368 := be_ hE703 b700_g368
      have b703_g370 := be_ hE703 b700_g370
      have b703_g387 := be_ hE703 b700_g387
      have b703_cA396 := be_ hE703 b700_cA396
      have b703_Al1 := RdO.evo rfl hE703 b700_Al1
      have b703_rc := RcO.evo (by decide) hE703 b700_rc
      have b703_mk := MkO.evo (by decide) hE703 b700_mk
      exact (K694 _ _ (rl [(702, 692)] own703) _ hd703 hz703 e703_6 e703_7 e703_8 e703_9 e703_51 (Evo.rlK hX703 rfl) (BlkO.rl_ (mm := [(702, 692)]) b703_g368) (BlkO.rl_ (mm := [(702, 692)]) b703_g370) (BlkO.rl_ (mm := [(702, 692)]) b703_g387) (BlkO.rl_ (mm := [(702, 692)]) b703_g391) (BlkO.rl_ (mm := [(702, 692)]) b703_cA396) (RdO.rl_ (mm := [(702, 692)]) b703_Al1) (MkO.rl_ (mm := [(702, 692)]) b703_mk) (RcO.rl_ (mm := [(702, 692)]) b703_rc) hs).1
    obtain ⟨r704, hr704, hs⟩ := obind hs
    obtain ⟨r705, hr705, hs⟩ := obind hs
    obtain ⟨r706, hr706, hs⟩ := obind hs
    obtain ⟨x707, hx707, hs⟩ := obind hs
    refine rg0_seq 101 own700 [0, 0, 2, 7, 15, 31, 31, 95, 255, 511, 1023, 2047, 4095, 4095, 4095, 32767, 65535, 131071, 262143] [⟨[], [8], [], Fct.val 80 (.agg #[.int .i64 (ad x2.1 b3.1), .int .i64 (ad x2.2 b3.2), .int .i64 (sb b3.1 x2.1), .int .i64 (sb b3.2 x2.2)])⟩, ⟨[], [10], [], Fct.val 81 (.pointer (some ⟨g612, 1, none⟩))⟩, ⟨[1], [], [], Fct.val 82 (.int .i64 x609.1.2)⟩, ⟨[0, 2], [], [], Fct.val 83 (.bool r704)⟩, ⟨[3], [], [], Fct.val 84 (.bool r704)⟩, ⟨[4], [8], [], Fct.cond r704 (some 85) (Fct.val 85 (.agg #[.int .i64 (ad x2.1 b3.1), .int .i64 (ad x2.2 b3.2), .int .i64 (sb b3.1 x2.1), .int .i64 (sb b3.2 x2.2)]))⟩, ⟨[4], [11], [], Fct.cond r704 (some 86) (Fct.val 86 (.pointer (some ⟨g616, 1, none⟩)))⟩, ⟨[4, 6], [], [], Fct.cond r704 (some 87) (Fct.val 87 (.int .i64 x609.2.2))⟩, ⟨[4, 5, 7], [], [], Fct.cond r704 (some 88) (Fct.val 88 (.bool r705))⟩, ⟨[4, 8], [], [], Fct.cond r704 (some 89) (Fct.val 89 (.bool (!r705)))⟩, ⟨[4, 9], [], [], Fct.val 90 (.bool (r704 && (!r705)))⟩, ⟨[10], [], [], Fct.val 91 (.bool (r704 && (!r705)))⟩, ⟨[11], [8], [], Fct.cond (r704 && (!r705)) (some 92) (Fct.val 92 (.agg #[.int .i64 (ad x2.1 b3.1), .int .i64 (ad x2.2 b3.2), .int .i64 (sb b3.1 x2.1), .int .i64 (sb b3.2 x2.2)]))⟩, ⟨[11], [10], [], Fct.cond (r704 && (!r705)) (some 93) (Fct.val 93 (.agg #[.int .i64 x609.1.1, .int .i64 x609.1.2]))⟩, ⟨[11], [11], [], Fct.cond (r704 && (!r705)) (some 94) (Fct.val 94 (.agg #[.int .i64 x609.2.1, .int .i64 x609.2.2]))⟩, ⟨[11, 12, 13, 14], [], [], Fct.cond (r704 && (!r705)) (some 95) (Fct.val 95 (.int .i64 r706))⟩, ⟨[11, 15], [], [], Fct.cond (r704 && (!r705)) (some 96) (Fct.val 96 (.bool (decide (r706 < 0))))⟩, ⟨[11, 16], [], [], Fct.val 97 (.bool x707)⟩, ⟨[17], [], [], Fct.val 79 (.bool x707)⟩] hz700 hd700 (by kernel_rfl) ?_ ?_
    · refine sc (fun _ _ _ _ s hE => px (or_load (l := [.int .i64 (ad x2.1 b3.1), .int .i64 (ad x2.2 b3.2), .int .i64 (sb b3.1 x2.1), .int .i64 (sb b3.2 x2.2)]) ta64 (s.1.trans e700_8) (Blk.cellsFrom (be_ hE b700_g387).2 0 rfl) rfl)) ?_
      refine sc (fun _ _ _ _ s _ => px (or_field fo32_1 (s.1.trans e700_10) (by rfl))) ?_
      refine sc (fun _ _ _ f _ hE => px (or_load1 to3 f.1 (Blk.at_ (be_ hE b700_g612).2 1 rfl))) ?_
      refine sc (fun _ _ _ f _ _ => px (or_call cf41 (args2 f.1 f.2.1) (ring_beside_over_w _ ((ad x2.1 b3.1, ad x2.2 b3.2), (sb b3.1 x2.1, sb b3.2 x2.2)) x609.1.2  r704 hr704) post_val)) ?_
      refine sc (fun _ _ _ f _ _ => px (or_move f.1)) ?_
      refine sc (fun _ _ _ f s hE => sg_t rfl rfl rfl f.1 (fun hg => or_load (l := [.int .i64 (ad x2.1 b3.1), .int .i64 (ad x2.2 b3.2), .int .i64 (sb b3.1 x2.1), .int .i64 (sb b3.2 x2.2)]) ta64 (s.1.trans e700_8) (Blk.cellsFrom (be_ hE b700_g387).2 0 rfl) rfl)) ?_
      refine sc (fun _ _ _ f s _ => sg_t rfl rfl rfl f.1 (fun hg => or_field fo32_1 (s.1.trans e700_11) (by rfl))) ?_
      refine sc (fun _ _ _ f _ hE => sg_t rfl rfl rfl f.1 (fun hg => or_load1 to3 (f.2.1.1 hg) (Blk.at_ (be_ hE b700_g616).2 1 rfl))) ?_
      refine sc (fun _ _ _ f _ _ => sg_t rfl rfl rfl f.1 (fun hg => or_call cf41 (args2 (f.2.1.1 hg) (f.2.2.1.1 hg)) (ring_beside_over_w _ ((ad x2.1 b3.1, ad x2.2 b3.2), (sb b3.1 x2.1, sb b3.2 x2.2)) x609.2.2  r705 (gd_t hr705 hg)) post_val)) ?_
      refine sc (fun _ _ _ f _ _ => sg_t rfl rfl rfl f.1 (fun hg => or_not (f.2.1.1 hg) rfl)) ?_
      refine sc (fun _ _ _ f _ _ => px (or_and f.1 (fun hx => f.2.1.1 hx) rfl rfl)) ?_
      refine sc (fun _ _ _ f _ _ => px (or_move f.1)) ?_
      refine sc (fun _ _ _ f s hE => sg_t rfl rfl rfl f.1 (fun hg => or_load (l := [.int .i64 (ad x2.1 b3.1), .int .i64 (ad x2.2 b3.2), .int .i64 (sb b3.1 x2.1), .int .i64 (sb b3.2 x2.2)]) ta64 (s.1.trans e700_8) (Blk.cellsFrom (be_ hE b700_g387).2 0 rfl) rfl)) ?_
      refine sc (fun _ _ _ f s hE => sg_t rfl rfl rfl f.1 (fun hg => or_load (l := [.int .i64 x609.1.1, .int .i64 x609.1.2]) ta32 (s.1.trans e700_10) (Blk.cellsFrom (be_ hE b700_g612).2 0 rfl) rfl)) ?_
      refine sc (fun _ _ _ f s hE => sg_t rfl rfl rfl f.1 (fun hg => or_load (l := [.int .i64 x609.2.1, .int .i64 x609.2.2]) ta32 (s.1.trans e700_11) (Blk.cellsFrom (be_ hE b700_g616).2 0 rfl) rfl)) ?_
      refine sc (fun _ _ _ f _ _ => sg_t rfl rfl rfl f.1 (fun hg => or_call cf42 (args3 (f.2.1.1 hg) (f.2.2.1.1 hg) (f.2.2.2.1.1 hg)) (ring_beside_side_w _ ((ad x2.1 b3.1, ad x2.2 b3.2), (sb b3.1 x2.1, sb b3.2 x2.2)) x609.1 x609.2  r706 (gd_t hr706 hg)) post_val)) ?_
      refine sc (fun _ _ _ f _ _ => sg_t rfl rfl rfl f.1 (fun hg => or_lss (f.2.1.1 hg) rfl rfl)) ?_
      refine sc (fun _ _ _ f _ _ => px (or_and f.1 (fun hx => f.2.1.1 hx) rfl (osome hx707).symm)) ?_
      refine sc (fun _ _ _ f _ _ => px (or_assign f.1)) ?_
      exact steps_nil
    intro own708 a708 w708 hd708 hz708 hk708 hf708 hE708
    have e708_6 := (hk708 6 rfl).trans e700_6
    have e708_7 := (hk708 7 rfl).trans e700_7
    have e708_8 := (hk708 8 rfl).trans e700_8
    have e708_9 := (hk708 9 rfl).trans e700_9
    have e708_51 := (hk708 51 rfl).trans e700_51
    obtain ⟨(e708_79 : a708.eval (.tmp 79) = .bool x707), -⟩ := hf708 [18] rfl
    have hX708 := Evo.stepK hX700 hE708 rfl
    have b708_g368 := be_ hE708 b700_g368
    have b708_g370 := be_ hE708 b700_g370
    have b708_g387 := be_ hE708 b700_g387
    have b708_g391 := be_ hE708 b700_g391
    have b708_cA396 := be_ hE708 b700_cA396
    have b708_Al1 := RdO.evo rfl hE708 b700_Al1
    have b708_rc := RcO.evo (by decide) hE708 b700_rc
    have b708_mk := MkO.evo (by decide) hE708 b700_mk
    refine fl_cond e708_79 hs (fun c709 hs => ?_) (fun c709 hs => ?_)
    · refine rg_plain (n := 101) (rs := [Fct.at_ 393 g391 3 #[.int .i64 n503]]) (own0 := own708) (K := [393]) (bs := (bz 3)) (ds := [⟨[3], [9], [], Fct.val 98 (.int .i64 n503)⟩, ⟨[0], [], [], Fct.val 99 (.int .i64 (sb n503 1))⟩, ⟨[1, 3], [9], [393], Fct.at_ 710 g391 3 #[.int .i64 (sb n503 1)]⟩]) (by kernel_rfl) hz708 hd708 (by simp only [List.forall_mem_cons]; exact ⟨b708_g391, fun _ h => nomatch h⟩) ?_ ?_
      · refine sc (fun own a wx hf hsl hE => ?_) ?_
        · obtain ⟨(b_g391 : BlkO own 393 wx g391 3 #[.int .i64 n503]), -⟩ := hf
          obtain ⟨s_9, -⟩ := hsl
          exact px (or_load1 to3 (s_9.trans e708_9) (Blk.at_ b_g391.2 0 rfl))
        refine sc (fun _ _ _ f _ _ => px (or_sub f.1 rfl rfl)) ?_
        refine sc (fun own a wx hf hsl hE => ?_) ?_
        · obtain ⟨f_99, b_g391, -⟩ := hf
          obtain ⟨s_9, -⟩ := hsl
          exact px (or_store1 (lab := 393) (lab2 := 710) ts3 (s_9.trans e708_9) f_99 b_g391 (by simp) rfl (mem_of rfl) (by decide) rfl (fun own' a' w' ha hb => hb))
        exact steps_nil
      intro own711 a711 w711 hd711 hz711 hk711 hf711 hE711
      have e711_6 := (hk711 6 rfl).trans e708_6
      have e711_7 := (hk711 7 rfl).trans e708_7
      have e711_8 := (hk711 8 rfl).trans e708_8
      have e711_9 := (hk711 9 rfl).trans e708_9
      have e711_51 := (hk711 51 rfl).trans e708_51
      obtain ⟨(b711_g391 : BlkO own711 710 w711 g391 3 #[.int .i64 (sb n503 1)]), -⟩ := hf711 [2] rfl
      have hX711 := Evo.stepK hX708 hE711 rfl
      have b711_g368 := be_ hE711 b708_g368
      have b711_g370 := be_ hE711 b708_g370
      have b711_g387 := be_ hE711 b708_g387
      have b711_cA396 := be_ hE711 b708_cA396
      have b711_Al1 := RdO.evo rfl hE711 b708_Al1
      have b711_rc := RcO.evo (by decide) hE711 b708_rc
      have b711_mk := MkO.evo (by decide) hE711 b708_mk
      exact (K694 _ _ (rl [(710, 692)] own711) _ hd711 hz711 e711_6 e711_7 e711_8 e711_9 e711_51 (Evo.rlK hX711 rfl) (BlkO.rl_ (mm := [(710, 692)]) b711_g368) (BlkO.rl_ (mm := [(710, 692)]) b711_g370) (BlkO.rl_ (mm := [(710, 692)]) b711_g387) (BlkO.rl_ (mm := [(710, 692)]) b711_g391) (BlkO.rl_ (mm := [(710, 692)]) b711_cA396) (RdO.rl_ (mm := [(710, 692)]) b711_Al1) (MkO.rl_ (mm := [(710, 692)]) b711_mk) (RcO.rl_ (mm := [(710, 692)]) b711_rc) hs).1
    refine fl_skip ?_
    exact (K694 _ _ (rl [(393, 692)] own708) _ hd708 hz708 e708_6 e708_7 e708_8 e708_9 e708_51 (Evo.rlK hX708 rfl) (BlkO.rl_ (mm := [(393, 692)]) b708_g368) (BlkO.rl_ (mm := [(393, 692)]) b708_g370) (BlkO.rl_ (mm := [(393, 692)]) b708_g387) (BlkO.rl_ (mm := [(393, 692)]) b708_g391) (BlkO.rl_ (mm := [(393, 692)]) b708_cA396) (RdO.rl_ (mm := [(393, 692)]) b708_Al1) (MkO.rl_ (mm := [(393, 692)]) b708_mk) (RcO.rl_ (mm := [(393, 692)]) b708_rc) hs).1
  · rintro n503 a712 own712 w712 Ds712 hzz712 hd712 hz712 hkp712 hmk712 ⟨hE712, b712_g368, b712_g370, b712_g387, b712_g391, b712_cA396, b712_Al1⟩
    subst hzz712
    have hs : ring_Beside_b3 n503 = some r := hs
    have e712_6 : a712.eval (.tmp 6) = .pointer (some ⟨g368, 0, none⟩) := (hkp712 6).trans e398_6
    have e712_7 : a712.eval (.tmp 7) = .pointer (some ⟨g370, 0, none⟩) := (hkp712 7).trans e398_7
    have e712_8 : a712.eval (.tmp 8) = .pointer (some ⟨g387, 0, none⟩) := (hkp712 8).trans e398_8
    have e712_9 : a712.eval (.tmp 9) = .pointer (some ⟨g391, 0, none⟩) := (hkp712 9).trans e398_9
    have e712_51 : a712.eval (.tmp 51) = .func (.func 55) #[] #[.pointer (some ⟨cA396, 0, none⟩)] := (hkp712 51).trans e398_51
    refine hn399 _ _ ?_
    refine hn395 _ _ ?_
    refine rg_plain_seq (n := 101) (rs := [Fct.at_ 369 g368 3 #[.int .i64 0], Fct.at_ 371 g370 4 #[.bool false]]) (own0 := own712) (K := [369, 371]) (bs := (bz 3)) (ds := [⟨[], [9], [], Fct.val 100 (.int .i64 n503)⟩, ⟨[0, 3], [6], [369], Fct.at_ 714 g368 3 #[.int .i64 n503]⟩, ⟨[4], [7], [371], Fct.at_ 715 g370 4 #[.bool true]⟩]) (by kernel_rfl) hz712 hd712 (by simp only [List.forall_mem_cons]; exact ⟨b712_g368, b712_g370, fun _ h => nomatch h⟩) ?_ ?_
    · refine sc (fun _ _ _ _ s hE => px (or_load1 to3 (s.1.trans e712_9) (Blk.at_ (be_ hE b712_g391).2 0 rfl))) ?_
      refine sc (fun own a wx hf hsl hE => ?_) ?_
      · obtain ⟨f_100, b_g368, -⟩ := hf
        obtain ⟨s_6, -⟩ := hsl
        exact px (or_store1 (lab := 369) (lab2 := 714) ts3 (s_6.trans e712_6) f_100 b_g368 (by simp) rfl (mem_of rfl) (by decide) rfl (fun own' a' w' ha hb => hb))
      refine sc (fun own a wx hf hsl hE => ?_) ?_
      · obtain ⟨b_g370, -⟩ := hf
        obtain ⟨s_7, -⟩ := hsl
        exact px (or_store1 (lab := 371) (lab2 := 715) ts4 (s_7.trans e712_7) rfl b_g370 (by simp) rfl (mem_of rfl) (by decide) rfl (fun own' a' w' ha hb => hb))
      exact steps_nil
    intro own716 a716 w716 hd716 hz716 hk716 hf716 hE716
    have e716_6 := (hk716 6 rfl).trans e712_6
    have e716_7 := (hk716 7 rfl).trans e712_7
    obtain ⟨(b716_g368 : BlkO own716 714 w716 g368 3 #[.int .i64 n503]), (b716_g370 : BlkO own716 715 w716 g370 4 #[.bool true]), -⟩ := hf716 [1, 2] rfl
    have hX716 := es_ hE712 hE716
    have b716_mk := MkO.evo (by decide) hE716 hmk712
    refine fl_ret ?_
    refine hret _ _ _ _ _ (.inl rfl) hd716 b716_mk (fun own717 w717 hE717 => ?_)
    have hX718 := es_ hX716 hE717
    have b718_g368 := be_ hE717 b716_g368
    have b718_g370 := be_ hE717 b716_g370
    obtain rfl := osome hs
    exact ⟨_, results2_ rfl (RVal.cell_ e716_6 (run_loadVarOne to3 (Blk.at_ b718_g368.2 0 rfl))) (RVal.cell_ e716_7 (run_loadVarOne to4 (Blk.at_ b718_g370.2 0 rfl))), ⟨own717, rfl, hX718⟩⟩
  · rintro _ a719 own719 w719 Ds719 hzz719 hd719 hz719 hkp719 hmk719 ⟨hE719, b719_g368, b719_g370⟩
    subst hzz719
    have hs : ring_Beside_b4 = some r := hs
    have e719_6 : a719.eval (.tmp 6) = .pointer (some ⟨g368, 0, none⟩) := (hkp719 6).trans e398_6
    have e719_7 : a719.eval (.tmp 7) = .pointer (some ⟨g370, 0, none⟩) := (hkp719 7).trans e398_7
    refine fl_ret ?_
    refine hp399 _ _ _ rfl ?_
    refine hp395 _ _ _ rfl ?_
    refine hret _ _ _ _ _ (.inl rfl) hd719 hmk719 (fun own720 w720 hE720 => ?_)
    have hX721 := es_ hE719 hE720
    have b721_g368 := be_ hE720 b719_g368
    have b721_g370 := be_ hE720 b719_g370
    obtain rfl := osome hs
    exact ⟨_, results2_ rfl (RVal.cell_ e719_6 (run_loadVarOne to3 (Blk.at_ b721_g368.2 0 rfl))) (RVal.cell_ e719_7 (run_loadVarOne to4 (Blk.at_ b721_g370.2 0 rfl))), ⟨own720, rfl, hX721⟩⟩
theorem law03_known_w (w : World) (r : Bool) (hs : law03_known = some r) :
    Calls Try.prog 12 #[] w fun e w' => ∃ own' : Own, e = .returned (.bool r) ∧ Evo [] (fun _ => 0) own' w w' := by
  refine fl_enter (n := 81) rfl rfl rfl (Nat.le_of_ble_eq_true rfl) ?_
  intro a0 Q hd0 hz0 harg hret
  clear harg
  have hE0 : Evo [] (fun _ => 0) (fun _ => 0) w w := Evo.refl _ _ _
  refine rg0_seq 81 (fun _ => 0) (bz 1) [⟨[], [], [], Fct.val 0 (.bool false)⟩] hz0 hd0 (by kernel_rfl) ?_ ?_
  · refine sc (fun _ _ _ _ _ _ => px (or_assign rfl)) ?_
    exact steps_nil
  intro own33 a33 w33 hd33 hz33 hk33 hf33 hE33
  have hX33 := es_ hE0 hE33
  refine rg0_seq 81 own33 [0, 0, 0, 0, 15, 31] [⟨[], [], [], Fct.val 10 (.agg #[.int .i64 0, .int .i64 0])⟩, ⟨[], [], [], Fct.val 11 (.agg #[.int .i64 4, .int .i64 0])⟩, ⟨[], [], [], Fct.val 12 (.agg #[.int .i64 4, .int .i64 4])⟩, ⟨[], [], [], Fct.val 13 (.agg #[.int .i64 0, .int .i64 4])⟩, ⟨[0, 1, 2, 3], [], [], Fct.row 35 [] 14 32 R32 [(0, 0), (4, 0), (4, 4), (0, 4)]⟩, ⟨[4], [], [], Fct.rel [1, 14] (fun l => ∀ (A34 : Option Addr) (cA34 : Nat), l.getD 1 undef = .slice A34 [(0, 0), (4, 0), (4, 4), (0, 4)].length cA34 → l.getD 0 undef = .slice A34 [(0, 0), (4, 0), (4, 4), (0, 4)].length cA34)⟩] hz33 hd33 (by kernel_rfl) ?_ ?_
  · refine sc (fun _ _ _ _ _ _ => px (or_k [] rfl rfl trivial (by kernel_rfl))) ?_
    refine sc (fun _ _ _ _ _ _ => px (or_k [] rfl rfl trivial (by kernel_rfl))) ?_
    refine sc (fun _ _ _ _ _ _ => px (or_k [] rfl rfl trivial (by kernel_rfl))) ?_
    refine sc (fun _ _ _ _ _ _ => px (or_k [] rfl rfl trivial (by kernel_rfl))) ?_
    refine sc (fun _ _ _ f _ _ => px (or_lit (lab := 35) (e := 32) (cs := #[.int .i64 0, .int .i64 0, .int .i64 4, .int .i64 0, .int .i64 4, .int .i64 4, .int .i64 0, .int .i64 4]) (F := E32) (or_new [(10, .agg #[.int .i64 0, .int .i64 0]), (11, .agg #[.int .i64 4, .int .i64 0]), (12, .agg #[.int .i64 4, .int .i64 4]), (13, .agg #[.int .i64 0, .int .i64 4])] rfl rfl ⟨f.1, f.2.1, f.2.2.1, f.2.2.2.1, trivial⟩ (by kernel_rfl)) rfl rfl (show 4 ≤ maxLen by decide))) ?_
    refine sc (fun own a wx hf hsl hE => ?_) ?_
    · obtain ⟨⟨⟨A34, cA34⟩, (f_14 : a.eval (.tmp 14) = .slice A34 [(0, 0), (4, 0), (4, 4), (0, 4)].length cA34), b_A34⟩, -⟩ := hf
      exact px (or_mono (f := Fct.val 1 (.slice A34 [(0, 0), (4, 0), (4, 4), (0, 4)].length cA34)) (or_assign f_14) (fun own' a' w' v' hp h => fun _ _ h0' => by cases (f_14.symm.trans ((hp.2 14 (by decide)).symm.trans h0')); exact h))
    exact steps_nil
  intro own36 a36 w36 hd36 hz36 hk36 hf36 hE36
  obtain ⟨⟨⟨A34, cA34⟩, (f_14 : a36.eval (.tmp 14) = .slice A34 [(0, 0), (4, 0), (4, 4), (0, 4)].length cA34), (b36_A34 : RwO own36 35 [] w36 32 R32 A34 cA34 [(0, 0), (4, 0), (4, 4), (0, 4)])⟩, (q_1 : ∀ (A34 : Option Addr) (cA34 : Nat), a36.eval (.tmp 14) = .slice A34 [(0, 0), (4, 0), (4, 4), (0, 4)].length cA34 → a36.eval (.tmp 1) = .slice A34 [(0, 0), (4, 0), (4, 4), (0, 4)].length cA34), -⟩ := hf36 [4, 5] rfl
  have e36_1 := q_1 _ _ f_14
  have hX36 := es_ hX33 hE36
  obtain ⟨r37, hr37, hs⟩ := obind hs
  refine rg0_seq 81 own36 [0, 0, 3, 7, 15, 15, 31, 127] [⟨[], [1], [], Fct.val 16 (.slice A34 [(0, 0), (4, 0), (4, 4), (0, 4)].length cA34)⟩, ⟨[], [], [], Fct.val 17 (.agg #[.int .i64 2, .int .i64 2])⟩, ⟨[0, 1], [], [], Fct.val 18 (.tuple #[.int .i64 r37.1, .bool r37.2])⟩, ⟨[2], [], [], Fct.val 15 (.tuple #[.int .i64 r37.1, .bool r37.2])⟩, ⟨[3], [], [], Fct.val 19 (.int .i64 r37.1)⟩, ⟨[3], [], [], Fct.val 20 (.bool r37.2)⟩, ⟨[4], [], [], Fct.val 2 (.int .i64 r37.1)⟩, ⟨[5], [], [], Fct.val 3 (.bool r37.2)⟩] hz36 hd36 (by kernel_rfl) ?_ ?_
  · refine sc (fun _ _ _ _ s _ => px (or_move (s.1.trans e36_1))) ?_
    refine sc (fun _ _ _ _ _ _ => px (or_k [] rfl rfl trivial (by kernel_rfl))) ?_
    refine sc (fun _ _ _ f _ hE => px (or_call cf16 (args2 f.1 f.2.1) (ring_Winding_w _ [(0, 0), (4, 0), (4, 4), (0, 4)] A34 cA34 (2, 2) (RdO.zero (RwO.rd (re_ hE b36_A34))) r37 hr37) post_val)) ?_
    refine sc (fun _ _ _ f _ _ => px (or_move f.1)) ?_
    refine sc (fun _ _ _ f _ _ => px (or_k [(15, .tuple #[.int .i64 r37.1, .bool r37.2])] rfl rfl ⟨f.1, trivial⟩ (by kernel_rfl))) ?_
    refine sc (fun _ _ _ f _ _ => px (or_k [(15, .tuple #[.int .i64 r37.1, .bool r37.2])] rfl rfl ⟨f.1, trivial⟩ (by kernel_rfl))) ?_
    refine sc (fun _ _ _ f _ _ => px (or_assign f.1)) ?_
    refine sc (fun _ _ _ f _ _ => px (or_assign f.1)) ?_
    exact steps_nil
  intro own38 a38 w38 hd38 hz38 hk38 hf38 hE38
  have e38_1 := (hk38 1 rfl).trans e36_1
  obtain ⟨(e38_2 : a38.eval (.tmp 2) = .int .i64 r37.1), (e38_3 : a38.eval (.tmp 3) = .bool r37.2), -⟩ := hf38 [6, 7] rfl
  have hX38 := es_ hX36 hE38
  have b38_A34 := re_ hE38 b36_A34
  obtain ⟨r39, hr39, hs⟩ := obind hs
  refine rg0_seq 81 own38 [0, 0, 3, 7, 15, 15, 31, 127] [⟨[], [1], [], Fct.val 22 (.slice A34 [(0, 0), (4, 0), (4, 4), (0, 4)].length cA34)⟩, ⟨[], [], [], Fct.val 23 (.agg #[.int .i64 4, .int .i64 2])⟩, ⟨[0, 1], [], [], Fct.val 24 (.tuple #[.int .i64 r39.1, .bool r39.2])⟩, ⟨[2], [], [], Fct.val 21 (.tuple #[.int .i64 r39.1, .bool r39.2])⟩, ⟨[3], [], [], Fct.val 25 (.int .i64 r39.1)⟩, ⟨[3], [], [], Fct.val 26 (.bool r39.2)⟩, ⟨[4], [], [], Fct.val 4 (.int .i64 r39.1)⟩, ⟨[5], [], [], Fct.val 5 (.bool r39.2)⟩] hz38 hd38 (by kernel_rfl) ?_ ?_
  · refine sc (fun _ _ _ _ s _ => px (or_move (s.1.trans e38_1))) ?_
    refine sc (fun _ _ _ _ _ _ => px (or_k [] rfl rfl trivial (by kernel_rfl))) ?_
    refine sc (fun _ _ _ f _ hE => px (or_call cf16 (args2 f.1 f.2.1) (ring_Winding_w _ [(0, 0), (4, 0), (4, 4), (0, 4)] A34 cA34 (4, 2) (RdO.zero (RwO.rd (re_ hE b38_A34))) r39 hr39) post_val)) ?_
    refine sc (fun _ _ _ f _ _ => px (or_move f.1)) ?_
    refine sc (fun _ _ _ f _ _ => px (or_k [(21, .tuple #[.int .i64 r39.1, .bool r39.2])] rfl rfl ⟨f.1, trivial⟩ (by kernel_rfl))) ?_
    refine sc (fun _ _ _ f _ _ => px (or_k [(21, .tuple #[.int .i64 r39.1, .bool r39.2])] rfl rfl ⟨f.1, trivial⟩ (by kernel_rfl))) ?_
    refine sc (fun _ _ _ f _ _ => px (or_assign f.1)) ?_
    refine sc (fun _ _ _ f _ _ => px (or_assign f.1)) ?_
    exact steps_nil
  intro own40 a40 w40 hd40 hz40 hk40 hf40 hE40
  have e40_1 := (hk40 1 rfl).trans e38_1
  have e40_2 := (hk40 2 rfl).trans e38_2
  have e40_3 := (hk40 3 rfl).trans e38_3
  obtain ⟨(e40_5 : a40.eval (.tmp 5) = .bool r39.2), -⟩ := hf40 [7] rfl
  have hX40 := es_ hX38 hE40
  have b40_A34 := re_ hE40 b38_A34
  obtain ⟨x41, hx41, hs⟩ := obind hs
  obtain ⟨x42, hx42, hs⟩ := obind hs
  obtain ⟨r43, hr43, hs⟩ := obind hs
  refine rg_draw_seq g_mixed (n := 81) (rs := []) (own0 := own40) (K := []) (bs := [0, 0, 2, 6, 0, 16, 48, 127, 255, 511, 511, 1023, 4095]) (ds := [⟨[], [1], [], Fct.val 28 (.slice A34 [(0, 0), (4, 0), (4, 4), (0, 4)].length cA34)⟩, ⟨[], [1], [], Fct.val 29 (.slice A34 [(0, 0), (4, 0), (4, 4), (0, 4)].length cA34)⟩, ⟨[1], [], [], Fct.val 30 (.pointer (some ((adr A34).add ((0 : Int).toNat * R32.s))))⟩, ⟨[2], [], [], Fct.val 31 (.agg #[.int .i64 x41.1, .int .i64 x41.2])⟩, ⟨[], [1], [], Fct.val 32 (.slice A34 [(0, 0), (4, 0), (4, 4), (0, 4)].length cA34)⟩, ⟨[4], [], [], Fct.val 33 (.pointer (some ((adr A34).add ((1 : Int).toNat * R32.s))))⟩, ⟨[5], [], [], Fct.val 34 (.agg #[.int .i64 x42.1, .int .i64 x42.2])⟩, ⟨[0, 3, 6], [], [], Fct.val 35 (.tuple #[.int .i64 r43.1, .bool r43.2])⟩, ⟨[7], [], [], Fct.val 27 (.tuple #[.int .i64 r43.1, .bool r43.2])⟩, ⟨[8], [], [], Fct.val 36 (.int .i64 r43.1)⟩, ⟨[8], [], [], Fct.val 37 (.bool r43.2)⟩, ⟨[9], [], [], Fct.val 6 (.int .i64 r43.1)⟩, ⟨[10], [], [], Fct.val 7 (.bool r43.2)⟩]) (by kernel_rfl) hz40 hd40 nm_ ?_ ?_
  · refine sc (fun _ _ _ _ s _ => px (or_move (s.1.trans e40_1))) ?_
    refine sc (fun _ _ _ _ s _ => px (or_move (s.1.trans e40_1))) ?_
    refine sc (fun _ _ _ f _ _ => px (or_index (R := R32) (l := [(0, 0), (4, 0), (4, 4), (0, 4)]) tl22 f.1 rfl (RdO.some_ (RwO.rd b40_A34) hx41) hx41)) ?_
    refine sc (fun _ _ _ f _ hE => px (or_load (l := E32.f x41) ta32 f.1 (RdO.cells (F := E32) (RwO.rd (re_ hE b40_A34)) hx41) rfl)) ?_
    refine sc (fun _ _ _ _ s _ => px (or_move (s.1.trans e40_1))) ?_
    refine sc (fun _ _ _ f _ _ => px (or_index (R := R32) (l := [(0, 0), (4, 0), (4, 4), (0, 4)]) tl22 f.1 rfl (RdO.some_ (RwO.rd b40_A34) hx42) hx42)) ?_
    refine sc (fun _ _ _ f _ hE => px (or_load (l := E32.f x42) ta32 f.1 (RdO.cells (F := E32) (RwO.rd (re_ hE b40_A34)) hx42) rfl)) ?_
    refine sc (fun _ _ _ f _ hE => px (or_call cf17 (args3 f.1 f.2.1 f.2.2.1) (ring_Beside_w _ [(0, 0), (4, 0), (4, 4), (0, 4)] A34 cA34 x41 x42 (RdO.zero (RwO.rd (re_ hE b40_A34))) r43 hr43) post_val)) ?_
    refine sc (fun _ _ _ f _ _ => px (or_move f.1)) ?_
    refine sc (fun _ _ _ f _ _ => px (or_k [(27, .tuple #[.int .i64 r43.1, .bool r43.2])] rfl rfl ⟨f.1, trivial⟩ (by kernel_rfl))) ?_
    refine sc (fun _ _ _ f _ _ => px (or_k [(27, .tuple #[.int .i64 r43.1, .bool r43.2])] rfl rfl ⟨f.1, trivial⟩ (by kernel_rfl))) ?_
    refine sc (fun _ _ _ f _ _ => px (or_assign f.1)) ?_
    refine sc (fun _ _ _ f _ _ => px (or_assign f.1)) ?_
    exact steps_nil
  intro own44 a44 w44 hd44 hz44 hk44 hf44 hE44
  have e44_1 := (hk44 1 rfl).trans e40_1
  have e44_2 := (hk44 2 rfl).trans e40_2
  have e44_3 := (hk44 3 rfl).trans e40_3
  have e44_5 := (hk44 5 rfl).trans e40_5
  obtain ⟨(e44_6 : a44.eval (.tmp 6) = .int .i64 r43.1), (e44_7 : a44.eval (.tmp 7) = .bool r43.2), -⟩ := hf44 [11, 12] rfl
  have hX44 := es_ hX40 hE44
  have b44_A34 := re_ hE44 b40_A34
  obtain ⟨x45, hx45, hs⟩ := obind hs
  obtain ⟨x46, hx46, hs⟩ := obind hs
  obtain ⟨r47, hr47, hs⟩ := obind hs
  refine rg_draw_seq g_mixed (n := 81) (rs := []) (own0 := own44) (K := []) (bs := [0, 0, 2, 6, 0, 16, 48, 127, 255, 511, 511, 1023, 4095]) (ds := [⟨[], [1], [], Fct.val 39 (.slice A34 [(0, 0), (4, 0), (4, 4), (0, 4)].length cA34)⟩, ⟨[], [1], [], Fct.val 40 (.slice A34 [(0, 0), (4, 0), (4, 4), (0, 4)].length cA34)⟩, ⟨[1], [], [], Fct.val 41 (.pointer (some ((adr A34).add ((1 : Int).toNat * R32.s))))⟩, ⟨[2], [], [], Fct.val 42 (.agg #[.int .i64 x45.1, .int .i64 x45.2])⟩, ⟨[], [1], [], Fct.val 43 (.slice A34 [(0, 0), (4, 0), (4, 4), (0, 4)].length cA34)⟩, ⟨[4], [], [], Fct.val 44 (.pointer (some ((adr A34).add ((0 : Int).toNat * R32.s))))⟩, ⟨[5], [], [], Fct.val 45 (.agg #[.int .i64 x46.1, .int .i64 x46.2])⟩, ⟨[0, 3, 6], [], [], Fct.val 46 (.tuple #[.int .i64 r47.1, .bool r47.2])⟩, ⟨[7], [], [], Fct.val 38 (.tuple #[.int .i64 r47.1, .bool r47.2])⟩, ⟨[8], [], [], Fct.val 47 (.int .i64 r47.1)⟩, ⟨[8], [], [], Fct.val 48 (.bool r47.2)⟩, ⟨[9], [], [], Fct.val 8 (.int .i64 r47.1)⟩, ⟨[10], [], [], Fct.val 9 (.bool r47.2)⟩]) (by kernel_rfl) hz44 hd44 nm_ ?_ ?_
  · refine sc (fun _ _ _ _ s _ => px (or_move (s.1.trans e44_1))) ?_
    refine sc (fun _ _ _ _ s _ => px (or_move (s.1.trans e44_1))) ?_
    refine sc (fun _ _ _ f _ _ => px (or_index (R := R32) (l := [(0, 0), (4, 0), (4, 4), (0, 4)]) tl22 f.1 rfl (RdO.some_ (RwO.rd b44_A34) hx45) hx45)) ?_
    refine sc (fun _ _ _ f _ hE => px (or_load (l := E32.f x45) ta32 f.1 (RdO.cells (F := E32) (RwO.rd (re_ hE b44_A34)) hx45) rfl)) ?_
    refine sc (fun _ _ _ _ s _ => px (or_move (s.1.trans e44_1))) ?_
    refine sc (fun _ _ _ f _ _ => px (or_index (R := R32) (l := [(0, 0), (4, 0), (4, 4), (0, 4)]) tl22 f.1 rfl (RdO.some_ (RwO.rd b44_A34) hx46) hx46)) ?_
    refine sc (fun _ _ _ f _ hE => px (or_load (l := E32.f x46) ta32 f.1 (RdO.cells (F := E32) (RwO.rd (re_ hE b44_A34)) hx46) rfl)) ?_
    refine sc (fun _ _ _ f _ hE => px (or_call cf17 (args3 f.1 f.2.1 f.2.2.1) (ring_Beside_w _ [(0, 0), (4, 0), (4, 4), (0, 4)] A34 cA34 x45 x46 (RdO.zero (RwO.rd (re_ hE b44_A34))) r47 hr47) post_val)) ?_
    refine sc (fun _ _ _ f _ _ => px (or_move f.1)) ?_
    refine sc (fun _ _ _ f _ _ => px (or_k [(38, .tuple #[.int .i64 r47.1, .bool r47.2])] rfl rfl ⟨f.1, trivial⟩ (by kernel_rfl))) ?_
    refine sc (fun _ _ _ f _ _ => px (or_k [(38, .tuple #[.int .i64 r47.1, .bool r47.2])] rfl rfl ⟨f.1, trivial⟩ (by kernel_rfl))) ?_
    refine sc (fun _ _ _ f _ _ => px (or_assign f.1)) ?_
    refine sc (fun _ _ _ f _ _ => px (or_assign f.1)) ?_
    exact steps_nil
  intro own48 a48 w48 hd48 hz48 hk48 hf48 hE48
  have e48_1 := (hk48 1 rfl).trans e44_1
  have e48_2 := (hk48 2 rfl).trans e44_2
  have e48_3 := (hk48 3 rfl).trans e44_3
  have e48_5 := (hk48 5 rfl).trans e44_5
  have e48_6 := (hk48 6 rfl).trans e44_6
  have e48_7 := (hk48 7 rfl).trans e44_7
  obtain ⟨(e48_8 : a48.eval (.tmp 8) = .int .i64 r47.1), (e48_9 : a48.eval (.tmp 9) = .bool r47.2), -⟩ := hf48 [11, 12] rfl
  have hX48 := es_ hX44 hE48
  have b48_A34 := re_ hE48 b44_A34
  obtain ⟨r49, hr49, hs⟩ := obind hs
  obtain ⟨r50, hr50, hs⟩ := obind hs
  obtain ⟨x51, hx51, hs⟩ := obind hs
  obtain ⟨x52, hx52, hs⟩ := obind hs
  obtain ⟨x53, hx53, hs⟩ := obind hs
  refine rg0_seq 81 own48 (bz 33) [⟨[], [1], [], Fct.val 49 (.slice A34 [(0, 0), (4, 0), (4, 4), (0, 4)].length cA34)⟩, ⟨[0], [], [], Fct.val 50 (.int .i64 r49)⟩, ⟨[1], [], [], Fct.val 51 (.bool (decide (r49 = 32)))⟩, ⟨[2], [], [], Fct.val 52 (.bool (decide (r49 = 32)))⟩, ⟨[3], [1], [], Fct.cond (decide (r49 = 32)) (some 53) (Fct.val 53 (.slice A34 [(0, 0), (4, 0), (4, 4), (0, 4)].length cA34))⟩, ⟨[3, 4], [], [], Fct.cond (decide (r49 = 32)) (some 54) (Fct.val 54 (.bool r50))⟩, ⟨[3, 5], [], [], Fct.val 55 (.bool ((decide (r49 = 32)) && r50))⟩, ⟨[6], [], [], Fct.val 56 (.bool ((decide (r49 = 32)) && r50))⟩, ⟨[7], [2], [], Fct.cond ((decide (r49 = 32)) && r50) (some 57) (Fct.val 57 (.int .i64 r37.1))⟩, ⟨[7, 8], [], [], Fct.cond ((decide (r49 = 32)) && r50) (some 58) (Fct.val 58 (.bool (decide (r37.1 = 1))))⟩, ⟨[7, 9], [], [], Fct.val 59 (.bool x51)⟩, ⟨[10], [], [], Fct.val 60 (.bool x51)⟩, ⟨[11], [3], [], Fct.cond x51 (some 61) (Fct.val 61 (.bool r37.2))⟩, ⟨[11, 12], [], [], Fct.val 62 (.bool (x51 && r37.2))⟩, ⟨[13], [], [], Fct.val 63 (.bool (x51 && r37.2))⟩, ⟨[14], [5], [], Fct.cond (x51 && r37.2) (some 64) (Fct.val 64 (.bool r39.2))⟩, ⟨[14, 15], [], [], Fct.cond (x51 && r37.2) (some 65) (Fct.val 65 (.bool (!r39.2)))⟩, ⟨[14, 16], [], [], Fct.val 66 (.bool ((x51 && r37.2) && (!r39.2)))⟩, ⟨[17], [], [], Fct.val 67 (.bool ((x51 && r37.2) && (!r39.2)))⟩, ⟨[18], [6], [], Fct.cond ((x51 && r37.2) && (!r39.2)) (some 68) (Fct.val 68 (.int .i64 r43.1))⟩, ⟨[18, 19], [], [], Fct.cond ((x51 && r37.2) && (!r39.2)) (some 69) (Fct.val 69 (.bool (decide (r43.1 = 1))))⟩, ⟨[18, 20], [], [], Fct.val 70 (.bool x52)⟩, ⟨[21], [], [], Fct.val 71 (.bool x52)⟩, ⟨[22], [7], [], Fct.cond x52 (some 72) (Fct.val 72 (.bool r43.2))⟩, ⟨[22, 23], [], [], Fct.val 73 (.bool (x52 && r43.2))⟩, ⟨[24], [], [], Fct.val 74 (.bool (x52 && r43.2))⟩, ⟨[25], [8], [], Fct.cond (x52 && r43.2) (some 75) (Fct.val 75 (.int .i64 r47.1))⟩, ⟨[25, 26], [], [], Fct.cond (x52 && r43.2) (some 76) (Fct.val 76 (.bool (decide (r47.1 = 0))))⟩, ⟨[25, 27], [], [], Fct.val 77 (.bool x53)⟩, ⟨[28], [], [], Fct.val 78 (.bool x53)⟩, ⟨[29], [9], [], Fct.cond x53 (some 79) (Fct.val 79 (.bool r47.2))⟩, ⟨[29, 30], [], [], Fct.val 80 (.bool (x53 && r47.2))⟩, ⟨[31], [], [], Fct.val 0 (.bool (x53 && r47.2))⟩] hz48 hd48 (by kernel_rfl) ?_ ?_
  · refine sc (fun _ _ _ _ s _ => px (or_move (s.1.trans e48_1))) ?_
    refine sc (fun _ _ _ f _ hE => px (or_call cf13 (args1 f.1) (ring_Area_w _ [(0, 0), (4, 0), (4, 4), (0, 4)] A34 cA34 (RdO.zero (RwO.rd (re_ hE b48_A34))) r49 hr49) post_val)) ?_
    refine sc (fun _ _ _ f _ _ => px (or_eql f.1 rfl rfl)) ?_
    refine sc (fun _ _ _ f _ _ => px (or_move f.1)) ?_
    refine sc (fun _ _ _ f s _ => sg_t rfl rfl rfl f.1 (fun hg => or_move (s.1.trans e48_1))) ?_
    refine sc (fun _ _ _ f _ hE => sg_t rfl rfl rfl f.1 (fun hg => or_call cf14 (args1 (f.2.1.1 hg)) (ring_Simple_w _ [(0, 0), (4, 0), (4, 4), (0, 4)] A34 cA34 (RdO.zero (RwO.rd (re_ hE b48_A34))) r50 (gd_t hr50 hg)) post_val)) ?_
    refine sc (fun _ _ _ f _ _ => px (or_and f.1 (fun hx => f.2.1.1 hx) rfl rfl)) ?_
    refine sc (fun _ _ _ f _ _ => px (or_move f.1)) ?_
    refine sc (fun _ _ _ f s _ => sg_t rfl rfl rfl f.1 (fun hg => or_move (s.1.trans e48_2))) ?_
    refine sc (fun _ _ _ f _ _ => sg_t rfl rfl rfl f.1 (fun hg => or_eql (f.2.1.1 hg) rfl rfl)) ?_
    refine sc (fun _ _ _ f _ _ => px (or_and f.1 (fun hx => f.2.1.1 hx) rfl (osome hx51).symm)) ?_
    refine sc (fun _ _ _ f _ _ => px (or_move f.1)) ?_
    refine sc (fun _ _ _ f s _ => sg_t rfl rfl rfl f.1 (fun hg => or_move (s.1.trans e48_3))) ?_
    refine sc (fun _ _ _ f _ _ => px (or_and f.1 (fun hx => f.2.1.1 hx) rfl rfl)) ?_
    refine sc (fun _ _ _ f _ _ => px (or_move f.1)) ?_
    refine sc (fun _ _ _ f s _ => sg_t rfl rfl rfl f.1 (fun hg => or_move (s.1.trans e48_5))) ?_
    refine sc (fun _ _ _ f _ _ => sg_t rfl rfl rfl f.1 (fun hg => or_not (f.2.1.1 hg) rfl)) ?_
    refine sc (fun _ _ _ f _ _ => px (or_and f.1 (fun hx => f.2.1.1 hx) rfl rfl)) ?_
    refine sc (fun _ _ _ f _ _ => px (or_move f.1)) ?_
    refine sc (fun _ _ _ f s _ => sg_t rfl rfl rfl f.1 (fun hg => or_move (s.1.trans e48_6))) ?_
    refine sc (fun _ _ _ f _ _ => sg_t rfl rfl rfl f.1 (fun hg => or_eql (f.2.1.1 hg) rfl rfl)) ?_
    refine sc (fun _ _ _ f _ _ => px (or_and f.1 (fun hx => f.2.1.1 hx) rfl (osome hx52).symm)) ?_
    refine sc (fun _ _ _ f _ _ => px (or_move f.1)) ?_
    refine sc (fun _ _ _ f s _ => sg_t rfl rfl rfl f.1 (fun hg => or_move (s.1.trans e48_7))) ?_
    refine sc (fun _ _ _ f _ _ => px (or_and f.1 (fun hx => f.2.1.1 hx) rfl rfl)) ?_
    refine sc (fun _ _ _ f _ _ => px (or_move f.1)) ?_
    refine sc (fun _ _ _ f s _ => sg_t rfl rfl rfl f.1 (fun hg => or_move (s.1.trans e48_8))) ?_
    refine sc (fun _ _ _ f _ _ => sg_t rfl rfl rfl f.1 (fun hg => or_eql (f.2.1.1 hg) rfl rfl)) ?_
    refine sc (fun _ _ _ f _ _ => px (or_and f.1 (fun hx => f.2.1.1 hx) rfl (osome hx53).symm)) ?_
    refine sc (fun _ _ _ f _ _ => px (or_move f.1)) ?_
    refine sc (fun _ _ _ f s _ => sg_t rfl rfl rfl f.1 (fun hg => or_move (s.1.trans e48_9))) ?_
    refine sc (fun _ _ _ f _ _ => px (or_and f.1 (fun hx => f.2.1.1 hx) rfl rfl)) ?_
    refine sc (fun _ _ _ f _ _ => px (or_assign f.1)) ?_
    exact steps_nil
  intro own54 a54 w54 hd54 hz54 hk54 hf54 hE54
  obtain ⟨(e54_0 : a54.eval (.tmp 0) = .bool (x53 && r47.2)), -⟩ := hf54 [32] rfl
  have hX54 := es_ hX48 hE54
  refine fl_ret ?_
  obtain rfl := osome hs
  exact hret _ _ _ _ (.inl rfl) hd54 (results1_ rfl (RVal.tmp_ e54_0)) ⟨own54, rfl, hX54⟩
end Go.Proofs.Ythkmkmkcnljmaaa
