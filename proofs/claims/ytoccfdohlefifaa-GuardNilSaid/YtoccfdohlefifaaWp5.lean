import Derived.Test.YtoccfdohlefifaaWp4
import Derived.Test.YtoccfdohlefifaaSp5
namespace Go.Proofs.Ytoccfdohlefifaa
open Go.RowKit
set_option linter.unusedVariables false
set_option maxRecDepth 10000
theorem exact_On_w (w : World) (x1 : Int × Int) (b2 : Int × Int) (p3 : Int × Int) (r : Bool) (hs : exact_On x1 b2 p3 = some r) :
    Calls Try.prog 57 #[.agg #[.int .i64 x1.1, .int .i64 x1.2], .agg #[.int .i64 b2.1, .int .i64 b2.2], .agg #[.int .i64 p3.1, .int .i64 p3.2]] w fun e w' => ∃ own' : Own, e = .returned (.bool r) ∧ Evo [] (fun _ => 0) own' w w' := by
  refine fl_enter (n := 25) rfl rfl rfl (Nat.le_of_ble_eq_true rfl) ?_
  intro a0 Q hd0 hz0 harg hret
  have ha0 := harg 0 _ rfl
  have ha1 := harg 1 _ rfl
  have ha2 := harg 2 _ rfl
  clear harg
  have hE0 : Evo [] (fun _ => 0) (fun _ => 0) w w := Evo.refl _ _ _
  refine rg_plain_seq (n := 25) (rs := []) (own0 := (fun _ => 0)) (K := [])
      (bs := [0, 0, 0, 0])
      (ds := [⟨[], [0], [], Fct.blk 25 3 (fun g => .pointer (some ⟨g, 0, none⟩)) 25 #[.int .i64 x1.1, .int .i64 x1.2]⟩,
      ⟨[], [1], [], Fct.blk 27 4 (fun g => .pointer (some ⟨g, 0, none⟩)) 25 #[.int .i64 b2.1, .int .i64 b2.2]⟩,
      ⟨[], [2], [], Fct.blk 29 5 (fun g => .pointer (some ⟨g, 0, none⟩)) 25 #[.int .i64 p3.1, .int .i64 p3.2]⟩,
      ⟨[], [], [], Fct.val 6 (.bool false)⟩]) (by kernel_rfl) hz0 hd0 (fun _ h => nomatch h) ?_ ?_
  · refine sc (fun _ _ _ _ s _ => px (or_new [(0, .agg #[.int .i64 x1.1, .int .i64 x1.2])] rfl rfl ⟨(s.1.trans ha0), trivial⟩ (by kernel_rfl))) ?_
    refine sc (fun _ _ _ _ s _ => px (or_new [(1, .agg #[.int .i64 b2.1, .int .i64 b2.2])] rfl rfl ⟨(s.1.trans ha1), trivial⟩ (by kernel_rfl))) ?_
    refine sc (fun _ _ _ _ s _ => px (or_new [(2, .agg #[.int .i64 p3.1, .int .i64 p3.2])] rfl rfl ⟨(s.1.trans ha2), trivial⟩ (by kernel_rfl))) ?_
    refine sc (fun _ _ _ _ _ _ => px (or_assign rfl)) ?_
    exact steps_nil
  intro own30 a30 w30 hd30 hz30 hk30 hf30 hE30
  obtain ⟨⟨g24, (f_3 : a30.eval (.tmp 3) = .pointer (some ⟨g24, 0, none⟩)), (b_g24 : BlkO own30 25 w30 g24 25 #[.int .i64 x1.1, .int .i64 x1.2])⟩, ⟨g26, (f_4 : a30.eval (.tmp 4) = .pointer (some ⟨g26, 0, none⟩)), (b_g26 : BlkO own30 27 w30 g26 25 #[.int .i64 b2.1, .int .i64 b2.2])⟩, ⟨g28, (f_5 : a30.eval (.tmp 5) = .pointer (some ⟨g28, 0, none⟩)), (b_g28 : BlkO own30 29 w30 g28 25 #[.int .i64 p3.1, .int .i64 p3.2])⟩, -⟩ := hf30 [0, 1, 2] rfl
  have e30_3 := f_3
  have e30_4 := f_4
  have e30_5 := f_5
  have hX30 := Evo.step hE0 (fun _ => Nat.le_refl 0) hE30 rfl
  have b30_g24 := b_g24
  have b30_g26 := b_g26
  have b30_g28 := b_g28
  obtain ⟨r33, hr33, hs⟩ := obind hs
  obtain ⟨r34, hr34, hs⟩ := obind hs
  obtain ⟨r35, hr35, hs⟩ := obind hs
  refine rg_plain_seq (n := 25) (rs := []) (own0 := own30) (K := [])
      (bs := [0, 0, 0, 7, 15, 31, 63, 63, 63, 511, 1023, 2047, 4095, 8191, 8191, 8191, 65535, 131071, 262143])
      (ds := [⟨[], [3], [], Fct.val 7 (.agg #[.int .i64 x1.1, .int .i64 x1.2])⟩,
      ⟨[], [4], [], Fct.val 8 (.agg #[.int .i64 b2.1, .int .i64 b2.2])⟩,
      ⟨[], [5], [], Fct.val 9 (.agg #[.int .i64 p3.1, .int .i64 p3.2])⟩,
      ⟨[0, 1, 2], [], [], Fct.row 32 [] 10 25 R25 [x1, b2, p3]⟩,
      ⟨[3], [], [], Fct.val 11 (.bool r33)⟩,
      ⟨[4], [], [], Fct.val 12 (.bool r33)⟩,
      ⟨[5], [3], [], Fct.cond r33 (some 13) (Fct.val 13 (.agg #[.int .i64 x1.1, .int .i64 x1.2]))⟩,
      ⟨[5], [4], [], Fct.cond r33 (some 14) (Fct.val 14 (.agg #[.int .i64 b2.1, .int .i64 b2.2]))⟩,
      ⟨[5], [5], [], Fct.cond r33 (some 15) (Fct.val 15 (.agg #[.int .i64 p3.1, .int .i64 p3.2]))⟩,
      ⟨[5, 6, 7, 8], [], [], Fct.cond r33 (some 16) (Fct.val 16 (.int .i64 r34))⟩,
      ⟨[5, 9], [], [], Fct.cond r33 (some 17) (Fct.val 17 (.bool (decide (r34 = 0))))⟩,
      ⟨[5, 10], [], [], Fct.val 18 (.bool (r33 && (decide (r34 = 0))))⟩,
      ⟨[11], [], [], Fct.val 19 (.bool (r33 && (decide (r34 = 0))))⟩,
      ⟨[12], [3], [], Fct.cond (r33 && (decide (r34 = 0))) (some 20) (Fct.val 20 (.agg #[.int .i64 x1.1, .int .i64 x1.2]))⟩,
      ⟨[12], [4], [], Fct.cond (r33 && (decide (r34 = 0))) (some 21) (Fct.val 21 (.agg #[.int .i64 b2.1, .int .i64 b2.2]))⟩,
      ⟨[12], [5], [], Fct.cond (r33 && (decide (r34 = 0))) (some 22) (Fct.val 22 (.agg #[.int .i64 p3.1, .int .i64 p3.2]))⟩,
      ⟨[12, 13, 14, 15], [], [], Fct.cond (r33 && (decide (r34 = 0))) (some 23) (Fct.val 23 (.bool r35))⟩,
      ⟨[12, 16], [], [], Fct.val 24 (.bool ((r33 && (decide (r34 = 0))) && r35))⟩,
      ⟨[17], [], [], Fct.val 6 (.bool ((r33 && (decide (r34 = 0))) && r35))⟩]) (by kernel_rfl) hz30 hd30 (fun _ h => nomatch h) ?_ ?_
  · refine sc (fun _ _ _ _ s hE => px (or_load (l := [.int .i64 x1.1, .int .i64 x1.2]) ta25 (s.1.trans e30_3) (Blk.cellsFrom (BlkO.evo (by decide) hE b30_g24).2 0 rfl) rfl)) ?_
    refine sc (fun _ _ _ _ s hE => px (or_load (l := [.int .i64 b2.1, .int .i64 b2.2]) ta25 (s.1.trans e30_4) (Blk.cellsFrom (BlkO.evo (by decide) hE b30_g26).2 0 rfl) rfl)) ?_
    refine sc (fun _ _ _ _ s hE => px (or_load (l := [.int .i64 p3.1, .int .i64 p3.2]) ta25 (s.1.trans e30_5) (Blk.cellsFrom (BlkO.evo (by decide) hE b30_g28).2 0 rfl) rfl)) ?_
    refine sc (fun _ _ _ f _ _ => px (or_lit (lab := 32) (e := 25) (cs := #[.int .i64 x1.1, .int .i64 x1.2, .int .i64 b2.1, .int .i64 b2.2, .int .i64 p3.1, .int .i64 p3.2]) (F := E25) (or_new [(7, .agg #[.int .i64 x1.1, .int .i64 x1.2]), (8, .agg #[.int .i64 b2.1, .int .i64 b2.2]), (9, .agg #[.int .i64 p3.1, .int .i64 p3.2])] rfl rfl ⟨f.1, f.2.1, f.2.2.1, trivial⟩ (by kernel_rfl)) rfl rfl (show 3 ≤ maxLen by decide))) ?_
    refine sc (fun own a wx hf hsl hE => ?_) ?_
    · obtain ⟨⟨⟨A31, cA31⟩, (f_10 : a.eval (.tmp 10) = .slice A31 [x1, b2, p3].length cA31), (b_A31 : RwO own 32 [] wx 25 R25 A31 cA31 [x1, b2, p3])⟩, -⟩ := hf
      exact px (or_call cf32 (args1 f_10) (exact_Right_w _ [x1, b2, p3] A31 cA31 (RdO.zero (RwO.rd b_A31)) r33 hr33) post_val)
    refine sc (fun _ _ _ f _ _ => px (or_move f.1)) ?_
    refine sc (fun own a wx hf hsl hE => ?_) ?_
    · obtain ⟨(f_12 : a.eval (.tmp 12) = .bool r33), -⟩ := hf
      obtain ⟨s_3, -⟩ := hsl
      refine sg_t rfl rfl rfl f_12 (fun hg => ?_)
      exact or_load (l := [.int .i64 x1.1, .int .i64 x1.2]) ta25 (s_3.trans e30_3) (Blk.cellsFrom (BlkO.evo (by decide) hE b30_g24).2 0 rfl) rfl
    refine sc (fun own a wx hf hsl hE => ?_) ?_
    · obtain ⟨(f_12 : a.eval (.tmp 12) = .bool r33), -⟩ := hf
      obtain ⟨s_4, -⟩ := hsl
      refine sg_t rfl rfl rfl f_12 (fun hg => ?_)
      exact or_load (l := [.int .i64 b2.1, .int .i64 b2.2]) ta25 (s_4.trans e30_4) (Blk.cellsFrom (BlkO.evo (by decide) hE b30_g26).2 0 rfl) rfl
    refine sc (fun own a wx hf hsl hE => ?_) ?_
    · obtain ⟨(f_12 : a.eval (.tmp 12) = .bool r33), -⟩ := hf
      obtain ⟨s_5, -⟩ := hsl
      refine sg_t rfl rfl rfl f_12 (fun hg => ?_)
      exact or_load (l := [.int .i64 p3.1, .int .i64 p3.2]) ta25 (s_5.trans e30_5) (Blk.cellsFrom (BlkO.evo (by decide) hE b30_g28).2 0 rfl) rfl
    refine sc (fun own a wx hf hsl hE => ?_) ?_
    · obtain ⟨(f_12 : a.eval (.tmp 12) = .bool r33), c_13, c_14, c_15, -⟩ := hf
      refine sg_t rfl rfl rfl f_12 (fun hg => ?_)
      have f_13 : a.eval (.tmp 13) = .agg #[.int .i64 x1.1, .int .i64 x1.2] := c_13.1 hg
      have f_14 : a.eval (.tmp 14) = .agg #[.int .i64 b2.1, .int .i64 b2.2] := c_14.1 hg
      have f_15 : a.eval (.tmp 15) = .agg #[.int .i64 p3.1, .int .i64 p3.2] := c_15.1 hg
      exact or_call cf46 (args3 f_13 f_14 f_15) (exact_Turn_w _ x1 b2 p3  r34 (gd_t hr34 hg)) post_val
    refine sc (fun own a wx hf hsl hE => ?_) ?_
    · obtain ⟨(f_12 : a.eval (.tmp 12) = .bool r33), c_16, -⟩ := hf
      refine sg_t rfl rfl rfl f_12 (fun hg => ?_)
      have f_16 : a.eval (.tmp 16) = .int .i64 r34 := c_16.1 hg
      exact or_eql f_16 rfl rfl
    refine sc (fun own a wx hf hsl hE => ?_) ?_
    · obtain ⟨(f_12 : a.eval (.tmp 12) = .bool r33), c_17, -⟩ := hf
      exact px (or_and f_12 (fun hx => c_17.1 hx) rfl rfl)
    refine sc (fun _ _ _ f _ _ => px (or_move f.1)) ?_
    refine sc (fun own a wx hf hsl hE => ?_) ?_
    · obtain ⟨(f_19 : a.eval (.tmp 19) = .bool (r33 && (decide (r34 = 0)))), -⟩ := hf
      obtain ⟨s_3, -⟩ := hsl
      refine sg_t rfl rfl rfl f_19 (fun hg => ?_)
      exact or_load (l := [.int .i64 x1.1, .int .i64 x1.2]) ta25 (s_3.trans e30_3) (Blk.cellsFrom (BlkO.evo (by decide) hE b30_g24).2 0 rfl) rfl
    refine sc (fun own a wx hf hsl hE => ?_) ?_
    · obtain ⟨(f_19 : a.eval (.tmp 19) = .bool (r33 && (decide (r34 = 0)))), -⟩ := hf
      obtain ⟨s_4, -⟩ := hsl
      refine sg_t rfl rfl rfl f_19 (fun hg => ?_)
      exact or_load (l := [.int .i64 b2.1, .int .i64 b2.2]) ta25 (s_4.trans e30_4) (Blk.cellsFrom (BlkO.evo (by decide) hE b30_g26).2 0 rfl) rfl
    refine sc (fun own a wx hf hsl hE => ?_) ?_
    · obtain ⟨(f_19 : a.eval (.tmp 19) = .bool (r33 && (decide (r34 = 0)))), -⟩ := hf
      obtain ⟨s_5, -⟩ := hsl
      refine sg_t rfl rfl rfl f_19 (fun hg => ?_)
      exact or_load (l := [.int .i64 p3.1, .int .i64 p3.2]) ta25 (s_5.trans e30_5) (Blk.cellsFrom (BlkO.evo (by decide) hE b30_g28).2 0 rfl) rfl
    refine sc (fun own a wx hf hsl hE => ?_) ?_
    · obtain ⟨(f_19 : a.eval (.tmp 19) = .bool (r33 && (decide (r34 = 0)))), c_20, c_21, c_22, -⟩ := hf
      refine sg_t rfl rfl rfl f_19 (fun hg => ?_)
      have f_20 : a.eval (.tmp 20) = .agg #[.int .i64 x1.1, .int .i64 x1.2] := c_20.1 hg
      have f_21 : a.eval (.tmp 21) = .agg #[.int .i64 b2.1, .int .i64 b2.2] := c_21.1 hg
      have f_22 : a.eval (.tmp 22) = .agg #[.int .i64 p3.1, .int .i64 p3.2] := c_22.1 hg
      exact or_call cf69 (args3 f_20 f_21 f_22) (exact_between_w _ x1 b2 p3  r35 (gd_t hr35 hg)) post_val
    refine sc (fun own a wx hf hsl hE => ?_) ?_
    · obtain ⟨(f_19 : a.eval (.tmp 19) = .bool (r33 && (decide (r34 = 0)))), c_23, -⟩ := hf
      exact px (or_and f_19 (fun hx => c_23.1 hx) rfl rfl)
    refine sc (fun _ _ _ f _ _ => px (or_assign f.1)) ?_
    exact steps_nil
  intro own36 a36 w36 hd36 hz36 hk36 hf36 hE36
  obtain ⟨(f_6 : a36.eval (.tmp 6) = .bool ((r33 && (decide (r34 = 0))) && r35)), -⟩ := hf36 [18] rfl
  have e36_6 := f_6
  have hX36 := Evo.step hX30 (fun _ => Nat.le_refl 0) hE36 rfl
  refine fl_ret ?_
  obtain rfl := osome hs
  exact hret _ _ _ _ (.inl rfl) hd36 (results1_ rfl (RVal.tmp_ e36_6)) ⟨own36, rfl, hX36⟩
theorem exact_InTriangle_1_w (w : World) (x1 : Int × Int) (y2 : Int × Int) (f2 : Int × Int) (gf2 : Nat) (tf2 : TypeId) (f3 : Int) (gf3 : Nat) (tf3 : TypeId) (hgf2 : BlkO (fun _ => 0) 0 w gf2 tf2 #[.int .i64 f2.1, .int .i64 f2.2]) (hgf3 : BlkO (fun _ => 0) 0 w gf3 tf3 #[.int .i64 f3]) (r : Bool) (hs : exact_InTriangle_1 x1 y2 f2 f3 = some r) :
    Calls Try.prog 58 #[.agg #[.int .i64 x1.1, .int .i64 x1.2], .agg #[.int .i64 y2.1, .int .i64 y2.2], .pointer (some ⟨gf2, 0, none⟩), .pointer (some ⟨gf3, 0, none⟩)] w fun e w' => ∃ own' : Own, e = .returned (.bool r) ∧ Evo [] (fun _ => 0) own' w w' := by
  refine fl_enter (n := 14) rfl rfl rfl (Nat.le_of_ble_eq_true rfl) ?_
  intro a0 Q hd0 hz0 harg hret
  have ha0 := harg 0 _ rfl
  have ha1 := harg 1 _ rfl
  have ha2 := harg 2 _ rfl
  have ha3 := harg 3 _ rfl
  clear harg
  have hE0 : Evo [] (fun _ => 0) (fun _ => 0) w w := Evo.refl _ _ _
  refine rg_plain_seq (n := 14) (rs := []) (own0 := (fun _ => 0)) (K := [])
      (bs := [0, 0, 0])
      (ds := [⟨[], [0], [], Fct.blk 19 4 (fun g => .pointer (some ⟨g, 0, none⟩)) 25 #[.int .i64 x1.1, .int .i64 x1.2]⟩,
      ⟨[], [1], [], Fct.blk 21 5 (fun g => .pointer (some ⟨g, 0, none⟩)) 25 #[.int .i64 y2.1, .int .i64 y2.2]⟩,
      ⟨[], [], [], Fct.val 6 (.bool false)⟩]) (by kernel_rfl) hz0 hd0 (fun _ h => nomatch h) ?_ ?_
  · refine sc (fun _ _ _ _ s _ => px (or_new [(0, .agg #[.int .i64 x1.1, .int .i64 x1.2])] rfl rfl ⟨(s.1.trans ha0), trivial⟩ (by kernel_rfl))) ?_
    refine sc (fun _ _ _ _ s _ => px (or_new [(1, .agg #[.int .i64 y2.1, .int .i64 y2.2])] rfl rfl ⟨(s.1.trans ha1), trivial⟩ (by kernel_rfl))) ?_
    refine sc (fun _ _ _ _ _ _ => px (or_assign rfl)) ?_
    exact steps_nil
  intro own22 a22 w22 hd22 hz22 hk22 hf22 hE22
  have e22_2 := (hk22 2 rfl).trans ha2
  have e22_3 := (hk22 3 rfl).trans ha3
  obtain ⟨⟨g18, (f_4 : a22.eval (.tmp 4) = .pointer (some ⟨g18, 0, none⟩)), (b_g18 : BlkO own22 19 w22 g18 25 #[.int .i64 x1.1, .int .i64 x1.2])⟩, ⟨g20, (f_5 : a22.eval (.tmp 5) = .pointer (some ⟨g20, 0, none⟩)), (b_g20 : BlkO own22 21 w22 g20 25 #[.int .i64 y2.1, .int .i64 y2.2])⟩, -⟩ := hf22 [0, 1] rfl
  have e22_4 := f_4
  have e22_5 := f_5
  have hX22 := Evo.step hE0 (fun _ => Nat.le_refl 0) hE22 rfl
  have b22_gf2 := BlkO.evo (by decide) hE22 hgf2
  have b22_gf3 := BlkO.evo (by decide) hE22 hgf3
  have b22_g18 := b_g18
  have b22_g20 := b_g20
  obtain ⟨r23, hr23, hs⟩ := obind hs
  refine rg_draw_seq g_mixed (n := 14) (rs := []) (own0 := own22) (K := [])
      (bs := [0, 0, 0, 7, 0, 16, 63, 127])
      (ds := [⟨[], [4], [], Fct.val 7 (.agg #[.int .i64 x1.1, .int .i64 x1.2])⟩,
      ⟨[], [5], [], Fct.val 8 (.agg #[.int .i64 y2.1, .int .i64 y2.2])⟩,
      ⟨[], [2], [], Fct.val 9 (.agg #[.int .i64 f2.1, .int .i64 f2.2])⟩,
      ⟨[0, 1, 2], [], [], Fct.val 10 (.int .i64 r23)⟩,
      ⟨[], [3], [], Fct.val 11 (.int .i64 f3)⟩,
      ⟨[4], [], [], Fct.val 12 (.int .i64 (ng f3))⟩,
      ⟨[3, 5], [], [], Fct.val 13 (.bool (!decide (r23 = (ng f3))))⟩,
      ⟨[6], [], [], Fct.val 6 (.bool (!decide (r23 = (ng f3))))⟩]) (by kernel_rfl) hz22 hd22 (fun _ h => nomatch h) ?_ ?_
  · refine sc (fun _ _ _ _ s hE => px (or_load (l := [.int .i64 x1.1, .int .i64 x1.2]) ta25 (s.1.trans e22_4) (Blk.cellsFrom (BlkO.evo (by decide) hE b22_g18).2 0 rfl) rfl)) ?_
    refine sc (fun _ _ _ _ s hE => px (or_load (l := [.int .i64 y2.1, .int .i64 y2.2]) ta25 (s.1.trans e22_5) (Blk.cellsFrom (BlkO.evo (by decide) hE b22_g20).2 0 rfl) rfl)) ?_
    refine sc (fun _ _ _ _ s hE => px (or_load (l := [.int .i64 f2.1, .int .i64 f2.2]) ta25 (s.1.trans e22_2) (Blk.cellsFrom (BlkO.evo (by decide) hE b22_gf2).2 0 rfl) rfl)) ?_
    refine sc (fun _ _ _ f _ _ => px (or_call cf46 (args3 f.1 f.2.1 f.2.2.1) (exact_Turn_w _ x1 y2 f2  r23 hr23) post_val)) ?_
    refine sc (fun _ _ _ _ s hE => px (or_load1 to3 (s.1.trans e22_3) (Blk.at_ (BlkO.evo (by decide) hE b22_gf3).2 0 rfl))) ?_
    refine sc (fun _ _ _ f _ _ => px (or_neg f.1 rfl)) ?_
    refine sc (fun _ _ _ f _ _ => px (or_neq f.1 f.2.1 rfl)) ?_
    refine sc (fun _ _ _ f _ _ => px (or_assign f.1)) ?_
    exact steps_nil
  intro own24 a24 w24 hd24 hz24 hk24 hf24 hE24
  obtain ⟨(f_6 : a24.eval (.tmp 6) = .bool (!decide (r23 = (ng f3)))), -⟩ := hf24 [7] rfl
  have e24_6 := f_6
  have hX24 := Evo.step hX22 (fun _ => Nat.le_refl 0) hE24 rfl
  refine fl_ret ?_
  obtain rfl := osome hs
  exact hret _ _ _ _ (.inl rfl) hd24 (results1_ rfl (RVal.tmp_ e24_6)) ⟨own24, rfl, hX24⟩
theorem exact_InTriangle_w (w : World) (x1 : Int × Int) (b2 : Int × Int) (c3 : Int × Int) (p4 : Int × Int) (r : Bool) (hs : exact_InTriangle x1 b2 c3 p4 = some r) :
    Calls Try.prog 36 #[.agg #[.int .i64 x1.1, .int .i64 x1.2], .agg #[.int .i64 b2.1, .int .i64 b2.2], .agg #[.int .i64 c3.1, .int .i64 c3.2], .agg #[.int .i64 p4.1, .int .i64 p4.2]] w fun e w' => ∃ own' : Own, e = .returned (.bool r) ∧ Evo [] (fun _ => 0) own' w w' := by
  refine fl_enter (n := 65) rfl rfl rfl (Nat.le_of_ble_eq_true rfl) ?_
  intro a0 Q hd0 hz0 harg hret
  have ha0 := harg 0 _ rfl
  have ha1 := harg 1 _ rfl
  have ha2 := harg 2 _ rfl
  have ha3 := harg 3 _ rfl
  clear harg
  have hE0 : Evo [] (fun _ => 0) (fun _ => 0) w w := Evo.refl _ _ _
  refine rg_plain_seq (n := 65) (rs := []) (own0 := (fun _ => 0)) (K := [])
      (bs := [0, 0, 0, 0, 0])
      (ds := [⟨[], [0], [], Fct.blk 47 4 (fun g => .pointer (some ⟨g, 0, none⟩)) 25 #[.int .i64 x1.1, .int .i64 x1.2]⟩,
      ⟨[], [1], [], Fct.blk 49 5 (fun g => .pointer (some ⟨g, 0, none⟩)) 25 #[.int .i64 b2.1, .int .i64 b2.2]⟩,
      ⟨[], [2], [], Fct.blk 51 6 (fun g => .pointer (some ⟨g, 0, none⟩)) 25 #[.int .i64 c3.1, .int .i64 c3.2]⟩,
      ⟨[], [3], [], Fct.blk 53 7 (fun g => .pointer (some ⟨g, 0, none⟩)) 25 #[.int .i64 p4.1, .int .i64 p4.2]⟩,
      ⟨[], [], [], Fct.val 8 (.bool false)⟩]) (by kernel_rfl) hz0 hd0 (fun _ h => nomatch h) ?_ ?_
  · refine sc (fun _ _ _ _ s _ => px (or_new [(0, .agg #[.int .i64 x1.1, .int .i64 x1.2])] rfl rfl ⟨(s.1.trans ha0), trivial⟩ (by kernel_rfl))) ?_
    refine sc (fun _ _ _ _ s _ => px (or_new [(1, .agg #[.int .i64 b2.1, .int .i64 b2.2])] rfl rfl ⟨(s.1.trans ha1), trivial⟩ (by kernel_rfl))) ?_
    refine sc (fun _ _ _ _ s _ => px (or_new [(2, .agg #[.int .i64 c3.1, .int .i64 c3.2])] rfl rfl ⟨(s.1.trans ha2), trivial⟩ (by kernel_rfl))) ?_
    refine sc (fun _ _ _ _ s _ => px (or_new [(3, .agg #[.int .i64 p4.1, .int .i64 p4.2])] rfl rfl ⟨(s.1.trans ha3), trivial⟩ (by kernel_rfl))) ?_
    refine sc (fun _ _ _ _ _ _ => px (or_assign rfl)) ?_
    exact steps_nil
  intro own54 a54 w54 hd54 hz54 hk54 hf54 hE54
  obtain ⟨⟨g46, (f_4 : a54.eval (.tmp 4) = .pointer (some ⟨g46, 0, none⟩)), (b_g46 : BlkO own54 47 w54 g46 25 #[.int .i64 x1.1, .int .i64 x1.2])⟩, ⟨g48, (f_5 : a54.eval (.tmp 5) = .pointer (some ⟨g48, 0, none⟩)), (b_g48 : BlkO own54 49 w54 g48 25 #[.int .i64 b2.1, .int .i64 b2.2])⟩, ⟨g50, (f_6 : a54.eval (.tmp 6) = .pointer (some ⟨g50, 0, none⟩)), (b_g50 : BlkO own54 51 w54 g50 25 #[.int .i64 c3.1, .int .i64 c3.2])⟩, ⟨g52, (f_7 : a54.eval (.tmp 7) = .pointer (some ⟨g52, 0, none⟩)), (b_g52 : BlkO own54 53 w54 g52 25 #[.int .i64 p4.1, .int .i64 p4.2])⟩, -⟩ := hf54 [0, 1, 2, 3] rfl
  have e54_4 := f_4
  have e54_5 := f_5
  have e54_6 := f_6
  have e54_7 := f_7
  have hX54 := Evo.step hE0 (fun _ => Nat.le_refl 0) hE54 rfl
  have b54_g46 := b_g46
  have b54_g48 := b_g48
  have b54_g50 := b_g50
  have b54_g52 := b_g52
  refine fl_seq (fun Q55 hn55 hp55 => ?_)
  obtain ⟨r58, hr58, hs⟩ := obind hs
  refine rg_plain_seq (n := 65) (rs := []) (own0 := own54) (K := [])
      (bs := [0, 0, 0, 0, 15, 31, 63])
      (ds := [⟨[], [4], [], Fct.val 11 (.agg #[.int .i64 x1.1, .int .i64 x1.2])⟩,
      ⟨[], [5], [], Fct.val 12 (.agg #[.int .i64 b2.1, .int .i64 b2.2])⟩,
      ⟨[], [6], [], Fct.val 13 (.agg #[.int .i64 c3.1, .int .i64 c3.2])⟩,
      ⟨[], [7], [], Fct.val 14 (.agg #[.int .i64 p4.1, .int .i64 p4.2])⟩,
      ⟨[0, 1, 2, 3], [], [], Fct.row 57 [] 15 25 R25 [x1, b2, c3, p4]⟩,
      ⟨[4], [], [], Fct.val 16 (.bool r58)⟩,
      ⟨[5], [], [], Fct.val 17 (.bool (!r58))⟩]) (by kernel_rfl) hz54 hd54 (fun _ h => nomatch h) ?_ ?_
  · refine sc (fun _ _ _ _ s hE => px (or_load (l := [.int .i64 x1.1, .int .i64 x1.2]) ta25 (s.1.trans e54_4) (Blk.cellsFrom (BlkO.evo (by decide) hE b54_g46).2 0 rfl) rfl)) ?_
    refine sc (fun _ _ _ _ s hE => px (or_load (l := [.int .i64 b2.1, .int .i64 b2.2]) ta25 (s.1.trans e54_5) (Blk.cellsFrom (BlkO.evo (by decide) hE b54_g48).2 0 rfl) rfl)) ?_
    refine sc (fun _ _ _ _ s hE => px (or_load (l := [.int .i64 c3.1, .int .i64 c3.2]) ta25 (s.1.trans e54_6) (Blk.cellsFrom (BlkO.evo (by decide) hE b54_g50).2 0 rfl) rfl)) ?_
    refine sc (fun _ _ _ _ s hE => px (or_load (l := [.int .i64 p4.1, .int .i64 p4.2]) ta25 (s.1.trans e54_7) (Blk.cellsFrom (BlkO.evo (by decide) hE b54_g52).2 0 rfl) rfl)) ?_
    refine sc (fun _ _ _ f _ _ => px (or_lit (lab := 57) (e := 25) (cs := #[.int .i64 x1.1, .int .i64 x1.2, .int .i64 b2.1, .int .i64 b2.2, .int .i64 c3.1, .int .i64 c3.2, .int .i64 p4.1, .int .i64 p4.2]) (F := E25) (or_new [(11, .agg #[.int .i64 x1.1, .int .i64 x1.2]), (12, .agg #[.int .i64 b2.1, .int .i64 b2.2]), (13, .agg #[.int .i64 c3.1, .int .i64 c3.2]), (14, .agg #[.int .i64 p4.1, .int .i64 p4.2])] rfl rfl ⟨f.1, f.2.1, f.2.2.1, f.2.2.2.1, trivial⟩ (by kernel_rfl)) rfl rfl (show 4 ≤ maxLen by decide))) ?_
    refine sc (fun own a wx hf hsl hE => ?_) ?_
    · obtain ⟨⟨⟨A56, cA56⟩, (f_15 : a.eval (.tmp 15) = .slice A56 [x1, b2, c3, p4].length cA56), (b_A56 : RwO own 57 [] wx 25 R25 A56 cA56 [x1, b2, c3, p4])⟩, -⟩ := hf
      exact px (or_call cf32 (args1 f_15) (exact_Right_w _ [x1, b2, c3, p4] A56 cA56 (RdO.zero (RwO.rd b_A56)) r58 hr58) post_val)
    refine sc (fun _ _ _ f _ _ => px (or_not f.1 rfl)) ?_
    exact steps_nil
  intro own59 a59 w59 hd59 hz59 hk59 hf59 hE59
  have e59_4 := (hk59 4 rfl).trans e54_4
  have e59_5 := (hk59 5 rfl).trans e54_5
  have e59_6 := (hk59 6 rfl).trans e54_6
  have e59_7 := (hk59 7 rfl).trans e54_7
  obtain ⟨(f_17 : a59.eval (.tmp 17) = .bool (!r58)), -⟩ := hf59 [6] rfl
  have e59_17 := f_17
  have hX59 := Evo.step hX54 (fun _ => Nat.le_refl 0) hE59 rfl
  have b59_g46 := BlkO.evo (by decide) hE59 b54_g46
  have b59_g48 := BlkO.evo (by decide) hE59 b54_g48
  have b59_g50 := BlkO.evo (by decide) hE59 b54_g50
  have b59_g52 := BlkO.evo (by decide) hE59 b54_g52
  refine fl_cond e59_17 hs (fun c60 hs => ?_) (fun c60 hs => ?_)
  · refine rg_plain_seq (n := 65) (rs := []) (own0 := own59) (K := [])
        (bs := [0])
        (ds := [⟨[], [], [], Fct.val 8 (.bool false)⟩]) (by kernel_rfl) hz59 hd59 (fun _ h => nomatch h) ?_ ?_
    · refine sc (fun _ _ _ _ _ _ => px (or_assign rfl)) ?_
      exact steps_nil
    intro own61 a61 w61 hd61 hz61 hk61 hf61 hE61
    obtain ⟨(f_8 : a61.eval (.tmp 8) = .bool false), -⟩ := hf61 [0] rfl
    have e61_8 := f_8
    have hX61 := Evo.step hX59 (fun _ => Nat.le_refl 0) hE61 rfl
    refine fl_ret ?_
    refine hp55 _ _ _ rfl ?_
    obtain rfl := osome hs
    exact hret _ _ _ _ (.inl rfl) hd61 (results1_ rfl (RVal.tmp_ e61_8)) ⟨own61, rfl, hX61⟩
  refine fl_skip ?_
  refine hn55 _ _ ?_
  refine fl_seq (fun Q62 hn62 hp62 => ?_)
  obtain ⟨r63, hr63, hs⟩ := obind hs
  refine rg_plain_seq (n := 65) (rs := []) (own0 := own59) (K := [])
      (bs := [0, 0, 0, 7, 15])
      (ds := [⟨[], [4], [], Fct.val 18 (.agg #[.int .i64 x1.1, .int .i64 x1.2])⟩,
      ⟨[], [5], [], Fct.val 19 (.agg #[.int .i64 b2.1, .int .i64 b2.2])⟩,
      ⟨[], [6], [], Fct.val 20 (.agg #[.int .i64 c3.1, .int .i64 c3.2])⟩,
      ⟨[0, 1, 2], [], [], Fct.val 21 (.int .i64 r63)⟩,
      ⟨[3], [], [], Fct.val 22 (.bool (decide (r63 = 0)))⟩]) (by kernel_rfl) hz59 hd59 (fun _ h => nomatch h) ?_ ?_
  · refine sc (fun _ _ _ _ s hE => px (or_load (l := [.int .i64 x1.1, .int .i64 x1.2]) ta25 (s.1.trans e59_4) (Blk.cellsFrom (BlkO.evo (by decide) hE b59_g46).2 0 rfl) rfl)) ?_
    refine sc (fun _ _ _ _ s hE => px (or_load (l := [.int .i64 b2.1, .int .i64 b2.2]) ta25 (s.1.trans e59_5) (Blk.cellsFrom (BlkO.evo (by decide) hE b59_g48).2 0 rfl) rfl)) ?_
    refine sc (fun _ _ _ _ s hE => px (or_load (l := [.int .i64 c3.1, .int .i64 c3.2]) ta25 (s.1.trans e59_6) (Blk.cellsFrom (BlkO.evo (by decide) hE b59_g50).2 0 rfl) rfl)) ?_
    refine sc (fun _ _ _ f _ _ => px (or_call cf46 (args3 f.1 f.2.1 f.2.2.1) (exact_Turn_w _ x1 b2 c3  r63 hr63) post_val)) ?_
    refine sc (fun _ _ _ f _ _ => px (or_eql f.1 rfl rfl)) ?_
    exact steps_nil
  intro own64 a64 w64 hd64 hz64 hk64 hf64 hE64
  have e64_4 := (hk64 4 rfl).trans e59_4
  have e64_5 := (hk64 5 rfl).trans e59_5
  have e64_6 := (hk64 6 rfl).trans e59_6
  have e64_7 := (hk64 7 rfl).trans e59_7
  obtain ⟨(f_22 : a64.eval (.tmp 22) = .bool (decide (r63 = 0))), -⟩ := hf64 [4] rfl
  have e64_22 := f_22
  have hX64 := Evo.step hX59 (fun _ => Nat.le_refl 0) hE64 rfl
  have b64_g46 := BlkO.evo (by decide) hE64 b59_g46
  have b64_g48 := BlkO.evo (by decide) hE64 b59_g48
  have b64_g50 := BlkO.evo (by decide) hE64 b59_g50
  have b64_g52 := BlkO.evo (by decide) hE64 b59_g52
  refine fl_cond e64_22 hs (fun c65 hs => ?_) (fun c65 hs => ?_)
  · obtain ⟨r66, hr66, hs⟩ := obind hs
    obtain ⟨r67, hr67, hs⟩ := obind hs
    obtain ⟨r68, hr68, hs⟩ := obind hs
    refine rg_plain_seq (n := 65) (rs := []) (own0 := own64) (K := [])
        (bs := [0, 0, 0, 7, 15, 31, 31, 31, 255, 511, 1023, 2047, 2047, 2047, 16383, 32767, 65535])
        (ds := [⟨[], [4], [], Fct.val 23 (.agg #[.int .i64 x1.1, .int .i64 x1.2])⟩,
        ⟨[], [5], [], Fct.val 24 (.agg #[.int .i64 b2.1, .int .i64 b2.2])⟩,
        ⟨[], [7], [], Fct.val 25 (.agg #[.int .i64 p4.1, .int .i64 p4.2])⟩,
        ⟨[0, 1, 2], [], [], Fct.val 26 (.bool r66)⟩,
        ⟨[3], [], [], Fct.val 27 (.bool r66)⟩,
        ⟨[4], [5], [], Fct.cond (!r66) (some 28) (Fct.val 28 (.agg #[.int .i64 b2.1, .int .i64 b2.2]))⟩,
        ⟨[4], [6], [], Fct.cond (!r66) (some 29) (Fct.val 29 (.agg #[.int .i64 c3.1, .int .i64 c3.2]))⟩,
        ⟨[4], [7], [], Fct.cond (!r66) (some 30) (Fct.val 30 (.agg #[.int .i64 p4.1, .int .i64 p4.2]))⟩,
        ⟨[4, 5, 6, 7], [], [], Fct.cond (!r66) (some 31) (Fct.val 31 (.bool r67))⟩,
        ⟨[4, 8], [], [], Fct.val 32 (.bool (r66 || r67))⟩,
        ⟨[9], [], [], Fct.val 33 (.bool (r66 || r67))⟩,
        ⟨[10], [6], [], Fct.cond (!(r66 || r67)) (some 34) (Fct.val 34 (.agg #[.int .i64 c3.1, .int .i64 c3.2]))⟩,
        ⟨[10], [4], [], Fct.cond (!(r66 || r67)) (some 35) (Fct.val 35 (.agg #[.int .i64 x1.1, .int .i64 x1.2]))⟩,
        ⟨[10], [7], [], Fct.cond (!(r66 || r67)) (some 36) (Fct.val 36 (.agg #[.int .i64 p4.1, .int .i64 p4.2]))⟩,
        ⟨[10, 11, 12, 13], [], [], Fct.cond (!(r66 || r67)) (some 37) (Fct.val 37 (.bool r68))⟩,
        ⟨[10, 14], [], [], Fct.val 38 (.bool ((r66 || r67) || r68))⟩,
        ⟨[15], [], [], Fct.val 8 (.bool ((r66 || r67) || r68))⟩]) (by kernel_rfl) hz64 hd64 (fun _ h => nomatch h) ?_ ?_
    · refine sc (fun _ _ _ _ s hE => px (or_load (l := [.int .i64 x1.1, .int .i64 x1.2]) ta25 (s.1.trans e64_4) (Blk.cellsFrom (BlkO.evo (by decide) hE b64_g46).2 0 rfl) rfl)) ?_
      refine sc (fun _ _ _ _ s hE => px (or_load (l := [.int .i64 b2.1, .int .i64 b2.2]) ta25 (s.1.trans e64_5) (Blk.cellsFrom (BlkO.evo (by decide) hE b64_g48).2 0 rfl) rfl)) ?_
      refine sc (fun _ _ _ _ s hE => px (or_load (l := [.int .i64 p4.1, .int .i64 p4.2]) ta25 (s.1.trans e64_7) (Blk.cellsFrom (BlkO.evo (by decide) hE b64_g52).2 0 rfl) rfl)) ?_
      refine sc (fun _ _ _ f _ _ => px (or_call cf57 (args3 f.1 f.2.1 f.2.2.1) (exact_On_w _ x1 b2 p4  r66 hr66) post_val)) ?_
      refine sc (fun _ _ _ f _ _ => px (or_move f.1)) ?_
      refine sc (fun own a wx hf hsl hE => ?_) ?_
      · obtain ⟨(f_27 : a.eval (.tmp 27) = .bool r66), -⟩ := hf
        obtain ⟨s_5, -⟩ := hsl
        refine sg_f rfl rfl rfl f_27 (fun hg => ?_)
        exact or_load (l := [.int .i64 b2.1, .int .i64 b2.2]) ta25 (s_5.trans e64_5) (Blk.cellsFrom (BlkO.evo (by decide) hE b64_g48).2 0 rfl) rfl
      refine sc (fun own a wx hf hsl hE => ?_) ?_
      · obtain ⟨(f_27 : a.eval (.tmp 27) = .bool r66), -⟩ := hf
        obtain ⟨s_6, -⟩ := hsl
        refine sg_f rfl rfl rfl f_27 (fun hg => ?_)
        exact or_load (l := [.int .i64 c3.1, .int .i64 c3.2]) ta25 (s_6.trans e64_6) (Blk.cellsFrom (BlkO.evo (by decide) hE b64_g50).2 0 rfl) rfl
      refine sc (fun own a wx hf hsl hE => ?_) ?_
      · obtain ⟨(f_27 : a.eval (.tmp 27) = .bool r66), -⟩ := hf
        obtain ⟨s_7, -⟩ := hsl
        refine sg_f rfl rfl rfl f_27 (fun hg => ?_)
        exact or_load (l := [.int .i64 p4.1, .int .i64 p4.2]) ta25 (s_7.trans e64_7) (Blk.cellsFrom (BlkO.evo (by decide) hE b64_g52).2 0 rfl) rfl
      refine sc (fun own a wx hf hsl hE => ?_) ?_
      · obtain ⟨(f_27 : a.eval (.tmp 27) = .bool r66), c_28, c_29, c_30, -⟩ := hf
        refine sg_f rfl rfl rfl f_27 (fun hg => ?_)
        have f_28 : a.eval (.tmp 28) = .agg #[.int .i64 b2.1, .int .i64 b2.2] := c_28.1 hg
        have f_29 : a.eval (.tmp 29) = .agg #[.int .i64 c3.1, .int .i64 c3.2] := c_29.1 hg
        have f_30 : a.eval (.tmp 30) = .agg #[.int .i64 p4.1, .int .i64 p4.2] := c_30.1 hg
        exact or_call cf57 (args3 f_28 f_29 f_30) (exact_On_w _ b2 c3 p4  r67 (gd_t hr67 hg)) post_val
      refine sc (fun own a wx hf hsl hE => ?_) ?_
      · obtain ⟨(f_27 : a.eval (.tmp 27) = .bool r66), c_31, -⟩ := hf
        exact px (or_or f_27 rfl (fun hx => c_31.1 hx) rfl)
      refine sc (fun _ _ _ f _ _ => px (or_move f.1)) ?_
      refine sc (fun own a wx hf hsl hE => ?_) ?_
      · obtain ⟨(f_33 : a.eval (.tmp 33) = .bool (r66 || r67)), -⟩ := hf
        obtain ⟨s_6, -⟩ := hsl
        refine sg_f rfl rfl rfl f_33 (fun hg => ?_)
        exact or_load (l := [.int .i64 c3.1, .int .i64 c3.2]) ta25 (s_6.trans e64_6) (Blk.cellsFrom (BlkO.evo (by decide) hE b64_g50).2 0 rfl) rfl
      refine sc (fun own a wx hf hsl hE => ?_) ?_
      · obtain ⟨(f_33 : a.eval (.tmp 33) = .bool (r66 || r67)), -⟩ := hf
        obtain ⟨s_4, -⟩ := hsl
        refine sg_f rfl rfl rfl f_33 (fun hg => ?_)
        exact or_load (l := [.int .i64 x1.1, .int .i64 x1.2]) ta25 (s_4.trans e64_4) (Blk.cellsFrom (BlkO.evo (by decide) hE b64_g46).2 0 rfl) rfl
      refine sc (fun own a wx hf hsl hE => ?_) ?_
      · obtain ⟨(f_33 : a.eval (.tmp 33) = .bool (r66 || r67)), -⟩ := hf
        obtain ⟨s_7, -⟩ := hsl
        refine sg_f rfl rfl rfl f_33 (fun hg => ?_)
        exact or_load (l := [.int .i64 p4.1, .int .i64 p4.2]) ta25 (s_7.trans e64_7) (Blk.cellsFrom (BlkO.evo (by decide) hE b64_g52).2 0 rfl) rfl
      refine sc (fun own a wx hf hsl hE => ?_) ?_
      · obtain ⟨(f_33 : a.eval (.tmp 33) = .bool (r66 || r67)), c_34, c_35, c_36, -⟩ := hf
        refine sg_f rfl rfl rfl f_33 (fun hg => ?_)
        have f_34 : a.eval (.tmp 34) = .agg #[.int .i64 c3.1, .int .i64 c3.2] := c_34.1 hg
        have f_35 : a.eval (.tmp 35) = .agg #[.int .i64 x1.1, .int .i64 x1.2] := c_35.1 hg
        have f_36 : a.eval (.tmp 36) = .agg #[.int .i64 p4.1, .int .i64 p4.2] := c_36.1 hg
        exact or_call cf57 (args3 f_34 f_35 f_36) (exact_On_w _ c3 x1 p4  r68 (gd_t hr68 hg)) post_val
      refine sc (fun own a wx hf hsl hE => ?_) ?_
      · obtain ⟨(f_33 : a.eval (.tmp 33) = .bool (r66 || r67)), c_37, -⟩ := hf
        exact px (or_or f_33 rfl (fun hx => c_37.1 hx) rfl)
      refine sc (fun _ _ _ f _ _ => px (or_assign f.1)) ?_
      exact steps_nil
    intro own69 a69 w69 hd69 hz69 hk69 hf69 hE69
    obtain ⟨(f_8 : a69.eval (.tmp 8) = .bool ((r66 || r67) || r68)), -⟩ := hf69 [16] rfl
    have e69_8 := f_8
    have hX69 := Evo.step hX64 (fun _ => Nat.le_refl 0) hE69 rfl
    refine fl_ret ?_
    refine hp62 _ _ _ rfl ?_
    obtain rfl := osome hs
    exact hret _ _ _ _ (.inl rfl) hd69 (results1_ rfl (RVal.tmp_ e69_8)) ⟨own69, rfl, hX69⟩
  refine fl_skip ?_
  refine hn62 _ _ ?_
  obtain ⟨r70, hr70, hs⟩ := obind hs
  refine rg_plain_seq (n := 65) (rs := []) (own0 := own64) (K := [72])
      (bs := [0, 0, 0, 7, 0, 31])
      (ds := [⟨[], [4], [], Fct.val 39 (.agg #[.int .i64 x1.1, .int .i64 x1.2])⟩,
      ⟨[], [5], [], Fct.val 40 (.agg #[.int .i64 b2.1, .int .i64 b2.2])⟩,
      ⟨[], [6], [], Fct.val 41 (.agg #[.int .i64 c3.1, .int .i64 c3.2])⟩,
      ⟨[0, 1, 2], [], [], Fct.val 42 (.int .i64 r70)⟩,
      ⟨[], [], [], Fct.blk 72 9 (fun g => .pointer (some ⟨g, 0, none⟩)) 3 #[.int .i64 0]⟩,
      ⟨[4, 3], [], [72], Fct.blk 73 9 (fun g => .pointer (some ⟨g, 0, none⟩)) 3 #[.int .i64 r70]⟩]) (by kernel_rfl) hz64 hd64 (fun _ h => nomatch h) ?_ ?_
  · refine sc (fun _ _ _ _ s hE => px (or_load (l := [.int .i64 x1.1, .int .i64 x1.2]) ta25 (s.1.trans e64_4) (Blk.cellsFrom (BlkO.evo (by decide) hE b64_g46).2 0 rfl) rfl)) ?_
    refine sc (fun _ _ _ _ s hE => px (or_load (l := [.int .i64 b2.1, .int .i64 b2.2]) ta25 (s.1.trans e64_5) (Blk.cellsFrom (BlkO.evo (by decide) hE b64_g48).2 0 rfl) rfl)) ?_
    refine sc (fun _ _ _ _ s hE => px (or_load (l := [.int .i64 c3.1, .int .i64 c3.2]) ta25 (s.1.trans e64_6) (Blk.cellsFrom (BlkO.evo (by decide) hE b64_g50).2 0 rfl) rfl)) ?_
    refine sc (fun _ _ _ f _ _ => px (or_call cf46 (args3 f.1 f.2.1 f.2.2.1) (exact_Turn_w _ x1 b2 c3  r70 hr70) post_val)) ?_
    refine sc (fun _ _ _ _ _ _ => px (or_new [] rfl rfl trivial (by kernel_rfl))) ?_
    refine sc (fun own a wx hf hsl hE => ?_) ?_
    · obtain ⟨⟨g71, (f_9 : a.eval (.tmp 9) = .pointer (some ⟨g71, 0, none⟩)), (b_g71 : BlkO own 72 wx g71 3 #[.int .i64 0])⟩, (f_42 : a.eval (.tmp 42) = .int .i64 r70), -⟩ := hf
      exact px (or_store1 (lab := 72) (lab2 := 73) ts3 f_9 f_42 b_g71 (by simp) rfl (mem_of rfl) (by decide) rfl (fun own' a' w' ha hb => ⟨_, (ha 9).trans f_9, hb⟩))
    exact steps_nil
  intro own74 a74 w74 hd74 hz74 hk74 hf74 hE74
  have e74_4 := (hk74 4 rfl).trans e64_4
  have e74_5 := (hk74 5 rfl).trans e64_5
  have e74_6 := (hk74 6 rfl).trans e64_6
  have e74_7 := (hk74 7 rfl).trans e64_7
  obtain ⟨⟨g71, (f_9 : a74.eval (.tmp 9) = .pointer (some ⟨g71, 0, none⟩)), (b_g71 : BlkO own74 73 w74 g71 3 #[.int .i64 r70])⟩, -⟩ := hf74 [5] rfl
  have e74_9 := f_9
  have hX74 := Evo.step hX64 (fun _ => Nat.le_refl 0) hE74 rfl
  have b74_g46 := BlkO.evo (by decide) hE74 b64_g46
  have b74_g48 := BlkO.evo (by decide) hE74 b64_g48
  have b74_g50 := BlkO.evo (by decide) hE74 b64_g50
  have b74_g52 := BlkO.evo (by decide) hE74 b64_g52
  have b74_g71 := b_g71
  refine rg_plain_seq (n := 65) (rs := []) (own0 := own74) (K := [])
      (bs := [0, 1])
      (ds := [⟨[], [7, 9], [], Fct.val 43 (.func (.func 58) #[] #[.pointer (some ⟨g52, 0, none⟩), .pointer (some ⟨g71, 0, none⟩)])⟩,
      ⟨[0], [], [], Fct.val 10 (.func (.func 58) #[] #[.pointer (some ⟨g52, 0, none⟩), .pointer (some ⟨g71, 0, none⟩)])⟩]) (by kernel_rfl) hz74 hd74 (fun _ h => nomatch h) ?_ ?_
  · refine sc (fun _ _ _ _ s _ => px (or_k [(7, .pointer (some ⟨g52, 0, none⟩)), (9, .pointer (some ⟨g71, 0, none⟩))] rfl rfl ⟨(s.1.trans e74_7), (s.2.1.trans e74_9), trivial⟩ (by kernel_rfl))) ?_
    refine sc (fun _ _ _ f _ _ => px (or_assign f.1)) ?_
    exact steps_nil
  intro own75 a75 w75 hd75 hz75 hk75 hf75 hE75
  have e75_4 := (hk75 4 rfl).trans e74_4
  have e75_5 := (hk75 5 rfl).trans e74_5
  have e75_6 := (hk75 6 rfl).trans e74_6
  have e75_7 := (hk75 7 rfl).trans e74_7
  obtain ⟨(f_10 : a75.eval (.tmp 10) = .func (.func 58) #[] #[.pointer (some ⟨g52, 0, none⟩), .pointer (some ⟨g71, 0, none⟩)]), -⟩ := hf75 [1] rfl
  have e75_10 := f_10
  have hX75 := Evo.step hX74 (fun _ => Nat.le_refl 0) hE75 rfl
  have b75_g46 := BlkO.evo (by decide) hE75 b74_g46
  have b75_g48 := BlkO.evo (by decide) hE75 b74_g48
  have b75_g50 := BlkO.evo (by decide) hE75 b74_g50
  have b75_g52 := BlkO.evo (by decide) hE75 b74_g52
  have b75_g71 := BlkO.evo (by decide) hE75 b74_g71
  obtain ⟨r76, hr76, hs⟩ := obind hs
  obtain ⟨r77, hr77, hs⟩ := obind hs
  obtain ⟨r78, hr78, hs⟩ := obind hs
  obtain ⟨x79, hx79, hs⟩ := obind hs
  refine rg_plain_seq (n := 65) (rs := []) (own0 := own75) (K := [])
      (bs := [0, 0, 3, 7, 15, 15, 15, 127, 255, 511, 511, 511, 4095, 8191, 16383, 32767, 32767, 32767, 262143, 524287, 1048575, 2097151])
      (ds := [⟨[], [7], [], Fct.val 44 (.agg #[.int .i64 p4.1, .int .i64 p4.2])⟩,
      ⟨[], [4], [], Fct.val 45 (.agg #[.int .i64 x1.1, .int .i64 x1.2])⟩,
      ⟨[0, 1], [], [], Fct.val 46 (.bool (decide (p4 = x1)))⟩,
      ⟨[2], [], [], Fct.val 47 (.bool (decide (p4 = x1)))⟩,
      ⟨[3], [10], [], Fct.cond (!(decide (p4 = x1))) (some 48) (Fct.val 48 (.func (.func 58) #[] #[.pointer (some ⟨g52, 0, none⟩), .pointer (some ⟨g71, 0, none⟩)]))⟩,
      ⟨[3], [4], [], Fct.cond (!(decide (p4 = x1))) (some 49) (Fct.val 49 (.agg #[.int .i64 x1.1, .int .i64 x1.2]))⟩,
      ⟨[3], [5], [], Fct.cond (!(decide (p4 = x1))) (some 50) (Fct.val 50 (.agg #[.int .i64 b2.1, .int .i64 b2.2]))⟩,
      ⟨[3, 4, 5, 6], [], [], Fct.cond (!(decide (p4 = x1))) (some 51) (Fct.val 51 (.bool r76))⟩,
      ⟨[3, 7], [], [], Fct.cond (!(decide (p4 = x1))) (some 52) (Fct.val 52 (.bool r76))⟩,
      ⟨[8], [10], [], Fct.cond ((!(decide (p4 = x1))) && r76) (some 53) (Fct.val 53 (.func (.func 58) #[] #[.pointer (some ⟨g52, 0, none⟩), .pointer (some ⟨g71, 0, none⟩)]))⟩,
      ⟨[8], [5], [], Fct.cond ((!(decide (p4 = x1))) && r76) (some 54) (Fct.val 54 (.agg #[.int .i64 b2.1, .int .i64 b2.2]))⟩,
      ⟨[8], [6], [], Fct.cond ((!(decide (p4 = x1))) && r76) (some 55) (Fct.val 55 (.agg #[.int .i64 c3.1, .int .i64 c3.2]))⟩,
      ⟨[8, 9, 10, 11], [], [], Fct.cond ((!(decide (p4 = x1))) && r76) (some 56) (Fct.val 56 (.bool r77))⟩,
      ⟨[3, 8, 12], [], [], Fct.cond (!(decide (p4 = x1))) (some 57) (Fct.val 57 (.bool (r76 && r77)))⟩,
      ⟨[3, 13], [], [], Fct.cond (!(decide (p4 = x1))) (some 58) (Fct.val 58 (.bool (r76 && r77)))⟩,
      ⟨[14], [10], [], Fct.cond ((!(decide (p4 = x1))) && (r76 && r77)) (some 59) (Fct.val 59 (.func (.func 58) #[] #[.pointer (some ⟨g52, 0, none⟩), .pointer (some ⟨g71, 0, none⟩)]))⟩,
      ⟨[14], [6], [], Fct.cond ((!(decide (p4 = x1))) && (r76 && r77)) (some 60) (Fct.val 60 (.agg #[.int .i64 c3.1, .int .i64 c3.2]))⟩,
      ⟨[14], [4], [], Fct.cond ((!(decide (p4 = x1))) && (r76 && r77)) (some 61) (Fct.val 61 (.agg #[.int .i64 x1.1, .int .i64 x1.2]))⟩,
      ⟨[14, 15, 16, 17], [], [], Fct.cond ((!(decide (p4 = x1))) && (r76 && r77)) (some 62) (Fct.val 62 (.bool r78))⟩,
      ⟨[3, 14, 18], [], [], Fct.cond (!(decide (p4 = x1))) (some 63) (Fct.val 63 (.bool ((r76 && r77) && r78)))⟩,
      ⟨[3, 19], [], [], Fct.val 64 (.bool x79)⟩,
      ⟨[20], [], [], Fct.val 8 (.bool x79)⟩]) (by kernel_rfl) hz75 hd75 (fun _ h => nomatch h) ?_ ?_
  · refine sc (fun _ _ _ _ s hE => px (or_load (l := [.int .i64 p4.1, .int .i64 p4.2]) ta25 (s.1.trans e75_7) (Blk.cellsFrom (BlkO.evo (by decide) hE b75_g52).2 0 rfl) rfl)) ?_
    refine sc (fun _ _ _ _ s hE => px (or_load (l := [.int .i64 x1.1, .int .i64 x1.2]) ta25 (s.1.trans e75_4) (Blk.cellsFrom (BlkO.evo (by decide) hE b75_g46).2 0 rfl) rfl)) ?_
    refine sc (fun _ _ _ f _ _ => px (or_eqlA sg25 f.1 f.2.1 (se25 p4.1 p4.2 x1.1 x1.2 _) rfl)) ?_
    refine sc (fun _ _ _ f _ _ => px (or_move f.1)) ?_
    refine sc (fun own a wx hf hsl hE => ?_) ?_
    · obtain ⟨(f_47 : a.eval (.tmp 47) = .bool (decide (p4 = x1))), -⟩ := hf
      obtain ⟨s_10, -⟩ := hsl
      refine sg_f rfl rfl rfl f_47 (fun hg => ?_)
      exact or_move (s_10.trans e75_10)
    refine sc (fun own a wx hf hsl hE => ?_) ?_
    · obtain ⟨(f_47 : a.eval (.tmp 47) = .bool (decide (p4 = x1))), -⟩ := hf
      obtain ⟨s_4, -⟩ := hsl
      refine sg_f rfl rfl rfl f_47 (fun hg => ?_)
      exact or_load (l := [.int .i64 x1.1, .int .i64 x1.2]) ta25 (s_4.trans e75_4) (Blk.cellsFrom (BlkO.evo (by decide) hE b75_g46).2 0 rfl) rfl
    refine sc (fun own a wx hf hsl hE => ?_) ?_
    · obtain ⟨(f_47 : a.eval (.tmp 47) = .bool (decide (p4 = x1))), -⟩ := hf
      obtain ⟨s_5, -⟩ := hsl
      refine sg_f rfl rfl rfl f_47 (fun hg => ?_)
      exact or_load (l := [.int .i64 b2.1, .int .i64 b2.2]) ta25 (s_5.trans e75_5) (Blk.cellsFrom (BlkO.evo (by decide) hE b75_g48).2 0 rfl) rfl
    refine sc (fun own a wx hf hsl hE => ?_) ?_
    · obtain ⟨(f_47 : a.eval (.tmp 47) = .bool (decide (p4 = x1))), c_48, c_49, c_50, -⟩ := hf
      refine sg_f rfl rfl rfl f_47 (fun hg => ?_)
      have f_48 : a.eval (.tmp 48) = .func (.func 58) #[] #[.pointer (some ⟨g52, 0, none⟩), .pointer (some ⟨g71, 0, none⟩)] := c_48.1 hg
      have f_49 : a.eval (.tmp 49) = .agg #[.int .i64 x1.1, .int .i64 x1.2] := c_49.1 hg
      have f_50 : a.eval (.tmp 50) = .agg #[.int .i64 b2.1, .int .i64 b2.2] := c_50.1 hg
      exact or_callf cf58 f_48 (args2 f_49 f_50) rfl (exact_InTriangle_1_w _ x1 b2 p4 g52 25 r70 g71 3 (BlkO.zero_ (BlkO.evo (by decide) hE b75_g52)) (BlkO.zero_ (BlkO.evo (by decide) hE b75_g71)) r76 (gd_t hr76 hg)) post_val
    refine sc (fun own a wx hf hsl hE => ?_) ?_
    · obtain ⟨(f_47 : a.eval (.tmp 47) = .bool (decide (p4 = x1))), c_51, -⟩ := hf
      refine sg_f rfl rfl rfl f_47 (fun hg => ?_)
      have f_51 : a.eval (.tmp 51) = .bool r76 := c_51.1 hg
      exact or_move f_51
    refine sc (fun own a wx hf hsl hE => ?_) ?_
    · obtain ⟨c_52, -⟩ := hf
      obtain ⟨s_10, -⟩ := hsl
      refine sg_tc rfl rfl rfl c_52 (fun hg => ?_)
      have f_52 : a.eval (.tmp 52) = .bool r76 := c_52.1 (gL hg)
      exact or_move (s_10.trans e75_10)
    refine sc (fun own a wx hf hsl hE => ?_) ?_
    · obtain ⟨c_52, -⟩ := hf
      obtain ⟨s_5, -⟩ := hsl
      refine sg_tc rfl rfl rfl c_52 (fun hg => ?_)
      have f_52 : a.eval (.tmp 52) = .bool r76 := c_52.1 (gL hg)
      exact or_load (l := [.int .i64 b2.1, .int .i64 b2.2]) ta25 (s_5.trans e75_5) (Blk.cellsFrom (BlkO.evo (by decide) hE b75_g48).2 0 rfl) rfl
    refine sc (fun own a wx hf hsl hE => ?_) ?_
    · obtain ⟨c_52, -⟩ := hf
      obtain ⟨s_6, -⟩ := hsl
      refine sg_tc rfl rfl rfl c_52 (fun hg => ?_)
      have f_52 : a.eval (.tmp 52) = .bool r76 := c_52.1 (gL hg)
      exact or_load (l := [.int .i64 c3.1, .int .i64 c3.2]) ta25 (s_6.trans e75_6) (Blk.cellsFrom (BlkO.evo (by decide) hE b75_g50).2 0 rfl) rfl
    refine sc (fun own a wx hf hsl hE => ?_) ?_
    · obtain ⟨c_52, c_53, c_54, c_55, -⟩ := hf
      refine sg_tc rfl rfl rfl c_52 (fun hg => ?_)
      have f_52 : a.eval (.tmp 52) = .bool r76 := c_52.1 (gL hg)
      have f_53 : a.eval (.tmp 53) = .func (.func 58) #[] #[.pointer (some ⟨g52, 0, none⟩), .pointer (some ⟨g71, 0, none⟩)] := c_53.1 hg
      have f_54 : a.eval (.tmp 54) = .agg #[.int .i64 b2.1, .int .i64 b2.2] := c_54.1 hg
      have f_55 : a.eval (.tmp 55) = .agg #[.int .i64 c3.1, .int .i64 c3.2] := c_55.1 hg
      exact or_callf cf58 f_53 (args2 f_54 f_55) rfl (exact_InTriangle_1_w _ b2 c3 p4 g52 25 r70 g71 3 (BlkO.zero_ (BlkO.evo (by decide) hE b75_g52)) (BlkO.zero_ (BlkO.evo (by decide) hE b75_g71)) r77 (gd_t hr77 hg)) post_val
    refine sc (fun own a wx hf hsl hE => ?_) ?_
    · obtain ⟨(f_47 : a.eval (.tmp 47) = .bool (decide (p4 = x1))), c_52, c_56, -⟩ := hf
      refine sg_f rfl rfl rfl f_47 (fun hg => ?_)
      have f_52 : a.eval (.tmp 52) = .bool r76 := c_52.1 hg
      exact or_and f_52 (fun hx => c_56.1 (gI hg hx)) rfl rfl
    refine sc (fun own a wx hf hsl hE => ?_) ?_
    · obtain ⟨(f_47 : a.eval (.tmp 47) = .bool (decide (p4 = x1))), c_57, -⟩ := hf
      refine sg_f rfl rfl rfl f_47 (fun hg => ?_)
      have f_57 : a.eval (.tmp 57) = .bool (r76 && r77) := c_57.1 hg
      exact or_move f_57
    refine sc (fun own a wx hf hsl hE => ?_) ?_
    · obtain ⟨c_58, -⟩ := hf
      obtain ⟨s_10, -⟩ := hsl
      refine sg_tc rfl rfl rfl c_58 (fun hg => ?_)
      have f_58 : a.eval (.tmp 58) = .bool (r76 && r77) := c_58.1 (gL hg)
      exact or_move (s_10.trans e75_10)
    refine sc (fun own a wx hf hsl hE => ?_) ?_
    · obtain ⟨c_58, -⟩ := hf
      obtain ⟨s_6, -⟩ := hsl
      refine sg_tc rfl rfl rfl c_58 (fun hg => ?_)
      have f_58 : a.eval (.tmp 58) = .bool (r76 && r77) := c_58.1 (gL hg)
      exact or_load (l := [.int .i64 c3.1, .int .i64 c3.2]) ta25 (s_6.trans e75_6) (Blk.cellsFrom (BlkO.evo (by decide) hE b75_g50).2 0 rfl) rfl
    refine sc (fun own a wx hf hsl hE => ?_) ?_
    · obtain ⟨c_58, -⟩ := hf
      obtain ⟨s_4, -⟩ := hsl
      refine sg_tc rfl rfl rfl c_58 (fun hg => ?_)
      have f_58 : a.eval (.tmp 58) = .bool (r76 && r77) := c_58.1 (gL hg)
      exact or_load (l := [.int .i64 x1.1, .int .i64 x1.2]) ta25 (s_4.trans e75_4) (Blk.cellsFrom (BlkO.evo (by decide) hE b75_g46).2 0 rfl) rfl
    refine sc (fun own a wx hf hsl hE => ?_) ?_
    · obtain ⟨c_58, c_59, c_60, c_61, -⟩ := hf
      refine sg_tc rfl rfl rfl c_58 (fun hg => ?_)
      have f_58 : a.eval (.tmp 58) = .bool (r76 && r77) := c_58.1 (gL hg)
      have f_59 : a.eval (.tmp 59) = .func (.func 58) #[] #[.pointer (some ⟨g52, 0, none⟩), .pointer (some ⟨g71, 0, none⟩)] := c_59.1 hg
      have f_60 : a.eval (.tmp 60) = .agg #[.int .i64 c3.1, .int .i64 c3.2] := c_60.1 hg
      have f_61 : a.eval (.tmp 61) = .agg #[.int .i64 x1.1, .int .i64 x1.2] := c_61.1 hg
      exact or_callf cf58 f_59 (args2 f_60 f_61) rfl (exact_InTriangle_1_w _ c3 x1 p4 g52 25 r70 g71 3 (BlkO.zero_ (BlkO.evo (by decide) hE b75_g52)) (BlkO.zero_ (BlkO.evo (by decide) hE b75_g71)) r78 (gd_t hr78 hg)) post_val
    refine sc (fun own a wx hf hsl hE => ?_) ?_
    · obtain ⟨(f_47 : a.eval (.tmp 47) = .bool (decide (p4 = x1))), c_58, c_62, -⟩ := hf
      refine sg_f rfl rfl rfl f_47 (fun hg => ?_)
      have f_58 : a.eval (.tmp 58) = .bool (r76 && r77) := c_58.1 hg
      exact or_and f_58 (fun hx => c_62.1 (gI hg hx)) rfl rfl
    refine sc (fun own a wx hf hsl hE => ?_) ?_
    · obtain ⟨(f_47 : a.eval (.tmp 47) = .bool (decide (p4 = x1))), c_63, -⟩ := hf
      exact px (or_or f_47 rfl (fun hx => c_63.1 hx) (osome hx79).symm)
    refine sc (fun _ _ _ f _ _ => px (or_assign f.1)) ?_
    exact steps_nil
  intro own80 a80 w80 hd80 hz80 hk80 hf80 hE80
  obtain ⟨(f_8 : a80.eval (.tmp 8) = .bool x79), -⟩ := hf80 [21] rfl
  have e80_8 := f_8
  have hX80 := Evo.step hX75 (fun _ => Nat.le_refl 0) hE80 rfl
  refine fl_ret ?_
  obtain rfl := (osome hs).symm
  exact hret _ _ _ _ (.inl rfl) hd80 (results1_ rfl (RVal.tmp_ e80_8)) ⟨own80, rfl, hX80⟩
set_option maxHeartbeats 2000000 in
theorem guard_Guard_Why_w (w : World) (g1 : (((List ((Int × Int) × (Int × Int))) × (List ((Int × Int) × (List Int))) × (List Int))) × (List Int) × (List (Int × Int)) × (List ((Int × Int) × Bool)) × (List (((Int × Int) × (Int × Int)) × Bool))) (gg1 : Nat) (tg1 : TypeId) (gg1_0 : Nat) (tg1_0 : TypeId) (Ag1_0_0 : Option Addr) (cg1_0_0 : Nat) (mg1_0_1 : Nat) (Ag1_0_2 : Option Addr) (cg1_0_2 : Nat) (Ag1_1 : Option Addr) (cg1_1 : Nat) (Ag1_2 : Option Addr) (cg1_2 : Nat) (mg1_3 : Nat) (mg1_4 : Nat) (x2 : Int × Int) (b3 : Int × Int) (c4 : Int × Int) (hgg1 : BlkO (fun _ => 0) 0 w gg1 tg1 #[.pointer (some ⟨gg1_0, 0, none⟩), .slice Ag1_1 g1.2.1.length cg1_1, .slice Ag1_2 g1.2.2.1.length cg1_2, .map (some mg1_3), .map (some mg1_4)]) (hAg1_1 : RdO (fun _ => 0) [0] w R3 Ag1_1 cg1_1 g1.2.1) (hAg1_2 : RdO (fun _ => 0) [0] w R25 Ag1_2 cg1_2 g1.2.2.1) (hmg1_3 : MpO (fun _ => 0) 0 w mg1_3 vv25 vv4 g1.2.2.2.1) (hmg1_4 : MpO (fun _ => 0) 0 w mg1_4 vv81 vv4 g1.2.2.2.2) (hgg1_0 : BlkO (fun _ => 0) 0 w gg1_0 tg1_0 #[.slice Ag1_0_0 g1.1.1.length cg1_0_0, .map (some mg1_0_1), .slice Ag1_0_2 g1.1.2.2.length cg1_0_2]) (hAg1_0_0 : RdO (fun _ => 0) [0] w R80 Ag1_0_0 cg1_0_0 g1.1.1) (hmg1_0_1 : MpN (fun _ => 0) 0 0 [0] w mg1_0_1 vv111 3 R3 g1.1.2.1) (hAg1_0_2 : RdO (fun _ => 0) [0] w R3 Ag1_0_2 cg1_0_2 g1.1.2.2) (r : Int) (hs : guard_Guard_Why g1 x2 b3 c4 = some r) :
    Calls Try.prog 10 #[.pointer (some ⟨gg1, 0, none⟩), .agg #[.int .i64 x2.1, .int .i64 x2.2], .agg #[.int .i64 b3.1, .int .i64 b3.2], .agg #[.int .i64 c4.1, .int .i64 c4.2]] w fun e w' => ∃ own' : Own, e = .returned (.int .i64 r) ∧ Evo [] (fun _ => 0) own' w w' := by
  refine fl_enter (n := 155) rfl rfl rfl (Nat.le_of_ble_eq_true rfl) ?_
  intro a0 Q hd0 hz0 harg hret
  have ha0 := harg 0 _ rfl
  have ha1 := harg 1 _ rfl
  have ha2 := harg 2 _ rfl
  have ha3 := harg 3 _ rfl
  clear harg
  have hE0 : Evo [] (fun _ => 0) (fun _ => 0) w w := Evo.refl _ _ _
  refine rg_plain_seq (n := 155) (rs := []) (own0 := (fun _ => 0)) (K := [])
      (bs := [0, 0, 0, 0])
      (ds := [⟨[], [1], [], Fct.blk 117 5 (fun g => .pointer (some ⟨g, 0, none⟩)) 25 #[.int .i64 x2.1, .int .i64 x2.2]⟩,
      ⟨[], [2], [], Fct.blk 119 6 (fun g => .pointer (some ⟨g, 0, none⟩)) 25 #[.int .i64 b3.1, .int .i64 b3.2]⟩,
      ⟨[], [3], [], Fct.blk 121 7 (fun g => .pointer (some ⟨g, 0, none⟩)) 25 #[.int .i64 c4.1, .int .i64 c4.2]⟩,
      ⟨[], [], [], Fct.val 8 (.int .i64 0)⟩]) (by kernel_rfl) hz0 hd0 (fun _ h => nomatch h) ?_ ?_
  · refine sc (fun _ _ _ _ s _ => px (or_new [(1, .agg #[.int .i64 x2.1, .int .i64 x2.2])] rfl rfl ⟨(s.1.trans ha1), trivial⟩ (by kernel_rfl))) ?_
    refine sc (fun _ _ _ _ s _ => px (or_new [(2, .agg #[.int .i64 b3.1, .int .i64 b3.2])] rfl rfl ⟨(s.1.trans ha2), trivial⟩ (by kernel_rfl))) ?_
    refine sc (fun _ _ _ _ s _ => px (or_new [(3, .agg #[.int .i64 c4.1, .int .i64 c4.2])] rfl rfl ⟨(s.1.trans ha3), trivial⟩ (by kernel_rfl))) ?_
    refine sc (fun _ _ _ _ _ _ => px (or_assign rfl)) ?_
    exact steps_nil
  intro own122 a122 w122 hd122 hz122 hk122 hf122 hE122
  have e122_0 := (hk122 0 rfl).trans ha0
  obtain ⟨⟨g116, (f_5 : a122.eval (.tmp 5) = .pointer (some ⟨g116, 0, none⟩)), (b_g116 : BlkO own122 117 w122 g116 25 #[.int .i64 x2.1, .int .i64 x2.2])⟩, ⟨g118, (f_6 : a122.eval (.tmp 6) = .pointer (some ⟨g118, 0, none⟩)), (b_g118 : BlkO own122 119 w122 g118 25 #[.int .i64 b3.1, .int .i64 b3.2])⟩, ⟨g120, (f_7 : a122.eval (.tmp 7) = .pointer (some ⟨g120, 0, none⟩)), (b_g120 : BlkO own122 121 w122 g120 25 #[.int .i64 c4.1, .int .i64 c4.2])⟩, -⟩ := hf122 [0, 1, 2] rfl
  have e122_5 := f_5
  have e122_6 := f_6
  have e122_7 := f_7
  have hX122 := Evo.step hE0 (fun _ => Nat.le_refl 0) hE122 rfl
  have b122_Ag1_0_0 := RdO.evo rfl hE122 hAg1_0_0
  have b122_mg1_0_1 := MpN.evo rfl hE122 hmg1_0_1
  have b122_Ag1_0_2 := RdO.evo rfl hE122 hAg1_0_2
  have b122_gg1_0 := BlkO.evo (by decide) hE122 hgg1_0
  have b122_Ag1_1 := RdO.evo rfl hE122 hAg1_1
  have b122_Ag1_2 := RdO.evo rfl hE122 hAg1_2
  have b122_mg1_3 := MpO.evo (by decide) hE122 hmg1_3
  have b122_mg1_4 := MpO.evo (by decide) hE122 hmg1_4
  have b122_gg1 := BlkO.evo (by decide) hE122 hgg1
  have b122_g116 := b_g116
  have b122_g118 := b_g118
  have b122_g120 := b_g120
  refine fl_seq (fun Q123 hn123 hp123 => ?_)
  refine fl_block (fun Q124 hn124 hx124 hp124 => ?_)
  obtain ⟨x125, hx125, hs⟩ := obind hs
  obtain ⟨r128, hr128, hs⟩ := obind hs
  obtain ⟨x129, hx129, hs⟩ := obind hs
  obtain ⟨x130, hx130, hs⟩ := obind hs
  obtain ⟨x131, hx131, hs⟩ := obind hs
  obtain ⟨x132, hx132, hs⟩ := obind hs
  refine rg_draw_seq g_mixed (n := 155) (rs := []) (own0 := own122) (K := [])
      (bs := [0, 1, 3, 7, 7, 31, 63, 127, 255, 255, 1023, 2047, 4095, 8191, 8191, 32767, 65535, 131071, 262143, 262143, 262143, 2097151, 4194303, 8388607, 16777215, 33554431, 67108863, 134217727, 268435455, 536870911, 67108863, 2147483647, 4294967295, 8589934591, 17179869183, 34359738367, 68719476735, 137438953471, 274877906943, 34359738367, 1099511627775, 2199023255551, 4398046511103, 8796093022207, 17592186044415, 35184372088831, 70368744177663, 140737488355327, 17592186044415, 562949953421311, 1125899906842623, 2251799813685247, 4503599627370495])
      (ds := [⟨[], [0], [], Fct.val 15 (.pointer (some ⟨gg1, 0, none⟩))⟩,
      ⟨[0], [], [], Fct.val 16 (.bool false)⟩,
      ⟨[1], [], [], Fct.val 17 (.bool false)⟩,
      ⟨[2], [5], [], Fct.cond (!false) (some 18) (Fct.val 18 (.agg #[.int .i64 x2.1, .int .i64 x2.2]))⟩,
      ⟨[2], [7], [], Fct.cond (!false) (some 19) (Fct.val 19 (.agg #[.int .i64 c4.1, .int .i64 c4.2]))⟩,
      ⟨[2, 3, 4], [], [], Fct.cond (!false) (some 20) (Fct.val 20 (.bool (decide (x2 = c4))))⟩,
      ⟨[2, 5], [], [], Fct.val 21 (.bool (false || (decide (x2 = c4))))⟩,
      ⟨[6], [], [], Fct.val 22 (.bool (false || (decide (x2 = c4))))⟩,
      ⟨[7], [6], [], Fct.cond (!(false || (decide (x2 = c4)))) (some 23) (Fct.val 23 (.agg #[.int .i64 b3.1, .int .i64 b3.2]))⟩,
      ⟨[7], [5], [], Fct.cond (!(false || (decide (x2 = c4)))) (some 24) (Fct.val 24 (.agg #[.int .i64 x2.1, .int .i64 x2.2]))⟩,
      ⟨[7, 8, 9], [], [], Fct.cond (!(false || (decide (x2 = c4)))) (some 25) (Fct.val 25 (.bool (decide (b3 = x2))))⟩,
      ⟨[7, 10], [], [], Fct.val 26 (.bool x125)⟩,
      ⟨[11], [], [], Fct.val 27 (.bool x125)⟩,
      ⟨[12], [6], [], Fct.cond (!x125) (some 28) (Fct.val 28 (.agg #[.int .i64 b3.1, .int .i64 b3.2]))⟩,
      ⟨[12], [7], [], Fct.cond (!x125) (some 29) (Fct.val 29 (.agg #[.int .i64 c4.1, .int .i64 c4.2]))⟩,
      ⟨[12, 13, 14], [], [], Fct.cond (!x125) (some 30) (Fct.val 30 (.bool (decide (b3 = c4))))⟩,
      ⟨[12, 15], [], [], Fct.val 31 (.bool (x125 || (decide (b3 = c4))))⟩,
      ⟨[16], [], [], Fct.val 32 (.bool (x125 || (decide (b3 = c4))))⟩,
      ⟨[17], [5], [], Fct.cond (!(x125 || (decide (b3 = c4)))) (some 33) (Fct.val 33 (.agg #[.int .i64 x2.1, .int .i64 x2.2]))⟩,
      ⟨[17], [6], [], Fct.cond (!(x125 || (decide (b3 = c4)))) (some 34) (Fct.val 34 (.agg #[.int .i64 b3.1, .int .i64 b3.2]))⟩,
      ⟨[17], [7], [], Fct.cond (!(x125 || (decide (b3 = c4)))) (some 35) (Fct.val 35 (.agg #[.int .i64 c4.1, .int .i64 c4.2]))⟩,
      ⟨[17, 18, 19, 20], [], [], Fct.cond (!(x125 || (decide (b3 = c4)))) (some 36) (Fct.row 127 [] 36 25 R25 [x2, b3, c4])⟩,
      ⟨[17, 21], [], [], Fct.cond (!(x125 || (decide (b3 = c4)))) (some 37) (Fct.val 37 (.bool r128))⟩,
      ⟨[17, 22], [], [], Fct.cond (!(x125 || (decide (b3 = c4)))) (some 38) (Fct.val 38 (.bool (!r128)))⟩,
      ⟨[17, 23], [], [], Fct.val 39 (.bool x129)⟩,
      ⟨[24], [], [], Fct.val 40 (.bool x129)⟩,
      ⟨[25], [0], [], Fct.cond (!x129) (some 41) (Fct.val 41 (.pointer (some ⟨gg1, 0, none⟩)))⟩,
      ⟨[25, 26], [], [], Fct.cond (!x129) (some 42) (Fct.val 42 (.pointer (some ⟨gg1, 0, none⟩)))⟩,
      ⟨[25, 27], [], [], Fct.cond (!x129) (some 43) (Fct.val 43 (.pointer (some ⟨gg1, 3, none⟩)))⟩,
      ⟨[25, 28], [], [], Fct.cond (!x129) (some 44) (Fct.val 44 (.map (some mg1_3)))⟩,
      ⟨[25], [5], [], Fct.cond (!x129) (some 45) (Fct.val 45 (.agg #[.int .i64 x2.1, .int .i64 x2.2]))⟩,
      ⟨[25, 29, 30], [], [], Fct.cond (!x129) (some 46) (Fct.val 46 (.bool ((lkM g1.2.2.2.1 x2).getD false)))⟩,
      ⟨[25, 31], [], [], Fct.cond (!x129) (some 47) (Fct.val 47 (.bool (!((lkM g1.2.2.2.1 x2).getD false))))⟩,
      ⟨[25, 32], [], [], Fct.val 48 (.bool x130)⟩,
      ⟨[33], [], [], Fct.val 49 (.bool x130)⟩,
      ⟨[34], [0], [], Fct.cond (!x130) (some 50) (Fct.val 50 (.pointer (some ⟨gg1, 0, none⟩)))⟩,
      ⟨[34, 35], [], [], Fct.cond (!x130) (some 51) (Fct.val 51 (.pointer (some ⟨gg1, 0, none⟩)))⟩,
      ⟨[34, 36], [], [], Fct.cond (!x130) (some 52) (Fct.val 52 (.pointer (some ⟨gg1, 3, none⟩)))⟩,
      ⟨[34, 37], [], [], Fct.cond (!x130) (some 53) (Fct.val 53 (.map (some mg1_3)))⟩,
      ⟨[34], [6], [], Fct.cond (!x130) (some 54) (Fct.val 54 (.agg #[.int .i64 b3.1, .int .i64 b3.2]))⟩,
      ⟨[34, 38, 39], [], [], Fct.cond (!x130) (some 55) (Fct.val 55 (.bool ((lkM g1.2.2.2.1 b3).getD false)))⟩,
      ⟨[34, 40], [], [], Fct.cond (!x130) (some 56) (Fct.val 56 (.bool (!((lkM g1.2.2.2.1 b3).getD false))))⟩,
      ⟨[34, 41], [], [], Fct.val 57 (.bool x131)⟩,
      ⟨[42], [], [], Fct.val 58 (.bool x131)⟩,
      ⟨[43], [0], [], Fct.cond (!x131) (some 59) (Fct.val 59 (.pointer (some ⟨gg1, 0, none⟩)))⟩,
      ⟨[43, 44], [], [], Fct.cond (!x131) (some 60) (Fct.val 60 (.pointer (some ⟨gg1, 0, none⟩)))⟩,
      ⟨[43, 45], [], [], Fct.cond (!x131) (some 61) (Fct.val 61 (.pointer (some ⟨gg1, 3, none⟩)))⟩,
      ⟨[43, 46], [], [], Fct.cond (!x131) (some 62) (Fct.val 62 (.map (some mg1_3)))⟩,
      ⟨[43], [7], [], Fct.cond (!x131) (some 63) (Fct.val 63 (.agg #[.int .i64 c4.1, .int .i64 c4.2]))⟩,
      ⟨[43, 47, 48], [], [], Fct.cond (!x131) (some 64) (Fct.val 64 (.bool ((lkM g1.2.2.2.1 c4).getD false)))⟩,
      ⟨[43, 49], [], [], Fct.cond (!x131) (some 65) (Fct.val 65 (.bool (!((lkM g1.2.2.2.1 c4).getD false))))⟩,
      ⟨[43, 50], [], [], Fct.val 66 (.bool x132)⟩,
      ⟨[51], [], [], Fct.val 14 (.bool x132)⟩]) (by kernel_rfl) hz122 hd122 (fun _ h => nomatch h) ?_ ?_
  · refine sc (fun _ _ _ _ s _ => px (or_move (s.1.trans e122_0))) ?_
    refine sc (fun _ _ _ f _ _ => px (or_k [(15, .pointer (some ⟨gg1, 0, none⟩))] rfl rfl ⟨f.1, trivial⟩ (by kernel_rfl))) ?_
    refine sc (fun _ _ _ f _ _ => px (or_move f.1)) ?_
    refine sc (fun own a wx hf hsl hE => ?_) ?_
    · obtain ⟨(f_17 : a.eval (.tmp 17) = .bool false), -⟩ := hf
      obtain ⟨s_5, -⟩ := hsl
      refine sg_f rfl rfl rfl f_17 (fun hg => ?_)
      exact or_load (l := [.int .i64 x2.1, .int .i64 x2.2]) ta25 (s_5.trans e122_5) (Blk.cellsFrom (BlkO.evo (by decide) hE b122_g116).2 0 rfl) rfl
    refine sc (fun own a wx hf hsl hE => ?_) ?_
    · obtain ⟨(f_17 : a.eval (.tmp 17) = .bool false), -⟩ := hf
      obtain ⟨s_7, -⟩ := hsl
      refine sg_f rfl rfl rfl f_17 (fun hg => ?_)
      exact or_load (l := [.int .i64 c4.1, .int .i64 c4.2]) ta25 (s_7.trans e122_7) (Blk.cellsFrom (BlkO.evo (by decide) hE b122_g120).2 0 rfl) rfl
    refine sc (fun own a wx hf hsl hE => ?_) ?_
    · obtain ⟨(f_17 : a.eval (.tmp 17) = .bool false), c_18, c_19, -⟩ := hf
      refine sg_f rfl rfl rfl f_17 (fun hg => ?_)
      have f_18 : a.eval (.tmp 18) = .agg #[.int .i64 x2.1, .int .i64 x2.2] := c_18.1 hg
      have f_19 : a.eval (.tmp 19) = .agg #[.int .i64 c4.1, .int .i64 c4.2] := c_19.1 hg
      exact or_eqlA sg25 f_18 f_19 (se25 x2.1 x2.2 c4.1 c4.2 _) rfl
    refine sc (fun own a wx hf hsl hE => ?_) ?_
    · obtain ⟨(f_17 : a.eval (.tmp 17) = .bool false), c_20, -⟩ := hf
      exact px (or_or f_17 rfl (fun hx => c_20.1 hx) rfl)
    refine sc (fun _ _ _ f _ _ => px (or_move f.1)) ?_
    refine sc (fun own a wx hf hsl hE => ?_) ?_
    · obtain ⟨(f_22 : a.eval (.tmp 22) = .bool (false || (decide (x2 = c4)))), -⟩ := hf
      obtain ⟨s_6, -⟩ := hsl
      refine sg_f rfl rfl rfl f_22 (fun hg => ?_)
      exact or_load (l := [.int .i64 b3.1, .int .i64 b3.2]) ta25 (s_6.trans e122_6) (Blk.cellsFrom (BlkO.evo (by decide) hE b122_g118).2 0 rfl) rfl
    refine sc (fun own a wx hf hsl hE => ?_) ?_
    · obtain ⟨(f_22 : a.eval (.tmp 22) = .bool (false || (decide (x2 = c4)))), -⟩ := hf
      obtain ⟨s_5, -⟩ := hsl
      refine sg_f rfl rfl rfl f_22 (fun hg => ?_)
      exact or_load (l := [.int .i64 x2.1, .int .i64 x2.2]) ta25 (s_5.trans e122_5) (Blk.cellsFrom (BlkO.evo (by decide) hE b122_g116).2 0 rfl) rfl
    refine sc (fun own a wx hf hsl hE => ?_) ?_
    · obtain ⟨(f_22 : a.eval (.tmp 22) = .bool (false || (decide (x2 = c4)))), c_23, c_24, -⟩ := hf
      refine sg_f rfl rfl rfl f_22 (fun hg => ?_)
      have f_23 : a.eval (.tmp 23) = .agg #[.int .i64 b3.1, .int .i64 b3.2] := c_23.1 hg
      have f_24 : a.eval (.tmp 24) = .agg #[.int .i64 x2.1, .int .i64 x2.2] := c_24.1 hg
      exact or_eqlA sg25 f_23 f_24 (se25 b3.1 b3.2 x2.1 x2.2 _) rfl
    refine sc (fun own a wx hf hsl hE => ?_) ?_
    · obtain ⟨(f_22 : a.eval (.tmp 22) = .bool (false || (decide (x2 = c4)))), c_25, -⟩ := hf
      exact px (or_or f_22 rfl (fun hx => c_25.1 hx) (osome hx125).symm)
    refine sc (fun _ _ _ f _ _ => px (or_move f.1)) ?_
    refine sc (fun own a wx hf hsl hE => ?_) ?_
    · obtain ⟨(f_27 : a.eval (.tmp 27) = .bool x125), -⟩ := hf
      obtain ⟨s_6, -⟩ := hsl
      refine sg_f rfl rfl rfl f_27 (fun hg => ?_)
      exact or_load (l := [.int .i64 b3.1, .int .i64 b3.2]) ta25 (s_6.trans e122_6) (Blk.cellsFrom (BlkO.evo (by decide) hE b122_g118).2 0 rfl) rfl
    refine sc (fun own a wx hf hsl hE => ?_) ?_
    · obtain ⟨(f_27 : a.eval (.tmp 27) = .bool x125), -⟩ := hf
      obtain ⟨s_7, -⟩ := hsl
      refine sg_f rfl rfl rfl f_27 (fun hg => ?_)
      exact or_load (l := [.int .i64 c4.1, .int .i64 c4.2]) ta25 (s_7.trans e122_7) (Blk.cellsFrom (BlkO.evo (by decide) hE b122_g120).2 0 rfl) rfl
    refine sc (fun own a wx hf hsl hE => ?_) ?_
    · obtain ⟨(f_27 : a.eval (.tmp 27) = .bool x125), c_28, c_29, -⟩ := hf
      refine sg_f rfl rfl rfl f_27 (fun hg => ?_)
      have f_28 : a.eval (.tmp 28) = .agg #[.int .i64 b3.1, .int .i64 b3.2] := c_28.1 hg
      have f_29 : a.eval (.tmp 29) = .agg #[.int .i64 c4.1, .int .i64 c4.2] := c_29.1 hg
      exact or_eqlA sg25 f_28 f_29 (se25 b3.1 b3.2 c4.1 c4.2 _) rfl
    refine sc (fun own a wx hf hsl hE => ?_) ?_
    · obtain ⟨(f_27 : a.eval (.tmp 27) = .bool x125), c_30, -⟩ := hf
      exact px (or_or f_27 rfl (fun hx => c_30.1 hx) rfl)
    refine sc (fun _ _ _ f _ _ => px (or_move f.1)) ?_
    refine sc (fun own a wx hf hsl hE => ?_) ?_
    · obtain ⟨(f_32 : a.eval (.tmp 32) = .bool (x125 || (decide (b3 = c4)))), -⟩ := hf
      obtain ⟨s_5, -⟩ := hsl
      refine sg_f rfl rfl rfl f_32 (fun hg => ?_)
      exact or_load (l := [.int .i64 x2.1, .int .i64 x2.2]) ta25 (s_5.trans e122_5) (Blk.cellsFrom (BlkO.evo (by decide) hE b122_g116).2 0 rfl) rfl
    refine sc (fun own a wx hf hsl hE => ?_) ?_
    · obtain ⟨(f_32 : a.eval (.tmp 32) = .bool (x125 || (decide (b3 = c4)))), -⟩ := hf
      obtain ⟨s_6, -⟩ := hsl
      refine sg_f rfl rfl rfl f_32 (fun hg => ?_)
      exact or_load (l := [.int .i64 b3.1, .int .i64 b3.2]) ta25 (s_6.trans e122_6) (Blk.cellsFrom (BlkO.evo (by decide) hE b122_g118).2 0 rfl) rfl
    refine sc (fun own a wx hf hsl hE => ?_) ?_
    · obtain ⟨(f_32 : a.eval (.tmp 32) = .bool (x125 || (decide (b3 = c4)))), -⟩ := hf
      obtain ⟨s_7, -⟩ := hsl
      refine sg_f rfl rfl rfl f_32 (fun hg => ?_)
      exact or_load (l := [.int .i64 c4.1, .int .i64 c4.2]) ta25 (s_7.trans e122_7) (Blk.cellsFrom (BlkO.evo (by decide) hE b122_g120).2 0 rfl) rfl
    refine sc (fun own a wx hf hsl hE => ?_) ?_
    · obtain ⟨(f_32 : a.eval (.tmp 32) = .bool (x125 || (decide (b3 = c4)))), c_33, c_34, c_35, -⟩ := hf
      refine sg_f rfl rfl rfl f_32 (fun hg => ?_)
      have f_33 : a.eval (.tmp 33) = .agg #[.int .i64 x2.1, .int .i64 x2.2] := c_33.1 hg
      have f_34 : a.eval (.tmp 34) = .agg #[.int .i64 b3.1, .int .i64 b3.2] := c_34.1 hg
      have f_35 : a.eval (.tmp 35) = .agg #[.int .i64 c4.1, .int .i64 c4.2] := c_35.1 hg
      exact or_lit (lab := 127) (e := 25) (cs := #[.int .i64 x2.1, .int .i64 x2.2, .int .i64 b3.1, .int .i64 b3.2, .int .i64 c4.1, .int .i64 c4.2]) (F := E25) (or_new [(33, .agg #[.int .i64 x2.1, .int .i64 x2.2]), (34, .agg #[.int .i64 b3.1, .int .i64 b3.2]), (35, .agg #[.int .i64 c4.1, .int .i64 c4.2])] rfl rfl ⟨f_33, f_34, f_35, trivial⟩ (by kernel_rfl)) rfl rfl (show 3 ≤ maxLen by decide)
    refine sc (fun own a wx hf hsl hE => ?_) ?_
    · obtain ⟨(f_32 : a.eval (.tmp 32) = .bool (x125 || (decide (b3 = c4)))), c_36, -⟩ := hf
      refine sg_f rfl rfl rfl f_32 (fun hg => ?_)
      obtain ⟨⟨A126, cA126⟩, (f_36 : a.eval (.tmp 36) = .slice A126 [x2, b3, c4].length cA126), (b_A126 : RwO own 127 [] wx 25 R25 A126 cA126 [x2, b3, c4])⟩ := c_36.1 hg
      exact or_call cf32 (args1 f_36) (exact_Right_w _ [x2, b3, c4] A126 cA126 (RdO.zero (RwO.rd b_A126)) r128 (gd_t hr128 hg)) post_val
    refine sc (fun own a wx hf hsl hE => ?_) ?_
    · obtain ⟨(f_32 : a.eval (.tmp 32) = .bool (x125 || (decide (b3 = c4)))), c_37, -⟩ := hf
      refine sg_f rfl rfl rfl f_32 (fun hg => ?_)
      have f_37 : a.eval (.tmp 37) = .bool r128 := c_37.1 hg
      exact or_not f_37 rfl
    refine sc (fun own a wx hf hsl hE => ?_) ?_
    · obtain ⟨(f_32 : a.eval (.tmp 32) = .bool (x125 || (decide (b3 = c4)))), c_38, -⟩ := hf
      exact px (or_or f_32 rfl (fun hx => c_38.1 hx) (osome hx129).symm)
    refine sc (fun _ _ _ f _ _ => px (or_move f.1)) ?_
    refine sc (fun own a wx hf hsl hE => ?_) ?_
    · obtain ⟨(f_40 : a.eval (.tmp 40) = .bool x129), -⟩ := hf
      obtain ⟨s_0, -⟩ := hsl
      refine sg_f rfl rfl rfl f_40 (fun hg => ?_)
      exact or_move (s_0.trans e122_0)
    refine sc (fun own a wx hf hsl hE => ?_) ?_
    · obtain ⟨(f_40 : a.eval (.tmp 40) = .bool x129), c_41, -⟩ := hf
      refine sg_f rfl rfl rfl f_40 (fun hg => ?_)
      have f_41 : a.eval (.tmp 41) = .pointer (some ⟨gg1, 0, none⟩) := c_41.1 hg
      exact or_k [(41, .pointer (some ⟨gg1, 0, none⟩))] rfl rfl ⟨f_41, trivial⟩ (by kernel_rfl)
    refine sc (fun own a wx hf hsl hE => ?_) ?_
    · obtain ⟨(f_40 : a.eval (.tmp 40) = .bool x129), c_42, -⟩ := hf
      refine sg_f rfl rfl rfl f_40 (fun hg => ?_)
      have f_42 : a.eval (.tmp 42) = .pointer (some ⟨gg1, 0, none⟩) := c_42.1 hg
      exact or_field fo77_3 f_42 (by rfl)
    refine sc (fun own a wx hf hsl hE => ?_) ?_
    · obtain ⟨(f_40 : a.eval (.tmp 40) = .bool x129), c_43, -⟩ := hf
      refine sg_f rfl rfl rfl f_40 (fun hg => ?_)
      have f_43 : a.eval (.tmp 43) = .pointer (some ⟨gg1, 3, none⟩) := c_43.1 hg
      exact or_load1 to74 f_43 (Blk.at_ (BlkO.evo (by decide) hE b122_gg1).2 3 rfl)
    refine sc (fun own a wx hf hsl hE => ?_) ?_
    · obtain ⟨(f_40 : a.eval (.tmp 40) = .bool x129), -⟩ := hf
      obtain ⟨s_5, -⟩ := hsl
      refine sg_f rfl rfl rfl f_40 (fun hg => ?_)
      exact or_load (l := [.int .i64 x2.1, .int .i64 x2.2]) ta25 (s_5.trans e122_5) (Blk.cellsFrom (BlkO.evo (by decide) hE b122_g116).2 0 rfl) rfl
    refine sc (fun own a wx hf hsl hE => ?_) ?_
    · obtain ⟨(f_40 : a.eval (.tmp 40) = .bool x129), c_44, c_45, -⟩ := hf
      refine sg_f rfl rfl rfl f_40 (fun hg => ?_)
      have f_44 : a.eval (.tmp 44) = .map (some mg1_3) := c_44.1 hg
      have f_45 : a.eval (.tmp 45) = .agg #[.int .i64 x2.1, .int .i64 x2.2] := c_45.1 hg
      exact or_lookupE (kf := vv25) (vf := vv4) (k := x2) (dv := false) ko25 tm74 tzv74 f_44 f_45 (MpO.evo (by decide) hE b122_mg1_3) rfl
    refine sc (fun own a wx hf hsl hE => ?_) ?_
    · obtain ⟨(f_40 : a.eval (.tmp 40) = .bool x129), c_46, -⟩ := hf
      refine sg_f rfl rfl rfl f_40 (fun hg => ?_)
      have f_46 : a.eval (.tmp 46) = .bool ((lkM g1.2.2.2.1 x2).getD false) := c_46.1 hg
      exact or_not f_46 rfl
    refine sc (fun own a wx hf hsl hE => ?_) ?_
    · obtain ⟨(f_40 : a.eval (.tmp 40) = .bool x129), c_47, -⟩ := hf
      exact px (or_or f_40 rfl (fun hx => c_47.1 hx) (osome hx130).symm)
    refine sc (fun _ _ _ f _ _ => px (or_move f.1)) ?_
    refine sc (fun own a wx hf hsl hE => ?_) ?_
    · obtain ⟨(f_49 : a.eval (.tmp 49) = .bool x130), -⟩ := hf
      obtain ⟨s_0, -⟩ := hsl
      refine sg_f rfl rfl rfl f_49 (fun hg => ?_)
      exact or_move (s_0.trans e122_0)
    refine sc (fun own a wx hf hsl hE => ?_) ?_
    · obtain ⟨(f_49 : a.eval (.tmp 49) = .bool x130), c_50, -⟩ := hf
      refine sg_f rfl rfl rfl f_49 (fun hg => ?_)
      have f_50 : a.eval (.tmp 50) = .pointer (some ⟨gg1, 0, none⟩) := c_50.1 hg
      exact or_k [(50, .pointer (some ⟨gg1, 0, none⟩))] rfl rfl ⟨f_50, trivial⟩ (by kernel_rfl)
    refine sc (fun own a wx hf hsl hE => ?_) ?_
    · obtain ⟨(f_49 : a.eval (.tmp 49) = .bool x130), c_51, -⟩ := hf
      refine sg_f rfl rfl rfl f_49 (fun hg => ?_)
      have f_51 : a.eval (.tmp 51) = .pointer (some ⟨gg1, 0, none⟩) := c_51.1 hg
      exact or_field fo77_3 f_51 (by rfl)
    refine sc (fun own a wx hf hsl hE => ?_) ?_
    · obtain ⟨(f_49 : a.eval (.tmp 49) = .bool x130), c_52, -⟩ := hf
      refine sg_f rfl rfl rfl f_49 (fun hg => ?_)
      have f_52 : a.eval (.tmp 52) = .pointer (some ⟨gg1, 3, none⟩) := c_52.1 hg
      exact or_load1 to74 f_52 (Blk.at_ (BlkO.evo (by decide) hE b122_gg1).2 3 rfl)
    refine sc (fun own a wx hf hsl hE => ?_) ?_
    · obtain ⟨(f_49 : a.eval (.tmp 49) = .bool x130), -⟩ := hf
      obtain ⟨s_6, -⟩ := hsl
      refine sg_f rfl rfl rfl f_49 (fun hg => ?_)
      exact or_load (l := [.int .i64 b3.1, .int .i64 b3.2]) ta25 (s_6.trans e122_6) (Blk.cellsFrom (BlkO.evo (by decide) hE b122_g118).2 0 rfl) rfl
    refine sc (fun own a wx hf hsl hE => ?_) ?_
    · obtain ⟨(f_49 : a.eval (.tmp 49) = .bool x130), c_53, c_54, -⟩ := hf
      refine sg_f rfl rfl rfl f_49 (fun hg => ?_)
      have f_53 : a.eval (.tmp 53) = .map (some mg1_3) := c_53.1 hg
      have f_54 : a.eval (.tmp 54) = .agg #[.int .i64 b3.1, .int .i64 b3.2] := c_54.1 hg
      exact or_lookupE (kf := vv25) (vf := vv4) (k := b3) (dv := false) ko25 tm74 tzv74 f_53 f_54 (MpO.evo (by decide) hE b122_mg1_3) rfl
    refine sc (fun own a wx hf hsl hE => ?_) ?_
    · obtain ⟨(f_49 : a.eval (.tmp 49) = .bool x130), c_55, -⟩ := hf
      refine sg_f rfl rfl rfl f_49 (fun hg => ?_)
      have f_55 : a.eval (.tmp 55) = .bool ((lkM g1.2.2.2.1 b3).getD false) := c_55.1 hg
      exact or_not f_55 rfl
    refine sc (fun own a wx hf hsl hE => ?_) ?_
    · obtain ⟨(f_49 : a.eval (.tmp 49) = .bool x130), c_56, -⟩ := hf
      exact px (or_or f_49 rfl (fun hx => c_56.1 hx) (osome hx131).symm)
    refine sc (fun _ _ _ f _ _ => px (or_move f.1)) ?_
    refine sc (fun own a wx hf hsl hE => ?_) ?_
    · obtain ⟨(f_58 : a.eval (.tmp 58) = .bool x131), -⟩ := hf
      obtain ⟨s_0, -⟩ := hsl
      refine sg_f rfl rfl rfl f_58 (fun hg => ?_)
      exact or_move (s_0.trans e122_0)
    refine sc (fun own a wx hf hsl hE => ?_) ?_
    · obtain ⟨(f_58 : a.eval (.tmp 58) = .bool x131), c_59, -⟩ := hf
      refine sg_f rfl rfl rfl f_58 (fun hg => ?_)
      have f_59 : a.eval (.tmp 59) = .pointer (some ⟨gg1, 0, none⟩) := c_59.1 hg
      exact or_k [(59, .pointer (some ⟨gg1, 0, none⟩))] rfl rfl ⟨f_59, trivial⟩ (by kernel_rfl)
    refine sc (fun own a wx hf hsl hE => ?_) ?_
    · obtain ⟨(f_58 : a.eval (.tmp 58) = .bool x131), c_60, -⟩ := hf
      refine sg_f rfl rfl rfl f_58 (fun hg => ?_)
      have f_60 : a.eval (.tmp 60) = .pointer (some ⟨gg1, 0, none⟩) := c_60.1 hg
      exact or_field fo77_3 f_60 (by rfl)
    refine sc (fun own a wx hf hsl hE => ?_) ?_
    · obtain ⟨(f_58 : a.eval (.tmp 58) = .bool x131), c_61, -⟩ := hf
      refine sg_f rfl rfl rfl f_58 (fun hg => ?_)
      have f_61 : a.eval (.tmp 61) = .pointer (some ⟨gg1, 3, none⟩) := c_61.1 hg
      exact or_load1 to74 f_61 (Blk.at_ (BlkO.evo (by decide) hE b122_gg1).2 3 rfl)
    refine sc (fun own a wx hf hsl hE => ?_) ?_
    · obtain ⟨(f_58 : a.eval (.tmp 58) = .bool x131), -⟩ := hf
      obtain ⟨s_7, -⟩ := hsl
      refine sg_f rfl rfl rfl f_58 (fun hg => ?_)
      exact or_load (l := [.int .i64 c4.1, .int .i64 c4.2]) ta25 (s_7.trans e122_7) (Blk.cellsFrom (BlkO.evo (by decide) hE b122_g120).2 0 rfl) rfl
    refine sc (fun own a wx hf hsl hE => ?_) ?_
    · obtain ⟨(f_58 : a.eval (.tmp 58) = .bool x131), c_62, c_63, -⟩ := hf
      refine sg_f rfl rfl rfl f_58 (fun hg => ?_)
      have f_62 : a.eval (.tmp 62) = .map (some mg1_3) := c_62.1 hg
      have f_63 : a.eval (.tmp 63) = .agg #[.int .i64 c4.1, .int .i64 c4.2] := c_63.1 hg
      exact or_lookupE (kf := vv25) (vf := vv4) (k := c4) (dv := false) ko25 tm74 tzv74 f_62 f_63 (MpO.evo (by decide) hE b122_mg1_3) rfl
    refine sc (fun own a wx hf hsl hE => ?_) ?_
    · obtain ⟨(f_58 : a.eval (.tmp 58) = .bool x131), c_64, -⟩ := hf
      refine sg_f rfl rfl rfl f_58 (fun hg => ?_)
      have f_64 : a.eval (.tmp 64) = .bool ((lkM g1.2.2.2.1 c4).getD false) := c_64.1 hg
      exact or_not f_64 rfl
    refine sc (fun own a wx hf hsl hE => ?_) ?_
    · obtain ⟨(f_58 : a.eval (.tmp 58) = .bool x131), c_65, -⟩ := hf
      exact px (or_or f_58 rfl (fun hx => c_65.1 hx) (osome hx132).symm)
    refine sc (fun _ _ _ f _ _ => px (or_assign f.1)) ?_
    exact steps_nil
  intro own133 a133 w133 hd133 hz133 hk133 hf133 hE133
  have e133_0 := (hk133 0 rfl).trans e122_0
  have e133_5 := (hk133 5 rfl).trans e122_5
  have e133_6 := (hk133 6 rfl).trans e122_6
  have e133_7 := (hk133 7 rfl).trans e122_7
  obtain ⟨(f_14 : a133.eval (.tmp 14) = .bool x132), -⟩ := hf133 [52] rfl
  have e133_14 := f_14
  have hX133 := Evo.step hX122 (fun _ => Nat.le_refl 0) hE133 rfl
  have b133_Ag1_0_0 := RdO.evo rfl hE133 b122_Ag1_0_0
  have b133_mg1_0_1 := MpN.evo rfl hE133 b122_mg1_0_1
  have b133_Ag1_0_2 := RdO.evo rfl hE133 b122_Ag1_0_2
  have b133_gg1_0 := BlkO.evo (by decide) hE133 b122_gg1_0
  have b133_Ag1_1 := RdO.evo rfl hE133 b122_Ag1_1
  have b133_Ag1_2 := RdO.evo rfl hE133 b122_Ag1_2
  have b133_mg1_3 := MpO.evo (by decide) hE133 b122_mg1_3
  have b133_mg1_4 := MpO.evo (by decide) hE133 b122_mg1_4
  have b133_gg1 := BlkO.evo (by decide) hE133 b122_gg1
  have b133_g116 := BlkO.evo (by decide) hE133 b122_g116
  have b133_g118 := BlkO.evo (by decide) hE133 b122_g118
  have b133_g120 := BlkO.evo (by decide) hE133 b122_g120
  refine fl_cond e133_14 hs (fun c134 hs => ?_) (fun c134 hs => ?_)
  · refine rg_plain_seq (n := 155) (rs := []) (own0 := own133) (K := [])
        (bs := [0])
        (ds := [⟨[], [], [], Fct.val 8 (.int .i64 1)⟩]) (by kernel_rfl) hz133 hd133 (fun _ h => nomatch h) ?_ ?_
    · refine sc (fun _ _ _ _ _ _ => px (or_assign rfl)) ?_
      exact steps_nil
    intro own135 a135 w135 hd135 hz135 hk135 hf135 hE135
    obtain ⟨(f_8 : a135.eval (.tmp 8) = .int .i64 1), -⟩ := hf135 [0] rfl
    have e135_8 := f_8
    have hX135 := Evo.step hX133 (fun _ => Nat.le_refl 0) hE135 rfl
    refine fl_ret ?_
    refine hp124 _ _ _ rfl ?_
    refine hp123 _ _ _ rfl ?_
    obtain rfl := osome hs
    exact hret _ _ _ _ (.inl rfl) hd135 (results1_ rfl (RVal.tmp_ e135_8)) ⟨own135, rfl, hX135⟩
  obtain ⟨r136, hr136, hs⟩ := obind hs
  obtain ⟨r137, hr137, hs⟩ := obind hs
  refine rg_draw_seq g_mixed (n := 155) (rs := []) (own0 := own133) (K := [])
      (bs := [0, 1, 3, 7, 0, 16, 0, 64, 255, 511, 1023, 2047, 4095, 8191, 16383, 2047, 34815, 2047, 133119, 524287, 1048575, 2097151, 4194303])
      (ds := [⟨[], [0], [], Fct.val 68 (.pointer (some ⟨gg1, 0, none⟩))⟩,
      ⟨[0], [], [], Fct.val 69 (.pointer (some ⟨gg1, 0, none⟩))⟩,
      ⟨[1], [], [], Fct.val 70 (.pointer (some ⟨gg1, 1, none⟩))⟩,
      ⟨[2], [], [], Fct.val 71 (.slice Ag1_1 g1.2.1.length cg1_1)⟩,
      ⟨[], [5], [], Fct.val 72 (.pointer (some ⟨g116, 0, none⟩))⟩,
      ⟨[4], [], [], Fct.val 73 (.int .i64 x2.1)⟩,
      ⟨[], [7], [], Fct.val 74 (.pointer (some ⟨g120, 0, none⟩))⟩,
      ⟨[6], [], [], Fct.val 75 (.int .i64 c4.1)⟩,
      ⟨[3, 5, 7], [], [], Fct.val 76 (.bool r136)⟩,
      ⟨[8], [], [], Fct.val 77 (.bool (!r136))⟩,
      ⟨[9], [], [], Fct.val 78 (.bool (!r136))⟩,
      ⟨[10], [0], [], Fct.cond (!(!r136)) (some 79) (Fct.val 79 (.pointer (some ⟨gg1, 0, none⟩)))⟩,
      ⟨[10, 11], [], [], Fct.cond (!(!r136)) (some 80) (Fct.val 80 (.pointer (some ⟨gg1, 0, none⟩)))⟩,
      ⟨[10, 12], [], [], Fct.cond (!(!r136)) (some 81) (Fct.val 81 (.pointer (some ⟨gg1, 1, none⟩)))⟩,
      ⟨[10, 13], [], [], Fct.cond (!(!r136)) (some 82) (Fct.val 82 (.slice Ag1_1 g1.2.1.length cg1_1))⟩,
      ⟨[10], [5], [], Fct.cond (!(!r136)) (some 83) (Fct.val 83 (.pointer (some ⟨g116, 1, none⟩)))⟩,
      ⟨[10, 15], [], [], Fct.cond (!(!r136)) (some 84) (Fct.val 84 (.int .i64 x2.2))⟩,
      ⟨[10], [7], [], Fct.cond (!(!r136)) (some 85) (Fct.val 85 (.pointer (some ⟨g120, 1, none⟩)))⟩,
      ⟨[10, 17], [], [], Fct.cond (!(!r136)) (some 86) (Fct.val 86 (.int .i64 c4.2))⟩,
      ⟨[10, 14, 16, 18], [], [], Fct.cond (!(!r136)) (some 87) (Fct.val 87 (.bool r137))⟩,
      ⟨[10, 19], [], [], Fct.cond (!(!r136)) (some 88) (Fct.val 88 (.bool (!r137)))⟩,
      ⟨[10, 20], [], [], Fct.val 89 (.bool ((!r136) || (!r137)))⟩,
      ⟨[21], [], [], Fct.val 67 (.bool ((!r136) || (!r137)))⟩]) (by kernel_rfl) hz133 hd133 (fun _ h => nomatch h) ?_ ?_
  · refine sc (fun _ _ _ _ s _ => px (or_move (s.1.trans e133_0))) ?_
    refine sc (fun _ _ _ f _ _ => px (or_k [(68, .pointer (some ⟨gg1, 0, none⟩))] rfl rfl ⟨f.1, trivial⟩ (by kernel_rfl))) ?_
    refine sc (fun _ _ _ f _ _ => px (or_field fo77_1 f.1 (by rfl))) ?_
    refine sc (fun _ _ _ f _ hE => px (or_load1 to22 f.1 (Blk.at_ (BlkO.evo (by decide) hE b133_gg1).2 1 rfl))) ?_
    refine sc (fun _ _ _ _ s _ => px (or_field fo25_0 (s.1.trans e133_5) (by rfl))) ?_
    refine sc (fun _ _ _ f _ hE => px (or_load1 to3 f.1 (Blk.at_ (BlkO.evo (by decide) hE b133_g116).2 0 rfl))) ?_
    refine sc (fun _ _ _ _ s _ => px (or_field fo25_0 (s.1.trans e133_7) (by rfl))) ?_
    refine sc (fun _ _ _ f _ hE => px (or_load1 to3 f.1 (Blk.at_ (BlkO.evo (by decide) hE b133_g120).2 0 rfl))) ?_
    refine sc (fun _ _ _ f _ hE => px (or_call cf33 (args3 f.1 f.2.1 f.2.2.1) (order_Common_w _ g1.2.1 Ag1_1 cg1_1 x2.1 c4.1 (RdO.zero (RdO.evo rfl hE b133_Ag1_1)) r136 hr136) post_val)) ?_
    refine sc (fun _ _ _ f _ _ => px (or_not f.1 rfl)) ?_
    refine sc (fun _ _ _ f _ _ => px (or_move f.1)) ?_
    refine sc (fun own a wx hf hsl hE => ?_) ?_
    · obtain ⟨(f_78 : a.eval (.tmp 78) = .bool (!r136)), -⟩ := hf
      obtain ⟨s_0, -⟩ := hsl
      refine sg_f rfl rfl rfl f_78 (fun hg => ?_)
      exact or_move (s_0.trans e133_0)
    refine sc (fun own a wx hf hsl hE => ?_) ?_
    · obtain ⟨(f_78 : a.eval (.tmp 78) = .bool (!r136)), c_79, -⟩ := hf
      refine sg_f rfl rfl rfl f_78 (fun hg => ?_)
      have f_79 : a.eval (.tmp 79) = .pointer (some ⟨gg1, 0, none⟩) := c_79.1 hg
      exact or_k [(79, .pointer (some ⟨gg1, 0, none⟩))] rfl rfl ⟨f_79, trivial⟩ (by kernel_rfl)
    refine sc (fun own a wx hf hsl hE => ?_) ?_
    · obtain ⟨(f_78 : a.eval (.tmp 78) = .bool (!r136)), c_80, -⟩ := hf
      refine sg_f rfl rfl rfl f_78 (fun hg => ?_)
      have f_80 : a.eval (.tmp 80) = .pointer (some ⟨gg1, 0, none⟩) := c_80.1 hg
      exact or_field fo77_1 f_80 (by rfl)
    refine sc (fun own a wx hf hsl hE => ?_) ?_
    · obtain ⟨(f_78 : a.eval (.tmp 78) = .bool (!r136)), c_81, -⟩ := hf
      refine sg_f rfl rfl rfl f_78 (fun hg => ?_)
      have f_81 : a.eval (.tmp 81) = .pointer (some ⟨gg1, 1, none⟩) := c_81.1 hg
      exact or_load1 to22 f_81 (Blk.at_ (BlkO.evo (by decide) hE b133_gg1).2 1 rfl)
    refine sc (fun own a wx hf hsl hE => ?_) ?_
    · obtain ⟨(f_78 : a.eval (.tmp 78) = .bool (!r136)), -⟩ := hf
      obtain ⟨s_5, -⟩ := hsl
      refine sg_f rfl rfl rfl f_78 (fun hg => ?_)
      exact or_field fo25_1 (s_5.trans e133_5) (by rfl)
    refine sc (fun own a wx hf hsl hE => ?_) ?_
    · obtain ⟨(f_78 : a.eval (.tmp 78) = .bool (!r136)), c_83, -⟩ := hf
      refine sg_f rfl rfl rfl f_78 (fun hg => ?_)
      have f_83 : a.eval (.tmp 83) = .pointer (some ⟨g116, 1, none⟩) := c_83.1 hg
      exact or_load1 to3 f_83 (Blk.at_ (BlkO.evo (by decide) hE b133_g116).2 1 rfl)
    refine sc (fun own a wx hf hsl hE => ?_) ?_
    · obtain ⟨(f_78 : a.eval (.tmp 78) = .bool (!r136)), -⟩ := hf
      obtain ⟨s_7, -⟩ := hsl
      refine sg_f rfl rfl rfl f_78 (fun hg => ?_)
      exact or_field fo25_1 (s_7.trans e133_7) (by rfl)
    refine sc (fun own a wx hf hsl hE => ?_) ?_
    · obtain ⟨(f_78 : a.eval (.tmp 78) = .bool (!r136)), c_85, -⟩ := hf
      refine sg_f rfl rfl rfl f_78 (fun hg => ?_)
      have f_85 : a.eval (.tmp 85) = .pointer (some ⟨g120, 1, none⟩) := c_85.1 hg
      exact or_load1 to3 f_85 (Blk.at_ (BlkO.evo (by decide) hE b133_g120).2 1 rfl)
    refine sc (fun own a wx hf hsl hE => ?_) ?_
    · obtain ⟨(f_78 : a.eval (.tmp 78) = .bool (!r136)), c_82, c_84, c_86, -⟩ := hf
      refine sg_f rfl rfl rfl f_78 (fun hg => ?_)
      have f_82 : a.eval (.tmp 82) = .slice Ag1_1 g1.2.1.length cg1_1 := c_82.1 hg
      have f_84 : a.eval (.tmp 84) = .int .i64 x2.2 := c_84.1 hg
      have f_86 : a.eval (.tmp 86) = .int .i64 c4.2 := c_86.1 hg
      exact or_call cf33 (args3 f_82 f_84 f_86) (order_Common_w _ g1.2.1 Ag1_1 cg1_1 x2.2 c4.2 (RdO.zero (RdO.evo rfl hE b133_Ag1_1)) r137 (gd_t hr137 hg)) post_val
    refine sc (fun own a wx hf hsl hE => ?_) ?_
    · obtain ⟨(f_78 : a.eval (.tmp 78) = .bool (!r136)), c_87, -⟩ := hf
      refine sg_f rfl rfl rfl f_78 (fun hg => ?_)
      have f_87 : a.eval (.tmp 87) = .bool r137 := c_87.1 hg
      exact or_not f_87 rfl
    refine sc (fun own a wx hf hsl hE => ?_) ?_
    · obtain ⟨(f_78 : a.eval (.tmp 78) = .bool (!r136)), c_88, -⟩ := hf
      exact px (or_or f_78 rfl (fun hx => c_88.1 hx) rfl)
    refine sc (fun _ _ _ f _ _ => px (or_assign f.1)) ?_
    exact steps_nil
  intro own138 a138 w138 hd138 hz138 hk138 hf138 hE138
  have e138_0 := (hk138 0 rfl).trans e133_0
  have e138_5 := (hk138 5 rfl).trans e133_5
  have e138_6 := (hk138 6 rfl).trans e133_6
  have e138_7 := (hk138 7 rfl).trans e133_7
  obtain ⟨(f_67 : a138.eval (.tmp 67) = .bool ((!r136) || (!r137))), -⟩ := hf138 [22] rfl
  have e138_67 := f_67
  have hX138 := Evo.step hX133 (fun _ => Nat.le_refl 0) hE138 rfl
  have b138_Ag1_0_0 := RdO.evo rfl hE138 b133_Ag1_0_0
  have b138_mg1_0_1 := MpN.evo rfl hE138 b133_mg1_0_1
  have b138_Ag1_0_2 := RdO.evo rfl hE138 b133_Ag1_0_2
  have b138_gg1_0 := BlkO.evo (by decide) hE138 b133_gg1_0
  have b138_Ag1_1 := RdO.evo rfl hE138 b133_Ag1_1
  have b138_Ag1_2 := RdO.evo rfl hE138 b133_Ag1_2
  have b138_mg1_3 := MpO.evo (by decide) hE138 b133_mg1_3
  have b138_mg1_4 := MpO.evo (by decide) hE138 b133_mg1_4
  have b138_gg1 := BlkO.evo (by decide) hE138 b133_gg1
  have b138_g116 := BlkO.evo (by decide) hE138 b133_g116
  have b138_g118 := BlkO.evo (by decide) hE138 b133_g118
  have b138_g120 := BlkO.evo (by decide) hE138 b133_g120
  refine fl_cond e138_67 hs (fun c139 hs => ?_) (fun c139 hs => ?_)
  · refine rg_plain_seq (n := 155) (rs := []) (own0 := own138) (K := [])
        (bs := [0])
        (ds := [⟨[], [], [], Fct.val 8 (.int .i64 2)⟩]) (by kernel_rfl) hz138 hd138 (fun _ h => nomatch h) ?_ ?_
    · refine sc (fun _ _ _ _ _ _ => px (or_assign rfl)) ?_
      exact steps_nil
    intro own140 a140 w140 hd140 hz140 hk140 hf140 hE140
    obtain ⟨(f_8 : a140.eval (.tmp 8) = .int .i64 2), -⟩ := hf140 [0] rfl
    have e140_8 := f_8
    have hX140 := Evo.step hX138 (fun _ => Nat.le_refl 0) hE140 rfl
    refine fl_ret ?_
    refine hp124 _ _ _ rfl ?_
    refine hp123 _ _ _ rfl ?_
    obtain rfl := osome hs
    exact hret _ _ _ _ (.inl rfl) hd140 (results1_ rfl (RVal.tmp_ e140_8)) ⟨own140, rfl, hX140⟩
  obtain ⟨r141, hr141, hs⟩ := obind hs
  refine rg_draw_seq g_mixed (n := 155) (rs := []) (own0 := own138) (K := [])
      (bs := [0, 1, 3, 7, 0, 0, 48, 127, 255])
      (ds := [⟨[], [0], [], Fct.val 91 (.pointer (some ⟨gg1, 0, none⟩))⟩,
      ⟨[0], [], [], Fct.val 92 (.pointer (some ⟨gg1, 0, none⟩))⟩,
      ⟨[1], [], [], Fct.val 93 (.pointer (some ⟨gg1, 4, none⟩))⟩,
      ⟨[2], [], [], Fct.val 94 (.map (some mg1_4))⟩,
      ⟨[], [5], [], Fct.val 95 (.agg #[.int .i64 x2.1, .int .i64 x2.2])⟩,
      ⟨[], [7], [], Fct.val 96 (.agg #[.int .i64 c4.1, .int .i64 c4.2])⟩,
      ⟨[4, 5], [], [], Fct.val 97 (.agg #[.int .i64 r141.1.1, .int .i64 r141.1.2, .int .i64 r141.2.1, .int .i64 r141.2.2])⟩,
      ⟨[3, 6], [], [], Fct.val 98 (.bool ((lkM g1.2.2.2.2 r141).getD false))⟩,
      ⟨[7], [], [], Fct.val 90 (.bool ((lkM g1.2.2.2.2 r141).getD false))⟩]) (by kernel_rfl) hz138 hd138 (fun _ h => nomatch h) ?_ ?_
  · refine sc (fun _ _ _ _ s _ => px (or_move (s.1.trans e138_0))) ?_
    refine sc (fun _ _ _ f _ _ => px (or_k [(91, .pointer (some ⟨gg1, 0, none⟩))] rfl rfl ⟨f.1, trivial⟩ (by kernel_rfl))) ?_
    refine sc (fun _ _ _ f _ _ => px (or_field fo77_4 f.1 (by rfl))) ?_
    refine sc (fun _ _ _ f _ hE => px (or_load1 to75 f.1 (Blk.at_ (BlkO.evo (by decide) hE b138_gg1).2 4 rfl))) ?_
    refine sc (fun _ _ _ _ s hE => px (or_load (l := [.int .i64 x2.1, .int .i64 x2.2]) ta25 (s.1.trans e138_5) (Blk.cellsFrom (BlkO.evo (by decide) hE b138_g116).2 0 rfl) rfl)) ?_
    refine sc (fun _ _ _ _ s hE => px (or_load (l := [.int .i64 c4.1, .int .i64 c4.2]) ta25 (s.1.trans e138_7) (Blk.cellsFrom (BlkO.evo (by decide) hE b138_g120).2 0 rfl) rfl)) ?_
    refine sc (fun _ _ _ f _ _ => px (or_call cf30 (args2 f.1 f.2.1) (guard_between_w _ x2 c4  r141 hr141) post_val)) ?_
    refine sc (fun _ _ _ f _ hE => px (or_lookupE (kf := vv81) (vf := vv4) (k := r141) (dv := false) ko81 tm75 tzv75 f.1 f.2.1 (MpO.evo (by decide) hE b138_mg1_4) rfl)) ?_
    refine sc (fun _ _ _ f _ _ => px (or_assign f.1)) ?_
    exact steps_nil
  intro own142 a142 w142 hd142 hz142 hk142 hf142 hE142
  have e142_0 := (hk142 0 rfl).trans e138_0
  have e142_5 := (hk142 5 rfl).trans e138_5
  have e142_6 := (hk142 6 rfl).trans e138_6
  have e142_7 := (hk142 7 rfl).trans e138_7
  obtain ⟨(f_90 : a142.eval (.tmp 90) = .bool ((lkM g1.2.2.2.2 r141).getD false)), -⟩ := hf142 [8] rfl
  have e142_90 := f_90
  have hX142 := Evo.step hX138 (fun _ => Nat.le_refl 0) hE142 rfl
  have b142_Ag1_0_0 := RdO.evo rfl hE142 b138_Ag1_0_0
  have b142_mg1_0_1 := MpN.evo rfl hE142 b138_mg1_0_1
  have b142_Ag1_0_2 := RdO.evo rfl hE142 b138_Ag1_0_2
  have b142_gg1_0 := BlkO.evo (by decide) hE142 b138_gg1_0
  have b142_Ag1_1 := RdO.evo rfl hE142 b138_Ag1_1
  have b142_Ag1_2 := RdO.evo rfl hE142 b138_Ag1_2
  have b142_mg1_3 := MpO.evo (by decide) hE142 b138_mg1_3
  have b142_mg1_4 := MpO.evo (by decide) hE142 b138_mg1_4
  have b142_gg1 := BlkO.evo (by decide) hE142 b138_gg1
  have b142_g116 := BlkO.evo (by decide) hE142 b138_g116
  have b142_g118 := BlkO.evo (by decide) hE142 b138_g118
  have b142_g120 := BlkO.evo (by decide) hE142 b138_g120
  refine fl_cond e142_90 hs (fun c143 hs => ?_) (fun c143 hs => ?_)
  · refine rg_plain_seq (n := 155) (rs := []) (own0 := own142) (K := [])
        (bs := [0])
        (ds := [⟨[], [], [], Fct.val 8 (.int .i64 3)⟩]) (by kernel_rfl) hz142 hd142 (fun _ h => nomatch h) ?_ ?_
    · refine sc (fun _ _ _ _ _ _ => px (or_assign rfl)) ?_
      exact steps_nil
    intro own144 a144 w144 hd144 hz144 hk144 hf144 hE144
    obtain ⟨(f_8 : a144.eval (.tmp 8) = .int .i64 3), -⟩ := hf144 [0] rfl
    have e144_8 := f_8
    have hX144 := Evo.step hX142 (fun _ => Nat.le_refl 0) hE144 rfl
    refine fl_ret ?_
    refine hp124 _ _ _ rfl ?_
    refine hp123 _ _ _ rfl ?_
    obtain rfl := osome hs
    exact hret _ _ _ _ (.inl rfl) hd144 (results1_ rfl (RVal.tmp_ e144_8)) ⟨own144, rfl, hX144⟩
  refine fl_skip ?_
  refine hn124 _ _ ?_
  refine hn123 _ _ ?_
  obtain ⟨r147, hr147, hs⟩ := obind hs
  refine rg_plain_seq (n := 155) (rs := []) (own0 := own142) (K := [149])
      (bs := [0, 0, 0, 7, 15, 31, 63, 63, 0, 383, 1023])
      (ds := [⟨[], [5], [], Fct.val 100 (.agg #[.int .i64 x2.1, .int .i64 x2.2])⟩,
      ⟨[], [6], [], Fct.val 101 (.agg #[.int .i64 b3.1, .int .i64 b3.2])⟩,
      ⟨[], [7], [], Fct.val 102 (.agg #[.int .i64 c4.1, .int .i64 c4.2])⟩,
      ⟨[0, 1, 2], [], [], Fct.row 146 [] 103 25 R25 [x2, b3, c4]⟩,
      ⟨[3], [], [], Fct.val 104 (.tuple #[.agg #[.int .i64 r147.1.1.1, .int .i64 r147.1.1.2, .int .i64 r147.1.2.1, .int .i64 r147.1.2.2], .bool r147.2])⟩,
      ⟨[4], [], [], Fct.val 99 (.tuple #[.agg #[.int .i64 r147.1.1.1, .int .i64 r147.1.1.2, .int .i64 r147.1.2.1, .int .i64 r147.1.2.2], .bool r147.2])⟩,
      ⟨[5], [], [], Fct.val 105 (.agg #[.int .i64 r147.1.1.1, .int .i64 r147.1.1.2, .int .i64 r147.1.2.1, .int .i64 r147.1.2.2])⟩,
      ⟨[5], [], [], Fct.val 106 (.bool r147.2)⟩,
      ⟨[], [], [], Fct.blk 149 9 (fun g => .pointer (some ⟨g, 0, none⟩)) 80 #[.int .i64 0, .int .i64 0, .int .i64 0, .int .i64 0]⟩,
      ⟨[8, 6], [], [149], Fct.blk 150 9 (fun g => .pointer (some ⟨g, 0, none⟩)) 80 #[.int .i64 r147.1.1.1, .int .i64 r147.1.1.2, .int .i64 r147.1.2.1, .int .i64 r147.1.2.2]⟩,
      ⟨[7], [], [], Fct.val 10 (.bool r147.2)⟩]) (by kernel_rfl) hz142 hd142 (fun _ h => nomatch h) ?_ ?_
  · refine sc (fun _ _ _ _ s hE => px (or_load (l := [.int .i64 x2.1, .int .i64 x2.2]) ta25 (s.1.trans e142_5) (Blk.cellsFrom (BlkO.evo (by decide) hE b142_g116).2 0 rfl) rfl)) ?_
    refine sc (fun _ _ _ _ s hE => px (or_load (l := [.int .i64 b3.1, .int .i64 b3.2]) ta25 (s.1.trans e142_6) (Blk.cellsFrom (BlkO.evo (by decide) hE b142_g118).2 0 rfl) rfl)) ?_
    refine sc (fun _ _ _ _ s hE => px (or_load (l := [.int .i64 c4.1, .int .i64 c4.2]) ta25 (s.1.trans e142_7) (Blk.cellsFrom (BlkO.evo (by decide) hE b142_g120).2 0 rfl) rfl)) ?_
    refine sc (fun _ _ _ f _ _ => px (or_lit (lab := 146) (e := 25) (cs := #[.int .i64 x2.1, .int .i64 x2.2, .int .i64 b3.1, .int .i64 b3.2, .int .i64 c4.1, .int .i64 c4.2]) (F := E25) (or_new [(100, .agg #[.int .i64 x2.1, .int .i64 x2.2]), (101, .agg #[.int .i64 b3.1, .int .i64 b3.2]), (102, .agg #[.int .i64 c4.1, .int .i64 c4.2])] rfl rfl ⟨f.1, f.2.1, f.2.2.1, trivial⟩ (by kernel_rfl)) rfl rfl (show 3 ≤ maxLen by decide))) ?_
    refine sc (fun own a wx hf hsl hE => ?_) ?_
    · obtain ⟨⟨⟨A145, cA145⟩, (f_103 : a.eval (.tmp 103) = .slice A145 [x2, b3, c4].length cA145), (b_A145 : RwO own 146 [] wx 25 R25 A145 cA145 [x2, b3, c4])⟩, -⟩ := hf
      exact px (or_call cf34 (args1 f_103) (rows_Of_w _ [x2, b3, c4] A145 cA145 (RdO.zero (RwO.rd b_A145)) r147 hr147) post_val)
    refine sc (fun _ _ _ f _ _ => px (or_move f.1)) ?_
    refine sc (fun _ _ _ f _ _ => px (or_k [(99, .tuple #[.agg #[.int .i64 r147.1.1.1, .int .i64 r147.1.1.2, .int .i64 r147.1.2.1, .int .i64 r147.1.2.2], .bool r147.2])] rfl rfl ⟨f.1, trivial⟩ (by kernel_rfl))) ?_
    refine sc (fun _ _ _ f _ _ => px (or_k [(99, .tuple #[.agg #[.int .i64 r147.1.1.1, .int .i64 r147.1.1.2, .int .i64 r147.1.2.1, .int .i64 r147.1.2.2], .bool r147.2])] rfl rfl ⟨f.1, trivial⟩ (by kernel_rfl))) ?_
    refine sc (fun _ _ _ _ _ _ => px (or_new [] rfl rfl trivial (by kernel_rfl))) ?_
    refine sc (fun own a wx hf hsl hE => ?_) ?_
    · obtain ⟨⟨g148, (f_9 : a.eval (.tmp 9) = .pointer (some ⟨g148, 0, none⟩)), (b_g148 : BlkO own 149 wx g148 80 #[.int .i64 0, .int .i64 0, .int .i64 0, .int .i64 0])⟩, (f_105 : a.eval (.tmp 105) = .agg #[.int .i64 r147.1.1.1, .int .i64 r147.1.1.2, .int .i64 r147.1.2.1, .int .i64 r147.1.2.2]), -⟩ := hf
      exact px (or_store (l := #[.int .i64 r147.1.1.1, .int .i64 r147.1.1.2, .int .i64 r147.1.2.1, .int .i64 r147.1.2.2]) (lab := 149) (lab2 := 150) ts80 f_9 f_105 b_g148 (by simp) (by kernel_rfl) (mem_of rfl) (by decide) (by kernel_rfl) (fun own' a' w' ha hb => ⟨_, (ha 9).trans f_9, hb⟩))
    refine sc (fun _ _ _ f _ _ => px (or_assign f.1)) ?_
    exact steps_nil
  intro own151 a151 w151 hd151 hz151 hk151 hf151 hE151
  have e151_0 := (hk151 0 rfl).trans e142_0
  have e151_5 := (hk151 5 rfl).trans e142_5
  have e151_6 := (hk151 6 rfl).trans e142_6
  have e151_7 := (hk151 7 rfl).trans e142_7
  obtain ⟨⟨g148, (f_9 : a151.eval (.tmp 9) = .pointer (some ⟨g148, 0, none⟩)), (b_g148 : BlkO own151 150 w151 g148 80 #[.int .i64 r147.1.1.1, .int .i64 r147.1.1.2, .int .i64 r147.1.2.1, .int .i64 r147.1.2.2])⟩, -⟩ := hf151 [9] rfl
  have e151_9 := f_9
  have hX151 := Evo.step hX142 (fun _ => Nat.le_refl 0) hE151 rfl
  have b151_Ag1_0_0 := RdO.evo rfl hE151 b142_Ag1_0_0
  have b151_mg1_0_1 := MpN.evo rfl hE151 b142_mg1_0_1
  have b151_Ag1_0_2 := RdO.evo rfl hE151 b142_Ag1_0_2
  have b151_gg1_0 := BlkO.evo (by decide) hE151 b142_gg1_0
  have b151_Ag1_1 := RdO.evo rfl hE151 b142_Ag1_1
  have b151_Ag1_2 := RdO.evo rfl hE151 b142_Ag1_2
  have b151_mg1_3 := MpO.evo (by decide) hE151 b142_mg1_3
  have b151_mg1_4 := MpO.evo (by decide) hE151 b142_mg1_4
  have b151_gg1 := BlkO.evo (by decide) hE151 b142_gg1
  have b151_g116 := BlkO.evo (by decide) hE151 b142_g116
  have b151_g118 := BlkO.evo (by decide) hE151 b142_g118
  have b151_g120 := BlkO.evo (by decide) hE151 b142_g120
  have b151_g148 := b_g148
  refine fl_seq (fun Q152 hn152 hp152 => ?_)
  obtain ⟨r153, hr153, hs⟩ := obind hs
  refine rg_draw_seq g_mixed (n := 155) (rs := []) (own0 := own151) (K := [])
      (bs := [0, 1, 3, 7, 15, 0, 63, 127, 0])
      (ds := [⟨[], [0], [], Fct.val 107 (.pointer (some ⟨gg1, 0, none⟩))⟩,
      ⟨[0], [], [], Fct.val 108 (.pointer (some ⟨gg1, 0, none⟩))⟩,
      ⟨[1], [], [], Fct.val 109 (.pointer (some ⟨gg1, 0, none⟩))⟩,
      ⟨[2], [], [], Fct.val 110 (.pointer (some ⟨gg1, 0, none⟩))⟩,
      ⟨[3], [], [], Fct.val 111 (.pointer (some ⟨gg1_0, 0, none⟩))⟩,
      ⟨[], [9], [], Fct.val 112 (.agg #[.int .i64 r147.1.1.1, .int .i64 r147.1.1.2, .int .i64 r147.1.2.1, .int .i64 r147.1.2.2])⟩,
      ⟨[4, 5], [], [], Fct.row 155 [] 113 3 R3 r153⟩,
      ⟨[6], [], [], Fct.val 114 (.int .i64 (r153.length : Int))⟩,
      ⟨[], [], [], Fct.val 115 (.int .i64 0)⟩]) (by kernel_rfl) hz151 hd151 (fun _ h => nomatch h) ?_ ?_
  · refine sc (fun _ _ _ _ s _ => px (or_move (s.1.trans e151_0))) ?_
    refine sc (fun _ _ _ f _ _ => px (or_k [(107, .pointer (some ⟨gg1, 0, none⟩))] rfl rfl ⟨f.1, trivial⟩ (by kernel_rfl))) ?_
    refine sc (fun _ _ _ f _ _ => px (or_field fo77_0 f.1 (by rfl))) ?_
    refine sc (fun _ _ _ f _ _ => px (or_field fo73_0 f.1 (by rfl))) ?_
    refine sc (fun _ _ _ f _ hE => px (or_load1 to70 f.1 (Blk.at_ (BlkO.evo (by decide) hE b151_gg1).2 0 rfl))) ?_
    refine sc (fun _ _ _ _ s hE => px (or_load (l := [.int .i64 r147.1.1.1, .int .i64 r147.1.1.2, .int .i64 r147.1.2.1, .int .i64 r147.1.2.2]) ta80 (s.1.trans e151_9) (Blk.cellsFrom (BlkO.evo (by decide) hE b151_g148).2 0 rfl) rfl)) ?_
    refine sc (fun _ _ _ f _ hE => px (or_call cf35 (args2 f.1 f.2.1) (rows_Index_Find_w _ g1.1 gg1_0 tg1_0 Ag1_0_0 cg1_0_0 mg1_0_1 Ag1_0_2 cg1_0_2 r147.1 (BlkO.zero_ (BlkO.evo (by decide) hE b151_gg1_0)) (RdO.zero (RdO.evo rfl hE b151_Ag1_0_0)) (MpN.zero_ (MpN.evo rfl hE b151_mg1_0_1)) (RdO.zero (RdO.evo rfl hE b151_Ag1_0_2)) r153 hr153) (post_row (m' := (look0 [(1, 155)])) (.inl (Rep.fl_flat _)) rfl rfl (fun _ => rfl)))) ?_
    refine sc (fun own a wx hf hsl hE => ?_) ?_
    · obtain ⟨⟨⟨A154, cA154⟩, (f_113 : a.eval (.tmp 113) = .slice A154 r153.length cA154), (b_A154 : RwO own 155 [] wx 3 R3 A154 cA154 r153)⟩, -⟩ := hf
      exact px (or_len tu22 f_113 rfl)
    refine sc (fun _ _ _ _ _ _ => px (or_move rfl)) ?_
    exact steps_nil
  intro own156 a156 w156 hd156 hz156 hk156 hf156 hE156
  have e156_0 := (hk156 0 rfl).trans e151_0
  have e156_5 := (hk156 5 rfl).trans e151_5
  have e156_6 := (hk156 6 rfl).trans e151_6
  have e156_7 := (hk156 7 rfl).trans e151_7
  obtain ⟨⟨⟨A154, cA154⟩, (f_113 : a156.eval (.tmp 113) = .slice A154 r153.length cA154), (b_A154 : RwO own156 155 [] w156 3 R3 A154 cA154 r153)⟩, (f_114 : a156.eval (.tmp 114) = .int .i64 (r153.length : Int)), (f_115 : a156.eval (.tmp 115) = .int .i64 0), -⟩ := hf156 [6, 7, 8] rfl
  have e156_113 := f_113
  have e156_114 := f_114
  have e156_115 := f_115
  have hX156 := Evo.step hX151 (fun _ => Nat.le_refl 0) hE156 rfl
  have b156_Ag1_0_0 := RdO.evo rfl hE156 b151_Ag1_0_0
  have b156_mg1_0_1 := MpN.evo rfl hE156 b151_mg1_0_1
  have b156_Ag1_0_2 := RdO.evo rfl hE156 b151_Ag1_0_2
  have b156_gg1_0 := BlkO.evo (by decide) hE156 b151_gg1_0
  have b156_Ag1_1 := RdO.evo rfl hE156 b151_Ag1_1
  have b156_Ag1_2 := RdO.evo rfl hE156 b151_Ag1_2
  have b156_mg1_3 := MpO.evo (by decide) hE156 b151_mg1_3
  have b156_mg1_4 := MpO.evo (by decide) hE156 b151_mg1_4
  have b156_gg1 := BlkO.evo (by decide) hE156 b151_gg1
  have b156_g116 := BlkO.evo (by decide) hE156 b151_g116
  have b156_g118 := BlkO.evo (by decide) hE156 b151_g118
  have b156_g120 := BlkO.evo (by decide) hE156 b151_g120
  have b156_A154 := b_A154
  refine fl_block (fun Q157 hn157 hx157 hp157 => ?_)
  refine fl_loop (body := (fun s => guard_Guard_Why_b1 g1 x2 b3 c4 r153 s)) (z := r) (show loopO _ _ = _ from hs) (fun (x178 : Int) a wx => ∃ (ox : Own), a.defers = [] ∧ a.tmps.size = 155 ∧ a.eval (.tmp 0) = .pointer (some ⟨gg1, 0, none⟩) ∧ a.eval (.tmp 5) = .pointer (some ⟨g116, 0, none⟩) ∧ a.eval (.tmp 6) = .pointer (some ⟨g118, 0, none⟩) ∧ a.eval (.tmp 7) = .pointer (some ⟨g120, 0, none⟩) ∧ a.eval (.tmp 113) = .slice A154 r153.length cA154 ∧ a.eval (.tmp 114) = .int .i64 (r153.length : Int) ∧ a.eval (.tmp 115) = .int .i64 x178 ∧ Evo [] (fun _ => 0) ox w wx ∧ BlkO ox 0 wx gg1 tg1 #[.pointer (some ⟨gg1_0, 0, none⟩), .slice Ag1_1 g1.2.1.length cg1_1, .slice Ag1_2 g1.2.2.1.length cg1_2, .map (some mg1_3), .map (some mg1_4)] ∧ BlkO ox 0 wx gg1_0 tg1_0 #[.slice Ag1_0_0 g1.1.1.length cg1_0_0, .map (some mg1_0_1), .slice Ag1_0_2 g1.1.2.2.length cg1_0_2] ∧ RdO ox [0] wx R80 Ag1_0_0 cg1_0_0 g1.1.1 ∧ MpN ox 0 0 [0] wx mg1_0_1 vv111 3 R3 g1.1.2.1 ∧ RdO ox [0] wx R3 Ag1_0_2 cg1_0_2 g1.1.2.2 ∧ RdO ox [0] wx R3 Ag1_1 cg1_1 g1.2.1 ∧ RdO ox [0] wx R25 Ag1_2 cg1_2 g1.2.2.1 ∧ MpO ox 0 wx mg1_3 vv25 vv4 g1.2.2.2.1 ∧ MpO ox 0 wx mg1_4 vv81 vv4 g1.2.2.2.2 ∧ BlkO ox 117 wx g116 25 #[.int .i64 x2.1, .int .i64 x2.2] ∧ BlkO ox 119 wx g118 25 #[.int .i64 b3.1, .int .i64 b3.2] ∧ BlkO ox 121 wx g120 25 #[.int .i64 c4.1, .int .i64 c4.2] ∧ RwO ox 155 [] wx 3 R3 A154 cA154 r153) ?_ ?_
  · exact ⟨own156, hd156, hz156, e156_0, e156_5, e156_6, e156_7, e156_113, e156_114, e156_115, hX156, b156_gg1, b156_gg1_0, b156_Ag1_0_0, b156_mg1_0_1, b156_Ag1_0_2, b156_Ag1_1, b156_Ag1_2, b156_mg1_3, b156_mg1_4, b156_g116, b156_g118, b156_g120, b156_A154⟩
  · rintro x178 zz199 a199 w199 ⟨own199, hd200, hz200, e200_0, e200_5, e200_6, e200_7, e200_113, e200_114, e200_115, hE200, b200_gg1, b200_gg1_0, b200_Ag1_0_0, b200_mg1_0_1, b200_Ag1_0_2, b200_Ag1_1, b200_Ag1_2, b200_mg1_3, b200_mg1_4, b200_g116, b200_g118, b200_g120, b200_A154⟩ hs Q199 hn199 hp199 hz199
    have hs : guard_Guard_Why_b1 g1 x2 b3 c4 r153 x178 = some zz199 := hs
    refine rg_plain_seq (n := 155) (rs := []) (own0 := own199) (K := [])
        (bs := [0])
        (ds := [⟨[], [115, 114], [], Fct.val 116 (.bool (decide (x178 < (r153.length : Int))))⟩]) (by kernel_rfl) hz200 hd200 (fun _ h => nomatch h) ?_ ?_
    · refine sc (fun _ _ _ _ s _ => px (or_lss (s.1.trans e200_115) (s.2.1.trans e200_114) rfl)) ?_
      exact steps_nil
    intro own201 a201 w201 hd201 hz201 hk201 hf201 hE201
    have e201_0 := (hk201 0 rfl).trans e200_0
    have e201_5 := (hk201 5 rfl).trans e200_5
    have e201_6 := (hk201 6 rfl).trans e200_6
    have e201_7 := (hk201 7 rfl).trans e200_7
    have e201_113 := (hk201 113 rfl).trans e200_113
    have e201_114 := (hk201 114 rfl).trans e200_114
    have e201_115 := (hk201 115 rfl).trans e200_115
    obtain ⟨(f_116 : a201.eval (.tmp 116) = .bool (decide (x178 < (r153.length : Int)))), -⟩ := hf201 [0] rfl
    have e201_116 := f_116
    have hX201 := Evo.step hE200 (fun _ => Nat.le_refl 0) hE201 rfl
    have b201_gg1 := BlkO.evo (by decide) hE201 b200_gg1
    have b201_gg1_0 := BlkO.evo (by decide) hE201 b200_gg1_0
    have b201_Ag1_0_0 := RdO.evo rfl hE201 b200_Ag1_0_0
    have b201_mg1_0_1 := MpN.evo rfl hE201 b200_mg1_0_1
    have b201_Ag1_0_2 := RdO.evo rfl hE201 b200_Ag1_0_2
    have b201_Ag1_1 := RdO.evo rfl hE201 b200_Ag1_1
    have b201_Ag1_2 := RdO.evo rfl hE201 b200_Ag1_2
    have b201_mg1_3 := MpO.evo (by decide) hE201 b200_mg1_3
    have b201_mg1_4 := MpO.evo (by decide) hE201 b200_mg1_4
    have b201_g116 := BlkO.evo (by decide) hE201 b200_g116
    have b201_g118 := BlkO.evo (by decide) hE201 b200_g118
    have b201_g120 := BlkO.evo (by decide) hE201 b200_g120
    have b201_A154 := RwO.evo rfl hE201 b200_A154
    refine fl_seq (fun Q202 hn202 hp202 => ?_)
    refine fl_cond e201_116 hs (fun c203 hs => ?_) (fun c203 hs => ?_)
    · refine fl_skip ?_
      refine hn202 _ _ ?_
      refine fl_seq (fun Q204 hn204 hp204 => ?_)
      refine fl_block (fun Q205 hn205 hx205 hp205 => ?_)
      obtain ⟨x206, hx206, hs⟩ := obind hs
      refine rg_plain_seq (n := 155) (rs := []) (own0 := own201) (K := [])
          (bs := [0, 1, 3])
          (ds := [⟨[], [113, 115], [], Fct.val 117 (.pointer (some ((adr A154).add ((x178 : Int).toNat * R3.s))))⟩,
          ⟨[0], [], [], Fct.val 118 (.int .i64 x206)⟩,
          ⟨[1], [], [], Fct.val 12 (.int .i64 x206)⟩]) (by kernel_rfl) hz201 hd201 (fun _ h => nomatch h) ?_ ?_
      · refine sc (fun _ _ _ _ s _ => px (or_index (R := R3) (l := r153) tl22 (s.1.trans e201_113) (s.2.1.trans e201_115) (RdO.some_ (RwO.rd b201_A154) hx206) hx206)) ?_
        refine sc (fun _ _ _ f _ hE => px (or_load1 to3 f.1 (CellsAt.zero (RdO.cells (F := E3) (RwO.rd (RwO.evo rfl hE b201_A154)) hx206) rfl))) ?_
        refine sc (fun _ _ _ f _ _ => px (or_assign f.1)) ?_
        exact steps_nil
      intro own207 a207 w207 hd207 hz207 hk207 hf207 hE207
      have e207_0 := (hk207 0 rfl).trans e201_0
      have e207_5 := (hk207 5 rfl).trans e201_5
      have e207_6 := (hk207 6 rfl).trans e201_6
      have e207_7 := (hk207 7 rfl).trans e201_7
      have e207_113 := (hk207 113 rfl).trans e201_113
      have e207_114 := (hk207 114 rfl).trans e201_114
      have e207_115 := (hk207 115 rfl).trans e201_115
      obtain ⟨(f_12 : a207.eval (.tmp 12) = .int .i64 x206), -⟩ := hf207 [2] rfl
      have e207_12 := f_12
      have hX207 := Evo.step hX201 (fun _ => Nat.le_refl 0) hE207 rfl
      have b207_gg1 := BlkO.evo (by decide) hE207 b201_gg1
      have b207_gg1_0 := BlkO.evo (by decide) hE207 b201_gg1_0
      have b207_Ag1_0_0 := RdO.evo rfl hE207 b201_Ag1_0_0
      have b207_mg1_0_1 := MpN.evo rfl hE207 b201_mg1_0_1
      have b207_Ag1_0_2 := RdO.evo rfl hE207 b201_Ag1_0_2
      have b207_Ag1_1 := RdO.evo rfl hE207 b201_Ag1_1
      have b207_Ag1_2 := RdO.evo rfl hE207 b201_Ag1_2
      have b207_mg1_3 := MpO.evo (by decide) hE207 b201_mg1_3
      have b207_mg1_4 := MpO.evo (by decide) hE207 b201_mg1_4
      have b207_g116 := BlkO.evo (by decide) hE207 b201_g116
      have b207_g118 := BlkO.evo (by decide) hE207 b201_g118
      have b207_g120 := BlkO.evo (by decide) hE207 b201_g120
      have b207_A154 := RwO.evo rfl hE207 b201_A154
      obtain ⟨x208, hx208, hs⟩ := obind hs
      refine rg_plain_seq (n := 155) (rs := []) (own0 := own207) (K := [210])
          (bs := [0, 1, 3, 7, 0, 31, 63, 0, 255])
          (ds := [⟨[], [0], [], Fct.val 119 (.pointer (some ⟨gg1, 0, none⟩))⟩,
          ⟨[0], [], [], Fct.val 120 (.pointer (some ⟨gg1, 0, none⟩))⟩,
          ⟨[1], [], [], Fct.val 121 (.pointer (some ⟨gg1, 2, none⟩))⟩,
          ⟨[2], [], [], Fct.val 122 (.slice Ag1_2 g1.2.2.1.length cg1_2)⟩,
          ⟨[], [12], [], Fct.val 123 (.int .i64 x206)⟩,
          ⟨[3, 4], [], [], Fct.val 124 (.pointer (some ((adr Ag1_2).add ((x206 : Int).toNat * R25.s))))⟩,
          ⟨[5], [], [], Fct.val 125 (.agg #[.int .i64 x208.1, .int .i64 x208.2])⟩,
          ⟨[], [], [], Fct.blk 210 13 (fun g => .pointer (some ⟨g, 0, none⟩)) 25 #[.int .i64 0, .int .i64 0]⟩,
          ⟨[7, 6], [], [210], Fct.blk 211 13 (fun g => .pointer (some ⟨g, 0, none⟩)) 25 #[.int .i64 x208.1, .int .i64 x208.2]⟩]) (by kernel_rfl) hz207 hd207 (fun _ h => nomatch h) ?_ ?_
      · refine sc (fun _ _ _ _ s _ => px (or_move (s.1.trans e207_0))) ?_
        refine sc (fun _ _ _ f _ _ => px (or_k [(119, .pointer (some ⟨gg1, 0, none⟩))] rfl rfl ⟨f.1, trivial⟩ (by kernel_rfl))) ?_
        refine sc (fun _ _ _ f _ _ => px (or_field fo77_2 f.1 (by rfl))) ?_
        refine sc (fun _ _ _ f _ hE => px (or_load1 to55 f.1 (Blk.at_ (BlkO.evo (by decide) hE b207_gg1).2 2 rfl))) ?_
        refine sc (fun _ _ _ _ s _ => px (or_move (s.1.trans e207_12))) ?_
        refine sc (fun _ _ _ f _ _ => px (or_index (R := R25) (l := g1.2.2.1) tl55 f.1 f.2.1 (RdO.some_ b207_Ag1_2 hx208) hx208)) ?_
        refine sc (fun _ _ _ f _ hE => px (or_load (l := E25.f x208) ta25 f.1 (RdO.cells (F := E25) (RdO.evo rfl hE b207_Ag1_2) hx208) rfl)) ?_
        refine sc (fun _ _ _ _ _ _ => px (or_new [] rfl rfl trivial (by kernel_rfl))) ?_
        refine sc (fun own a wx hf hsl hE => ?_) ?_
        · obtain ⟨⟨g209, (f_13 : a.eval (.tmp 13) = .pointer (some ⟨g209, 0, none⟩)), (b_g209 : BlkO own 210 wx g209 25 #[.int .i64 0, .int .i64 0])⟩, (f_125 : a.eval (.tmp 125) = .agg #[.int .i64 x208.1, .int .i64 x208.2]), -⟩ := hf
          exact px (or_store (l := #[.int .i64 x208.1, .int .i64 x208.2]) (lab := 210) (lab2 := 211) ts25 f_13 f_125 b_g209 (by simp) (by kernel_rfl) (mem_of rfl) (by decide) (by kernel_rfl) (fun own' a' w' ha hb => ⟨_, (ha 13).trans f_13, hb⟩))
        exact steps_nil
      intro own212 a212 w212 hd212 hz212 hk212 hf212 hE212
      have e212_0 := (hk212 0 rfl).trans e207_0
      have e212_5 := (hk212 5 rfl).trans e207_5
      have e212_6 := (hk212 6 rfl).trans e207_6
      have e212_7 := (hk212 7 rfl).trans e207_7
      have e212_113 := (hk212 113 rfl).trans e207_113
      have e212_114 := (hk212 114 rfl).trans e207_114
      have e212_115 := (hk212 115 rfl).trans e207_115
      obtain ⟨⟨g209, (f_13 : a212.eval (.tmp 13) = .pointer (some ⟨g209, 0, none⟩)), (b_g209 : BlkO own212 211 w212 g209 25 #[.int .i64 x208.1, .int .i64 x208.2])⟩, -⟩ := hf212 [8] rfl
      have e212_13 := f_13
      have hX212 := Evo.step hX207 (fun _ => Nat.le_refl 0) hE212 rfl
      have b212_gg1 := BlkO.evo (by decide) hE212 b207_gg1
      have b212_gg1_0 := BlkO.evo (by decide) hE212 b207_gg1_0
      have b212_Ag1_0_0 := RdO.evo rfl hE212 b207_Ag1_0_0
      have b212_mg1_0_1 := MpN.evo rfl hE212 b207_mg1_0_1
      have b212_Ag1_0_2 := RdO.evo rfl hE212 b207_Ag1_0_2
      have b212_Ag1_1 := RdO.evo rfl hE212 b207_Ag1_1
      have b212_Ag1_2 := RdO.evo rfl hE212 b207_Ag1_2
      have b212_mg1_3 := MpO.evo (by decide) hE212 b207_mg1_3
      have b212_mg1_4 := MpO.evo (by decide) hE212 b207_mg1_4
      have b212_g116 := BlkO.evo (by decide) hE212 b207_g116
      have b212_g118 := BlkO.evo (by decide) hE212 b207_g118
      have b212_g120 := BlkO.evo (by decide) hE212 b207_g120
      have b212_A154 := RwO.evo rfl hE212 b207_A154
      have b212_g209 := b_g209
      obtain ⟨x213, hx213, hs⟩ := obind hs
      obtain ⟨x214, hx214, hs⟩ := obind hs
      obtain ⟨r215, hr215, hs⟩ := obind hs
      refine rg_draw_seq g_mixed (n := 155) (rs := []) (own0 := own212) (K := [])
          (bs := [0, 0, 3, 7, 15, 15, 63, 127, 255, 511, 511, 2047, 4095, 8191, 16383, 32767, 65535, 131071, 16383, 524287, 1048575, 2097151, 4194303, 4194303, 4194303, 4194303, 67108863, 134217727])
          (ds := [⟨[], [13], [], Fct.val 126 (.agg #[.int .i64 x208.1, .int .i64 x208.2])⟩,
          ⟨[], [5], [], Fct.val 127 (.agg #[.int .i64 x2.1, .int .i64 x2.2])⟩,
          ⟨[0, 1], [], [], Fct.val 128 (.bool (!decide (x208 = x2)))⟩,
          ⟨[2], [], [], Fct.val 129 (.bool (!decide (x208 = x2)))⟩,
          ⟨[3], [13], [], Fct.cond (!decide (x208 = x2)) (some 130) (Fct.val 130 (.agg #[.int .i64 x208.1, .int .i64 x208.2]))⟩,
          ⟨[3], [6], [], Fct.cond (!decide (x208 = x2)) (some 131) (Fct.val 131 (.agg #[.int .i64 b3.1, .int .i64 b3.2]))⟩,
          ⟨[3, 4, 5], [], [], Fct.cond (!decide (x208 = x2)) (some 132) (Fct.val 132 (.bool (!decide (x208 = b3))))⟩,
          ⟨[3, 6], [], [], Fct.val 133 (.bool x213)⟩,
          ⟨[7], [], [], Fct.val 134 (.bool x213)⟩,
          ⟨[8], [13], [], Fct.cond x213 (some 135) (Fct.val 135 (.agg #[.int .i64 x208.1, .int .i64 x208.2]))⟩,
          ⟨[8], [7], [], Fct.cond x213 (some 136) (Fct.val 136 (.agg #[.int .i64 c4.1, .int .i64 c4.2]))⟩,
          ⟨[8, 9, 10], [], [], Fct.cond x213 (some 137) (Fct.val 137 (.bool (!decide (x208 = c4))))⟩,
          ⟨[8, 11], [], [], Fct.val 138 (.bool (x213 && (!decide (x208 = c4))))⟩,
          ⟨[12], [], [], Fct.val 139 (.bool (x213 && (!decide (x208 = c4))))⟩,
          ⟨[13], [0], [], Fct.cond (x213 && (!decide (x208 = c4))) (some 140) (Fct.val 140 (.pointer (some ⟨gg1, 0, none⟩)))⟩,
          ⟨[13, 14], [], [], Fct.cond (x213 && (!decide (x208 = c4))) (some 141) (Fct.val 141 (.pointer (some ⟨gg1, 0, none⟩)))⟩,
          ⟨[13, 15], [], [], Fct.cond (x213 && (!decide (x208 = c4))) (some 142) (Fct.val 142 (.pointer (some ⟨gg1, 3, none⟩)))⟩,
          ⟨[13, 16], [], [], Fct.cond (x213 && (!decide (x208 = c4))) (some 143) (Fct.val 143 (.map (some mg1_3)))⟩,
          ⟨[13], [13], [], Fct.cond (x213 && (!decide (x208 = c4))) (some 144) (Fct.val 144 (.agg #[.int .i64 x208.1, .int .i64 x208.2]))⟩,
          ⟨[13, 17, 18], [], [], Fct.cond (x213 && (!decide (x208 = c4))) (some 145) (Fct.val 145 (.bool ((lkM g1.2.2.2.1 x208).getD false)))⟩,
          ⟨[13, 19], [], [], Fct.val 146 (.bool x214)⟩,
          ⟨[20], [], [], Fct.val 147 (.bool x214)⟩,
          ⟨[21], [5], [], Fct.cond x214 (some 148) (Fct.val 148 (.agg #[.int .i64 x2.1, .int .i64 x2.2]))⟩,
          ⟨[21], [6], [], Fct.cond x214 (some 149) (Fct.val 149 (.agg #[.int .i64 b3.1, .int .i64 b3.2]))⟩,
          ⟨[21], [7], [], Fct.cond x214 (some 150) (Fct.val 150 (.agg #[.int .i64 c4.1, .int .i64 c4.2]))⟩,
          ⟨[21], [13], [], Fct.cond x214 (some 151) (Fct.val 151 (.agg #[.int .i64 x208.1, .int .i64 x208.2]))⟩,
          ⟨[21, 22, 23, 24, 25], [], [], Fct.cond x214 (some 152) (Fct.val 152 (.bool r215))⟩,
          ⟨[21, 26], [], [], Fct.val 153 (.bool (x214 && r215))⟩]) (by kernel_rfl) hz212 hd212 (fun _ h => nomatch h) ?_ ?_
      · refine sc (fun _ _ _ _ s hE => px (or_load (l := [.int .i64 x208.1, .int .i64 x208.2]) ta25 (s.1.trans e212_13) (Blk.cellsFrom (BlkO.evo (by decide) hE b212_g209).2 0 rfl) rfl)) ?_
        refine sc (fun _ _ _ _ s hE => px (or_load (l := [.int .i64 x2.1, .int .i64 x2.2]) ta25 (s.1.trans e212_5) (Blk.cellsFrom (BlkO.evo (by decide) hE b212_g116).2 0 rfl) rfl)) ?_
        refine sc (fun _ _ _ f _ _ => px (or_neqA sg25 f.1 f.2.1 (sn25 x208.1 x208.2 x2.1 x2.2 _) rfl)) ?_
        refine sc (fun _ _ _ f _ _ => px (or_move f.1)) ?_
        refine sc (fun own a wx hf hsl hE => ?_) ?_
        · obtain ⟨(f_129 : a.eval (.tmp 129) = .bool (!decide (x208 = x2))), -⟩ := hf
          obtain ⟨s_13, -⟩ := hsl
          refine sg_t rfl rfl rfl f_129 (fun hg => ?_)
          exact or_load (l := [.int .i64 x208.1, .int .i64 x208.2]) ta25 (s_13.trans e212_13) (Blk.cellsFrom (BlkO.evo (by decide) hE b212_g209).2 0 rfl) rfl
        refine sc (fun own a wx hf hsl hE => ?_) ?_
        · obtain ⟨(f_129 : a.eval (.tmp 129) = .bool (!decide (x208 = x2))), -⟩ := hf
          obtain ⟨s_6, -⟩ := hsl
          refine sg_t rfl rfl rfl f_129 (fun hg => ?_)
          exact or_load (l := [.int .i64 b3.1, .int .i64 b3.2]) ta25 (s_6.trans e212_6) (Blk.cellsFrom (BlkO.evo (by decide) hE b212_g118).2 0 rfl) rfl
        refine sc (fun own a wx hf hsl hE => ?_) ?_
        · obtain ⟨(f_129 : a.eval (.tmp 129) = .bool (!decide (x208 = x2))), c_130, c_131, -⟩ := hf
          refine sg_t rfl rfl rfl f_129 (fun hg => ?_)
          have f_130 : a.eval (.tmp 130) = .agg #[.int .i64 x208.1, .int .i64 x208.2] := c_130.1 hg
          have f_131 : a.eval (.tmp 131) = .agg #[.int .i64 b3.1, .int .i64 b3.2] := c_131.1 hg
          exact or_neqA sg25 f_130 f_131 (sn25 x208.1 x208.2 b3.1 b3.2 _) rfl
        refine sc (fun own a wx hf hsl hE => ?_) ?_
        · obtain ⟨(f_129 : a.eval (.tmp 129) = .bool (!decide (x208 = x2))), c_132, -⟩ := hf
          exact px (or_and f_129 (fun hx => c_132.1 hx) rfl (osome hx213).symm)
        refine sc (fun _ _ _ f _ _ => px (or_move f.1)) ?_
        refine sc (fun own a wx hf hsl hE => ?_) ?_
        · obtain ⟨(f_134 : a.eval (.tmp 134) = .bool x213), -⟩ := hf
          obtain ⟨s_13, -⟩ := hsl
          refine sg_t rfl rfl rfl f_134 (fun hg => ?_)
          exact or_load (l := [.int .i64 x208.1, .int .i64 x208.2]) ta25 (s_13.trans e212_13) (Blk.cellsFrom (BlkO.evo (by decide) hE b212_g209).2 0 rfl) rfl
        refine sc (fun own a wx hf hsl hE => ?_) ?_
        · obtain ⟨(f_134 : a.eval (.tmp 134) = .bool x213), -⟩ := hf
          obtain ⟨s_7, -⟩ := hsl
          refine sg_t rfl rfl rfl f_134 (fun hg => ?_)
          exact or_load (l := [.int .i64 c4.1, .int .i64 c4.2]) ta25 (s_7.trans e212_7) (Blk.cellsFrom (BlkO.evo (by decide) hE b212_g120).2 0 rfl) rfl
        refine sc (fun own a wx hf hsl hE => ?_) ?_
        · obtain ⟨(f_134 : a.eval (.tmp 134) = .bool x213), c_135, c_136, -⟩ := hf
          refine sg_t rfl rfl rfl f_134 (fun hg => ?_)
          have f_135 : a.eval (.tmp 135) = .agg #[.int .i64 x208.1, .int .i64 x208.2] := c_135.1 hg
          have f_136 : a.eval (.tmp 136) = .agg #[.int .i64 c4.1, .int .i64 c4.2] := c_136.1 hg
          exact or_neqA sg25 f_135 f_136 (sn25 x208.1 x208.2 c4.1 c4.2 _) rfl
        refine sc (fun own a wx hf hsl hE => ?_) ?_
        · obtain ⟨(f_134 : a.eval (.tmp 134) = .bool x213), c_137, -⟩ := hf
          exact px (or_and f_134 (fun hx => c_137.1 hx) rfl rfl)
        refine sc (fun _ _ _ f _ _ => px (or_move f.1)) ?_
        refine sc (fun own a wx hf hsl hE => ?_) ?_
        · obtain ⟨(f_139 : a.eval (.tmp 139) = .bool (x213 && (!decide (x208 = c4)))), -⟩ := hf
          obtain ⟨s_0, -⟩ := hsl
          refine sg_t rfl rfl rfl f_139 (fun hg => ?_)
          exact or_move (s_0.trans e212_0)
        refine sc (fun own a wx hf hsl hE => ?_) ?_
        · obtain ⟨(f_139 : a.eval (.tmp 139) = .bool (x213 && (!decide (x208 = c4)))), c_140, -⟩ := hf
          refine sg_t rfl rfl rfl f_139 (fun hg => ?_)
          have f_140 : a.eval (.tmp 140) = .pointer (some ⟨gg1, 0, none⟩) := c_140.1 hg
          exact or_k [(140, .pointer (some ⟨gg1, 0, none⟩))] rfl rfl ⟨f_140, trivial⟩ (by kernel_rfl)
        refine sc (fun own a wx hf hsl hE => ?_) ?_
        · obtain ⟨(f_139 : a.eval (.tmp 139) = .bool (x213 && (!decide (x208 = c4)))), c_141, -⟩ := hf
          refine sg_t rfl rfl rfl f_139 (fun hg => ?_)
          have f_141 : a.eval (.tmp 141) = .pointer (some ⟨gg1, 0, none⟩) := c_141.1 hg
          exact or_field fo77_3 f_141 (by rfl)
        refine sc (fun own a wx hf hsl hE => ?_) ?_
        · obtain ⟨(f_139 : a.eval (.tmp 139) = .bool (x213 && (!decide (x208 = c4)))), c_142, -⟩ := hf
          refine sg_t rfl rfl rfl f_139 (fun hg => ?_)
          have f_142 : a.eval (.tmp 142) = .pointer (some ⟨gg1, 3, none⟩) := c_142.1 hg
          exact or_load1 to74 f_142 (Blk.at_ (BlkO.evo (by decide) hE b212_gg1).2 3 rfl)
        refine sc (fun own a wx hf hsl hE => ?_) ?_
        · obtain ⟨(f_139 : a.eval (.tmp 139) = .bool (x213 && (!decide (x208 = c4)))), -⟩ := hf
          obtain ⟨s_13, -⟩ := hsl
          refine sg_t rfl rfl rfl f_139 (fun hg => ?_)
          exact or_load (l := [.int .i64 x208.1, .int .i64 x208.2]) ta25 (s_13.trans e212_13) (Blk.cellsFrom (BlkO.evo (by decide) hE b212_g209).2 0 rfl) rfl
        refine sc (fun own a wx hf hsl hE => ?_) ?_
        · obtain ⟨(f_139 : a.eval (.tmp 139) = .bool (x213 && (!decide (x208 = c4)))), c_143, c_144, -⟩ := hf
          refine sg_t rfl rfl rfl f_139 (fun hg => ?_)
          have f_143 : a.eval (.tmp 143) = .map (some mg1_3) := c_143.1 hg
          have f_144 : a.eval (.tmp 144) = .agg #[.int .i64 x208.1, .int .i64 x208.2] := c_144.1 hg
          exact or_lookupE (kf := vv25) (vf := vv4) (k := x208) (dv := false) ko25 tm74 tzv74 f_143 f_144 (MpO.evo (by decide) hE b212_mg1_3) rfl
        refine sc (fun own a wx hf hsl hE => ?_) ?_
        · obtain ⟨(f_139 : a.eval (.tmp 139) = .bool (x213 && (!decide (x208 = c4)))), c_145, -⟩ := hf
          exact px (or_and f_139 (fun hx => c_145.1 hx) rfl (osome hx214).symm)
        refine sc (fun _ _ _ f _ _ => px (or_move f.1)) ?_
        refine sc (fun own a wx hf hsl hE => ?_) ?_
        · obtain ⟨(f_147 : a.eval (.tmp 147) = .bool x214), -⟩ := hf
          obtain ⟨s_5, -⟩ := hsl
          refine sg_t rfl rfl rfl f_147 (fun hg => ?_)
          exact or_load (l := [.int .i64 x2.1, .int .i64 x2.2]) ta25 (s_5.trans e212_5) (Blk.cellsFrom (BlkO.evo (by decide) hE b212_g116).2 0 rfl) rfl
        refine sc (fun own a wx hf hsl hE => ?_) ?_
        · obtain ⟨(f_147 : a.eval (.tmp 147) = .bool x214), -⟩ := hf
          obtain ⟨s_6, -⟩ := hsl
          refine sg_t rfl rfl rfl f_147 (fun hg => ?_)
          exact or_load (l := [.int .i64 b3.1, .int .i64 b3.2]) ta25 (s_6.trans e212_6) (Blk.cellsFrom (BlkO.evo (by decide) hE b212_g118).2 0 rfl) rfl
        refine sc (fun own a wx hf hsl hE => ?_) ?_
        · obtain ⟨(f_147 : a.eval (.tmp 147) = .bool x214), -⟩ := hf
          obtain ⟨s_7, -⟩ := hsl
          refine sg_t rfl rfl rfl f_147 (fun hg => ?_)
          exact or_load (l := [.int .i64 c4.1, .int .i64 c4.2]) ta25 (s_7.trans e212_7) (Blk.cellsFrom (BlkO.evo (by decide) hE b212_g120).2 0 rfl) rfl
        refine sc (fun own a wx hf hsl hE => ?_) ?_
        · obtain ⟨(f_147 : a.eval (.tmp 147) = .bool x214), -⟩ := hf
          obtain ⟨s_13, -⟩ := hsl
          refine sg_t rfl rfl rfl f_147 (fun hg => ?_)
          exact or_load (l := [.int .i64 x208.1, .int .i64 x208.2]) ta25 (s_13.trans e212_13) (Blk.cellsFrom (BlkO.evo (by decide) hE b212_g209).2 0 rfl) rfl
        refine sc (fun own a wx hf hsl hE => ?_) ?_
        · obtain ⟨(f_147 : a.eval (.tmp 147) = .bool x214), c_148, c_149, c_150, c_151, -⟩ := hf
          refine sg_t rfl rfl rfl f_147 (fun hg => ?_)
          have f_148 : a.eval (.tmp 148) = .agg #[.int .i64 x2.1, .int .i64 x2.2] := c_148.1 hg
          have f_149 : a.eval (.tmp 149) = .agg #[.int .i64 b3.1, .int .i64 b3.2] := c_149.1 hg
          have f_150 : a.eval (.tmp 150) = .agg #[.int .i64 c4.1, .int .i64 c4.2] := c_150.1 hg
          have f_151 : a.eval (.tmp 151) = .agg #[.int .i64 x208.1, .int .i64 x208.2] := c_151.1 hg
          exact or_call cf36 (args4 f_148 f_149 f_150 f_151) (exact_InTriangle_w _ x2 b3 c4 x208  r215 (gd_t hr215 hg)) post_val
        refine sc (fun own a wx hf hsl hE => ?_) ?_
        · obtain ⟨(f_147 : a.eval (.tmp 147) = .bool x214), c_152, -⟩ := hf
          exact px (or_and f_147 (fun hx => c_152.1 hx) rfl rfl)
        exact steps_nil
      intro own216 a216 w216 hd216 hz216 hk216 hf216 hE216
      have e216_0 := (hk216 0 rfl).trans e212_0
      have e216_5 := (hk216 5 rfl).trans e212_5
      have e216_6 := (hk216 6 rfl).trans e212_6
      have e216_7 := (hk216 7 rfl).trans e212_7
      have e216_113 := (hk216 113 rfl).trans e212_113
      have e216_114 := (hk216 114 rfl).trans e212_114
      have e216_115 := (hk216 115 rfl).trans e212_115
      obtain ⟨(f_153 : a216.eval (.tmp 153) = .bool (x214 && r215)), -⟩ := hf216 [27] rfl
      have e216_153 := f_153
      have hX216 := Evo.step hX212 (fun _ => Nat.le_refl 0) hE216 rfl
      have b216_gg1 := BlkO.evo (by decide) hE216 b212_gg1
      have b216_gg1_0 := BlkO.evo (by decide) hE216 b212_gg1_0
      have b216_Ag1_0_0 := RdO.evo rfl hE216 b212_Ag1_0_0
      have b216_mg1_0_1 := MpN.evo rfl hE216 b212_mg1_0_1
      have b216_Ag1_0_2 := RdO.evo rfl hE216 b212_Ag1_0_2
      have b216_Ag1_1 := RdO.evo rfl hE216 b212_Ag1_1
      have b216_Ag1_2 := RdO.evo rfl hE216 b212_Ag1_2
      have b216_mg1_3 := MpO.evo (by decide) hE216 b212_mg1_3
      have b216_mg1_4 := MpO.evo (by decide) hE216 b212_mg1_4
      have b216_g116 := BlkO.evo (by decide) hE216 b212_g116
      have b216_g118 := BlkO.evo (by decide) hE216 b212_g118
      have b216_g120 := BlkO.evo (by decide) hE216 b212_g120
      have b216_A154 := RwO.evo rfl hE216 b212_A154
      refine fl_cond e216_153 hs (fun c217 hs => ?_) (fun c217 hs => ?_)
      · refine rg_plain_seq (n := 155) (rs := []) (own0 := own216) (K := [])
            (bs := [0])
            (ds := [⟨[], [], [], Fct.val 8 (.int .i64 4)⟩]) (by kernel_rfl) hz216 hd216 (fun _ h => nomatch h) ?_ ?_
        · refine sc (fun _ _ _ _ _ _ => px (or_assign rfl)) ?_
          exact steps_nil
        intro own218 a218 w218 hd218 hz218 hk218 hf218 hE218
        obtain ⟨(f_8 : a218.eval (.tmp 8) = .int .i64 4), -⟩ := hf218 [0] rfl
        have e218_8 := f_8
        have hX218 := Evo.step hX216 (fun _ => Nat.le_refl 0) hE218 rfl
        refine fl_ret ?_
        refine hp205 _ _ _ rfl ?_
        refine hp204 _ _ _ rfl ?_
        replace hs := hz199 _ hs
        refine hp199 _ _ _ rfl ?_
        refine hp157 _ _ _ rfl ?_
        refine hp152 _ _ _ rfl ?_
        obtain rfl := osome hs
        exact hret _ _ _ _ (.inl rfl) hd218 (results1_ rfl (RVal.tmp_ e218_8)) ⟨own218, rfl, hX218⟩
      refine fl_skip ?_
      refine hn205 _ _ ?_
      refine hn204 _ _ ?_
      refine rg_plain (n := 155) (rs := []) (own0 := own216) (K := [])
          (bs := [0, 1])
          (ds := [⟨[], [115], [], Fct.val 154 (.int .i64 (ad x178 1))⟩,
          ⟨[0], [], [], Fct.val 115 (.int .i64 (ad x178 1))⟩]) (by kernel_rfl) hz216 hd216 (fun _ h => nomatch h) ?_ ?_
      · refine sc (fun _ _ _ _ s _ => px (or_add (s.1.trans e216_115) rfl rfl)) ?_
        refine sc (fun _ _ _ f _ _ => px (or_move f.1)) ?_
        exact steps_nil
      intro own219 a219 w219 hd219 hz219 hk219 hf219 hE219
      have e219_0 := (hk219 0 rfl).trans e216_0
      have e219_5 := (hk219 5 rfl).trans e216_5
      have e219_6 := (hk219 6 rfl).trans e216_6
      have e219_7 := (hk219 7 rfl).trans e216_7
      have e219_113 := (hk219 113 rfl).trans e216_113
      have e219_114 := (hk219 114 rfl).trans e216_114
      obtain ⟨(f_115 : a219.eval (.tmp 115) = .int .i64 (ad x178 1)), -⟩ := hf219 [1] rfl
      have e219_115 := f_115
      have hX219 := Evo.step hX216 (fun _ => Nat.le_refl 0) hE219 rfl
      have b219_gg1 := BlkO.evo (by decide) hE219 b216_gg1
      have b219_gg1_0 := BlkO.evo (by decide) hE219 b216_gg1_0
      have b219_Ag1_0_0 := RdO.evo rfl hE219 b216_Ag1_0_0
      have b219_mg1_0_1 := MpN.evo rfl hE219 b216_mg1_0_1
      have b219_Ag1_0_2 := RdO.evo rfl hE219 b216_Ag1_0_2
      have b219_Ag1_1 := RdO.evo rfl hE219 b216_Ag1_1
      have b219_Ag1_2 := RdO.evo rfl hE219 b216_Ag1_2
      have b219_mg1_3 := MpO.evo (by decide) hE219 b216_mg1_3
      have b219_mg1_4 := MpO.evo (by decide) hE219 b216_mg1_4
      have b219_g116 := BlkO.evo (by decide) hE219 b216_g116
      have b219_g118 := BlkO.evo (by decide) hE219 b216_g118
      have b219_g120 := BlkO.evo (by decide) hE219 b216_g120
      have b219_A154 := RwO.evo rfl hE219 b216_A154
      exact hn199 _ _ _ hs ⟨own219, hd219, hz219, e219_0, e219_5, e219_6, e219_7, e219_113, e219_114, e219_115, hX219, b219_gg1, b219_gg1_0, b219_Ag1_0_0, b219_mg1_0_1, b219_Ag1_0_2, b219_Ag1_1, b219_Ag1_2, b219_mg1_3, b219_mg1_4, b219_g116, b219_g118, b219_g120, b219_A154⟩
    refine fl_exit ?_
    refine hp202 _ _ _ rfl ?_
    replace hs := hz199 _ hs
    refine hp199 _ _ _ rfl ?_
    refine hx157 _ _ ?_
    refine hn152 _ _ ?_
    refine rg_plain_seq (n := 155) (rs := []) (own0 := own201) (K := [])
        (bs := [0])
        (ds := [⟨[], [], [], Fct.val 8 (.int .i64 0)⟩]) (by kernel_rfl) hz201 hd201 (fun _ h => nomatch h) ?_ ?_
    · refine sc (fun _ _ _ _ _ _ => px (or_assign rfl)) ?_
      exact steps_nil
    intro own220 a220 w220 hd220 hz220 hk220 hf220 hE220
    obtain ⟨(f_8 : a220.eval (.tmp 8) = .int .i64 0), -⟩ := hf220 [0] rfl
    have e220_8 := f_8
    have hX220 := Evo.step hX201 (fun _ => Nat.le_refl 0) hE220 rfl
    refine fl_ret ?_
    obtain rfl := osome hs
    exact hret _ _ _ _ (.inl rfl) hd220 (results1_ rfl (RVal.tmp_ e220_8)) ⟨own220, rfl, hX220⟩
end Go.Proofs.Ytoccfdohlefifaa
