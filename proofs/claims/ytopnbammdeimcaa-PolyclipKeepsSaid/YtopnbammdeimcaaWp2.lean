import Derived.Test.YtopnbammdeimcaaWp1
import Derived.Test.YtopnbammdeimcaaSp2
namespace Go.Proofs.Ytopnbammdeimcaa
open Go.RowKit
set_option linter.unusedVariables false
set_option maxRecDepth 10000
theorem rows_Right_w (w : World) (b1 : (Int × Int) × (Int × Int)) (r : Bool) (hs : rows_Right b1 = some r) :
    Calls Try.prog 14 #[.agg #[.int .i64 b1.1.1, .int .i64 b1.1.2, .int .i64 b1.2.1, .int .i64 b1.2.2]] w fun e w' => ∃ own' : Own, e = .returned (.bool r) ∧ Evo [] (fun _ => 0) own' w w' := by
  refine fl_enter (n := 27) rfl rfl rfl (Nat.le_of_ble_eq_true rfl) ?_
  intro a0 Q hd0 hz0 harg hret
  have ha0 := harg 0 _ rfl
  clear harg
  have hE0 : Evo [] (fun _ => 0) (fun _ => 0) w w := Evo.refl _ _ _
  refine rg0_seq 27 (fun _ => 0) [0, 0] [⟨[], [0], [], Fct.blk 20 1 (fun g => .pointer (some ⟨g, 0, none⟩)) 31 #[.int .i64 b1.1.1, .int .i64 b1.1.2, .int .i64 b1.2.1, .int .i64 b1.2.2]⟩, ⟨[], [], [], Fct.val 2 (.bool false)⟩] hz0 hd0 (by kernel_rfl) ?_ ?_
  · refine sc (fun _ _ _ _ s _ => px (or_new [(0, .agg #[.int .i64 b1.1.1, .int .i64 b1.1.2, .int .i64 b1.2.1, .int .i64 b1.2.2])] rfl rfl ⟨(s.1.trans ha0), trivial⟩ (by kernel_rfl))) ?_
    refine sc (fun _ _ _ _ _ _ => px (or_assign rfl)) ?_
    exact steps_nil
  intro own21 a21 w21 hd21 hz21 hk21 hf21 hE21
  obtain ⟨⟨g19, (e21_1 : a21.eval (.tmp 1) = .pointer (some ⟨g19, 0, none⟩)), (b21_g19 : BlkO own21 20 w21 g19 31 #[.int .i64 b1.1.1, .int .i64 b1.1.2, .int .i64 b1.2.1, .int .i64 b1.2.2])⟩, -⟩ := hf21 [0] rfl
  have hX21 := es_ hE0 hE21
  obtain ⟨r24, hr24, hs⟩ := obind hs
  obtain ⟨x25, hx25, hs⟩ := obind hs
  refine rg0_seq 27 own21 [0, 1, 0, 4, 15, 31, 63, 127, 255, 511, 127, 1151, 3199, 8191, 16383, 32767, 65535, 131071, 262143, 65535, 589823, 1638399, 4194303, 8388607, 16777215] [⟨[], [1], [], Fct.val 3 (.pointer (some ⟨g19, 0, none⟩))⟩, ⟨[0], [], [], Fct.val 4 (.agg #[.int .i64 b1.1.1, .int .i64 b1.1.2])⟩, ⟨[], [1], [], Fct.val 5 (.pointer (some ⟨g19, 2, none⟩))⟩, ⟨[2], [], [], Fct.val 6 (.agg #[.int .i64 b1.2.1, .int .i64 b1.2.2])⟩, ⟨[1, 3], [], [], Fct.row 23 [] 7 25 R25 [b1.1, b1.2]⟩, ⟨[4], [], [], Fct.val 8 (.bool r24)⟩, ⟨[5], [], [], Fct.val 9 (.bool r24)⟩, ⟨[6], [1], [], Fct.cond r24 (some 10) (Fct.val 10 (.pointer (some ⟨g19, 0, none⟩)))⟩, ⟨[6, 7], [], [], Fct.cond r24 (some 11) (Fct.val 11 (.pointer (some ⟨g19, 0, none⟩)))⟩, ⟨[6, 8], [], [], Fct.cond r24 (some 12) (Fct.val 12 (.int .i64 b1.1.1))⟩, ⟨[6], [1], [], Fct.cond r24 (some 13) (Fct.val 13 (.pointer (some ⟨g19, 2, none⟩)))⟩, ⟨[6, 10], [], [], Fct.cond r24 (some 14) (Fct.val 14 (.pointer (some ⟨g19, 2, none⟩)))⟩, ⟨[6, 11], [], [], Fct.cond r24 (some 15) (Fct.val 15 (.int .i64 b1.2.1))⟩, ⟨[6, 9, 12], [], [], Fct.cond r24 (some 16) (Fct.val 16 (.bool (decide (b1.1.1 ≤ b1.2.1))))⟩, ⟨[6, 13], [], [], Fct.val 17 (.bool (r24 && (decide (b1.1.1 ≤ b1.2.1))))⟩, ⟨[14], [], [], Fct.val 18 (.bool (r24 && (decide (b1.1.1 ≤ b1.2.1))))⟩, ⟨[15], [1], [], Fct.cond (r24 && (decide (b1.1.1 ≤ b1.2.1))) (some 19) (Fct.val 19 (.pointer (some ⟨g19, 0, none⟩)))⟩, ⟨[15, 16], [], [], Fct.cond (r24 && (decide (b1.1.1 ≤ b1.2.1))) (some 20) (Fct.val 20 (.pointer (some ⟨g19, 1, none⟩)))⟩, ⟨[15, 17], [], [], Fct.cond (r24 && (decide (b1.1.1 ≤ b1.2.1))) (some 21) (Fct.val 21 (.int .i64 b1.1.2))⟩, ⟨[15], [1], [], Fct.cond (r24 && (decide (b1.1.1 ≤ b1.2.1))) (some 22) (Fct.val 22 (.pointer (some ⟨g19, 2, none⟩)))⟩, ⟨[15, 19], [], [], Fct.cond (r24 && (decide (b1.1.1 ≤ b1.2.1))) (some 23) (Fct.val 23 (.pointer (some ⟨g19, 3, none⟩)))⟩, ⟨[15, 20], [], [], Fct.cond (r24 && (decide (b1.1.1 ≤ b1.2.1))) (some 24) (Fct.val 24 (.int .i64 b1.2.2))⟩, ⟨[15, 18, 21], [], [], Fct.cond (r24 && (decide (b1.1.1 ≤ b1.2.1))) (some 25) (Fct.val 25 (.bool (decide (b1.1.2 ≤ b1.2.2))))⟩, ⟨[15, 22], [], [], Fct.val 26 (.bool x25)⟩, ⟨[23], [], [], Fct.val 2 (.bool x25)⟩] hz21 hd21 (by kernel_rfl) ?_ ?_
  · refine sc (fun _ _ _ _ s _ => px (or_field fo31_0 (s.1.trans e21_1) (by rfl))) ?_
    refine sc (fun _ _ _ f _ hE => px (or_load (l := [.int .i64 b1.1.1, .int .i64 b1.1.2]) ta25 f.1 (Blk.cellsFrom (be_ hE b21_g19).2 0 rfl) rfl)) ?_
    refine sc (fun _ _ _ _ s _ => px (or_field fo31_1 (s.1.trans e21_1) (by rfl))) ?_
    refine sc (fun _ _ _ f _ hE => px (or_load (l := [.int .i64 b1.2.1, .int .i64 b1.2.2]) ta25 f.1 (Blk.cellsFrom (be_ hE b21_g19).2 2 rfl) rfl)) ?_
    refine sc (fun _ _ _ f _ _ => px (or_lit (lab := 23) (e := 25) (cs := #[.int .i64 b1.1.1, .int .i64 b1.1.2, .int .i64 b1.2.1, .int .i64 b1.2.2]) (F := E25) (or_new [(4, .agg #[.int .i64 b1.1.1, .int .i64 b1.1.2]), (6, .agg #[.int .i64 b1.2.1, .int .i64 b1.2.2])] rfl rfl ⟨f.1, f.2.1, trivial⟩ (by kernel_rfl)) rfl rfl (show 2 ≤ maxLen by decide))) ?_
    refine sc (fun own a wx hf hsl hE => ?_) ?_
    · obtain ⟨⟨⟨A22, cA22⟩, f_7, b_A22⟩, -⟩ := hf
      exact px (or_call cf24 (args1 f_7) (exact_Right_w _ [b1.1, b1.2] A22 cA22 (RdO.zero (RwO.rd b_A22)) r24 hr24) post_val)
    refine sc (fun _ _ _ f _ _ => px (or_move f.1)) ?_
    refine sc (fun _ _ _ f s _ => sg_t rfl rfl rfl f.1 (fun hg => or_field fo31_0 (s.1.trans e21_1) (by rfl))) ?_
    refine sc (fun _ _ _ f _ _ => sg_t rfl rfl rfl f.1 (fun hg => or_field fo25_0 (f.2.1.1 hg) (by rfl))) ?_
    refine sc (fun _ _ _ f _ hE => sg_t rfl rfl rfl f.1 (fun hg => or_load1 to3 (f.2.1.1 hg) (Blk.at_ (be_ hE b21_g19).2 0 rfl))) ?_
    refine sc (fun _ _ _ f s _ => sg_t rfl rfl rfl f.1 (fun hg => or_field fo31_1 (s.1.trans e21_1) (by rfl))) ?_
    refine sc (fun _ _ _ f _ _ => sg_t rfl rfl rfl f.1 (fun hg => or_field fo25_0 (f.2.1.1 hg) (by rfl))) ?_
    refine sc (fun _ _ _ f _ hE => sg_t rfl rfl rfl f.1 (fun hg => or_load1 to3 (f.2.1.1 hg) (Blk.at_ (be_ hE b21_g19).2 2 rfl))) ?_
    refine sc (fun _ _ _ f _ _ => sg_t rfl rfl rfl f.1 (fun hg => or_leq (f.2.1.1 hg) (f.2.2.1.1 hg) rfl)) ?_
    refine sc (fun _ _ _ f _ _ => px (or_and f.1 (fun hx => f.2.1.1 hx) rfl rfl)) ?_
    refine sc (fun _ _ _ f _ _ => px (or_move f.1)) ?_
    refine sc (fun _ _ _ f s _ => sg_t rfl rfl rfl f.1 (fun hg => or_field fo31_0 (s.1.trans e21_1) (by rfl))) ?_
    refine sc (fun _ _ _ f _ _ => sg_t rfl rfl rfl f.1 (fun hg => or_field fo25_1 (f.2.1.1 hg) (by rfl))) ?_
    refine sc (fun _ _ _ f _ hE => sg_t rfl rfl rfl f.1 (fun hg => or_load1 to3 (f.2.1.1 hg) (Blk.at_ (be_ hE b21_g19).2 1 rfl))) ?_
    refine sc (fun _ _ _ f s _ => sg_t rfl rfl rfl f.1 (fun hg => or_field fo31_1 (s.1.trans e21_1) (by rfl))) ?_
    refine sc (fun _ _ _ f _ _ => sg_t rfl rfl rfl f.1 (fun hg => or_field fo25_1 (f.2.1.1 hg) (by rfl))) ?_
    refine sc (fun _ _ _ f _ hE => sg_t rfl rfl rfl f.1 (fun hg => or_load1 to3 (f.2.1.1 hg) (Blk.at_ (be_ hE b21_g19).2 3 rfl))) ?_
    refine sc (fun _ _ _ f _ _ => sg_t rfl rfl rfl f.1 (fun hg => or_leq (f.2.1.1 hg) (f.2.2.1.1 hg) rfl)) ?_
    refine sc (fun _ _ _ f _ _ => px (or_and f.1 (fun hx => f.2.1.1 hx) rfl (osome hx25).symm)) ?_
    refine sc (fun _ _ _ f _ _ => px (or_assign f.1)) ?_
    exact steps_nil
  intro own26 a26 w26 hd26 hz26 hk26 hf26 hE26
  obtain ⟨(e26_2 : a26.eval (.tmp 2) = .bool x25), -⟩ := hf26 [24] rfl
  have hX26 := es_ hX21 hE26
  refine fl_ret ?_
  obtain rfl := (osome hs).symm
  exact hret _ _ _ _ (.inl rfl) hd26 (results1_ rfl (RVal.tmp_ e26_2)) ⟨own26, rfl, hX26⟩
theorem slices_Compact_api_Point_api_Point_w (w : World) (own : Own) (s1 : List (Int × Int)) (As1 : Option Addr) (cs1 : Nat) (hown : ∀ b, own b ≤ 1) (hs1 : RwO own 1 [] w 25 R25 As1 cs1 s1) (r : List (Int × Int)) (hs : slices_Compact_api_Point_api_Point s1 = some r) :
    Calls Try.prog 29 #[.slice As1 s1.length cs1] w fun e w' => ∃ (own' : Own) (x : Option Addr × Nat), e = .returned (.slice x.1 r.length x.2) ∧ Evo [1] own own' w w' ∧ RwO own' 2 [] w' 25 R25 x.1 x.2 r := by
  refine fl_enter (n := 61) rfl rfl rfl (Nat.le_of_ble_eq_true rfl) ?_
  intro a0 Q hd0 hz0 harg hret
  have ha0 := harg 0 _ rfl
  clear harg
  have hE0 : Evo [1] own own w w := Evo.refl _ _ _
  refine rg0_seq 61 own (bz 1) [⟨[], [], [], Fct.val 2 (.slice none 0 0)⟩] hz0 hd0 (by kernel_rfl) ?_ ?_
  · refine sc (fun _ _ _ _ _ _ => px (or_assign rfl)) ?_
    exact steps_nil
  intro own914 a914 w914 hd914 hz914 hk914 hf914 hE914
  have e914_0 := (hk914 0 rfl).trans ha0
  have hX914 := Evo.step hE0 hown hE914 rfl
  have b914_As1 := re_ hE914 hs1
  refine fl_seq (fun Q915 hn915 hp915 => ?_)
  refine rg0_seq 61 own914 (bz 3) [⟨[], [0], [], Fct.val 6 (.slice As1 s1.length cs1)⟩, ⟨[0], [], [], Fct.val 7 (.int .i64 (s1.length : Int))⟩, ⟨[1], [], [], Fct.val 8 (.bool (decide ((s1.length : Int) < 2)))⟩] hz914 hd914 (by kernel_rfl) ?_ ?_
  · refine sc (fun _ _ _ _ s _ => px (or_move (s.1.trans e914_0))) ?_
    refine sc (fun _ _ _ f _ _ => px (or_len tu22 f.1 rfl)) ?_
    refine sc (fun _ _ _ f _ _ => px (or_lss f.1 rfl rfl)) ?_
    exact steps_nil
  intro own916 a916 w916 hd916 hz916 hk916 hf916 hE916
  have e916_0 := (hk916 0 rfl).trans e914_0
  obtain ⟨(e916_8 : a916.eval (.tmp 8) = .bool (decide ((s1.length : Int) < 2))), -⟩ := hf916 [2] rfl
  have hX916 := Evo.step hX914 hown hE916 rfl
  have b916_As1 := re_ hE916 b914_As1
  refine fl_cond e916_8 hs (fun c917 hs => ?_) (fun c917 hs => ?_)
  · refine rg0_seq 61 own916 (bz 2) [⟨[], [0], [], Fct.val 9 (.slice As1 s1.length cs1)⟩, ⟨[0], [], [], Fct.val 2 (.slice As1 s1.length cs1)⟩] hz916 hd916 (by kernel_rfl) ?_ ?_
    · refine sc (fun _ _ _ _ s _ => px (or_move (s.1.trans e916_0))) ?_
      refine sc (fun _ _ _ f _ _ => px (or_assign f.1)) ?_
      exact steps_nil
    intro own918 a918 w918 hd918 hz918 hk918 hf918 hE918
    obtain ⟨(e918_2 : a918.eval (.tmp 2) = .slice As1 s1.length cs1), -⟩ := hf918 [1] rfl
    have hX918 := Evo.step hX916 hown hE918 rfl
    have b918_As1 := re_ hE918 b916_As1
    refine fl_ret ?_
    refine hp915 _ _ _ rfl ?_
    obtain rfl := (osome hs).symm
    exact hret _ _ _ _ (.inl rfl) hd918 (results1_ rfl (RVal.tmp_ e918_2)) ⟨(rl [(1, 2)] own918), (As1, cs1), rfl, (Evo.rl_ hX918 hown rfl), (RwO.rl_ (mm := [(1, 2)]) b918_As1)⟩
  refine fl_skip ?_
  refine hn915 _ _ ?_
  refine fl_seq (fun Q919 hn919 hp919 => ?_)
  refine rg0_seq 61 own916 (bz 1) [⟨[], [], [], Fct.val 3 (.int .i64 1)⟩] hz916 hd916 (by kernel_rfl) ?_ ?_
  · refine sc (fun _ _ _ _ _ _ => px (or_assign rfl)) ?_
    exact steps_nil
  intro own920 a920 w920 hd920 hz920 hk920 hf920 hE920
  have e920_0 := (hk920 0 rfl).trans e916_0
  obtain ⟨(e920_3 : a920.eval (.tmp 3) = .int .i64 1), -⟩ := hf920 [0] rfl
  have hX920 := Evo.step hX916 hown hE920 rfl
  have b920_As1 := re_ hE920 b916_As1
  refine fl_block (fun Q921 hn921 hx921 hp921 => ?_)
  refine fl_loop (body := (fun s => slices_Compact_api_Point_api_Point_b1 s1 s)) (z := r) (show loopO _ _ = _ from hs) (fun (k1219 : Int) a wx => ∃ (ox : Own), a.defers = [] ∧ a.tmps.size = 61 ∧ a.eval (.tmp 0) = .slice As1 s1.length cs1 ∧ a.eval (.tmp 3) = .int .i64 k1219 ∧ Evo [1] own ox w wx ∧ RwO ox 1 [] wx 25 R25 As1 cs1 s1) ?_ ?_
  · exact ⟨own920, hd920, hz920, e920_0, e920_3, hX920, b920_As1⟩
  · rintro k1219 zz1517 a1517 w1517 ⟨own1517, hd1518, hz1518, e1518_0, e1518_3, hE1518, b1518_As1⟩ hs Q1517 hn1517 hp1517 hz1517
    have hs : slices_Compact_api_Point_api_Point_b1 s1 k1219 = some zz1517 := hs
    refine fl_seq (fun Q1519 hn1519 hp1519 => ?_)
    refine rg0_seq 61 own1517 [0, 0, 2, 7] [⟨[], [3], [], Fct.val 10 (.int .i64 k1219)⟩, ⟨[], [0], [], Fct.val 11 (.slice As1 s1.length cs1)⟩, ⟨[1], [], [], Fct.val 12 (.int .i64 (s1.length : Int))⟩, ⟨[0, 2], [], [], Fct.val 13 (.bool (decide (k1219 < (s1.length : Int))))⟩] hz1518 hd1518 (by kernel_rfl) ?_ ?_
    · refine sc (fun _ _ _ _ s _ => px (or_move (s.1.trans e1518_3))) ?_
      refine sc (fun _ _ _ _ s _ => px (or_move (s.1.trans e1518_0))) ?_
      refine sc (fun _ _ _ f _ _ => px (or_len tu22 f.1 rfl)) ?_
      refine sc (fun _ _ _ f _ _ => px (or_lss f.1 f.2.1 rfl)) ?_
      exact steps_nil
    intro own1520 a1520 w1520 hd1520 hz1520 hk1520 hf1520 hE1520
    have e1520_0 := (hk1520 0 rfl).trans e1518_0
    have e1520_3 := (hk1520 3 rfl).trans e1518_3
    obtain ⟨(e1520_13 : a1520.eval (.tmp 13) = .bool (decide (k1219 < (s1.length : Int)))), -⟩ := hf1520 [3] rfl
    have hX1520 := Evo.step hE1518 hown hE1520 rfl
    have b1520_As1 := re_ hE1520 b1518_As1
    refine fl_cond e1520_13 hs (fun c1521 hs => ?_) (fun c1521 hs => ?_)
    · refine fl_skip ?_
      refine hn1519 _ _ ?_
      refine fl_seq (fun Q1522 hn1522 hp1522 => ?_)
      refine fl_block (fun Q1523 hn1523 hx1523 hp1523 => ?_)
      obtain ⟨x1524, hx1524, hs⟩ := obind hs
      obtain ⟨x1525, hx1525, hs⟩ := obind hs
      refine rg_draw_seq g_mixed (n := 61) (rs := []) (own0 := own1520) (K := []) (bs := [0, 0, 3, 7, 0, 0, 32, 112, 240, 511]) (ds := [⟨[], [0], [], Fct.val 16 (.slice As1 s1.length cs1)⟩, ⟨[], [3], [], Fct.val 17 (.int .i64 k1219)⟩, ⟨[0, 1], [], [], Fct.val 18 (.pointer (some ((adr As1).add ((k1219 : Int).toNat * R25.s))))⟩, ⟨[2], [], [], Fct.val 19 (.agg #[.int .i64 x1524.1, .int .i64 x1524.2])⟩, ⟨[], [0], [], Fct.val 20 (.slice As1 s1.length cs1)⟩, ⟨[], [3], [], Fct.val 21 (.int .i64 k1219)⟩, ⟨[5], [], [], Fct.val 22 (.int .i64 (sb k1219 1))⟩, ⟨[4, 6], [], [], Fct.val 23 (.pointer (some ((adr As1).add ((sb k1219 1 : Int).toNat * R25.s))))⟩, ⟨[7], [], [], Fct.val 24 (.agg #[.int .i64 x1525.1, .int .i64 x1525.2])⟩, ⟨[3, 8], [], [], Fct.val 25 (.bool (decide (x1524 = x1525)))⟩]) (by kernel_rfl) hz1520 hd1520 nm_ ?_ ?_
      · refine sc (fun _ _ _ _ s _ => px (or_move (s.1.trans e1520_0))) ?_
        refine sc (fun _ _ _ _ s _ => px (or_move (s.1.trans e1520_3))) ?_
        refine sc (fun _ _ _ f _ _ => px (or_index (R := R25) (l := s1) tl22 f.1 f.2.1 (RdO.some_ (RwO.rd b1520_As1) hx1524) hx1524)) ?_
        refine sc (fun _ _ _ f _ hE => px (or_load (l := E25.f x1524) ta25 f.1 (RdO.cells (F := E25) (RwO.rd (re_ hE b1520_As1)) hx1524) rfl)) ?_
        refine sc (fun _ _ _ _ s _ => px (or_move (s.1.trans e1520_0))) ?_
        refine sc (fun _ _ _ _ s _ => px (or_move (s.1.trans e1520_3))) ?_
        refine sc (fun _ _ _ f _ _ => px (or_sub f.1 rfl rfl)) ?_
        refine sc (fun _ _ _ f _ _ => px (or_index (R := R25) (l := s1) tl22 f.1 f.2.1 (RdO.some_ (RwO.rd b1520_As1) hx1525) hx1525)) ?_
        refine sc (fun _ _ _ f _ hE => px (or_load (l := E25.f x1525) ta25 f.1 (RdO.cells (F := E25) (RwO.rd (re_ hE b1520_As1)) hx1525) rfl)) ?_
        refine sc (fun _ _ _ f _ _ => px (or_eqlA sg25 f.1 f.2.1 (se25 x1524.1 x1524.2 x1525.1 x1525.2 _) rfl)) ?_
        exact steps_nil
      intro own1526 a1526 w1526 hd1526 hz1526 hk1526 hf1526 hE1526
      have e1526_0 := (hk1526 0 rfl).trans e1520_0
      have e1526_3 := (hk1526 3 rfl).trans e1520_3
      obtain ⟨(e1526_25 : a1526.eval (.tmp 25) = .bool (decide (x1524 = x1525))), -⟩ := hf1526 [9] rfl
      have hX1526 := Evo.step hX1520 hown hE1526 rfl
      have b1526_As1 := re_ hE1526 b1520_As1
      refine fl_cond e1526_25 hs (fun c1527 hs => ?_) (fun c1527 hs => ?_)
      · obtain ⟨x1528, hx1528, hs⟩ := obind hs
        obtain ⟨n1530, hn1530, hs⟩ := obind hs
        refine rg0_seq 61 own1526 [0, 0, 3, 7] [⟨[], [0], [], Fct.val 26 (.slice As1 s1.length cs1)⟩, ⟨[], [3], [], Fct.val 27 (.int .i64 k1219)⟩, ⟨[0, 1], [], [], Fct.val 28 (pieceV As1 cs1 R25.s k1219 n1530)⟩, ⟨[2], [], [], Fct.val 4 (pieceV As1 cs1 R25.s k1219 n1530)⟩] hz1526 hd1526 (by kernel_rfl) ?_ ?_
        · refine sc (fun _ _ _ _ s _ => px (or_move (s.1.trans e1526_0))) ?_
          refine sc (fun _ _ _ _ s _ => px (or_move (s.1.trans e1526_3))) ?_
          refine sc (fun _ _ _ f _ hE => px (or_pieceW (R := R25) tu22 ts25 f.1 (Bnd.some_ f.2.1) (Bnd.noneE (osome hn1530)) (RwO.rd (re_ hE b1526_As1)) (cut_toE hn1530 hx1528))) ?_
          refine sc (fun _ _ _ f _ _ => px (or_assign f.1)) ?_
          exact steps_nil
        intro own1531 a1531 w1531 hd1531 hz1531 hk1531 hf1531 hE1531
        have e1531_0 := (hk1531 0 rfl).trans e1526_0
        have e1531_3 := (hk1531 3 rfl).trans e1526_3
        obtain ⟨(e1531_4 : a1531.eval (.tmp 4) = pieceV As1 cs1 R25.s k1219 n1530), -⟩ := hf1531 [3] rfl
        have hX1531 := Evo.step hX1526 hown hE1531 rfl
        have b1531_As1 := re_ hE1531 b1526_As1
        refine fl_seq (fun Q1532 hn1532 hp1532 => ?_)
        refine rg0_seq 61 own1531 (bz 1) [⟨[], [], [], Fct.val 5 (.int .i64 1)⟩] hz1531 hd1531 (by kernel_rfl) ?_ ?_
        · refine sc (fun _ _ _ _ _ _ => px (or_assign rfl)) ?_
          exact steps_nil
        intro own1533 a1533 w1533 hd1533 hz1533 hk1533 hf1533 hE1533
        have e1533_0 := (hk1533 0 rfl).trans e1531_0
        have e1533_3 := (hk1533 3 rfl).trans e1531_3
        have e1533_4 := (hk1533 4 rfl).trans e1531_4
        obtain ⟨(e1533_5 : a1533.eval (.tmp 5) = .int .i64 1), -⟩ := hf1533 [0] rfl
        have hX1533 := Evo.step hX1531 hown hE1533 rfl
        have b1533_As1 := re_ hE1533 b1531_As1
        refine fl_block (fun Q1534 hn1534 hx1534 hp1534 => ?_)
        refine fl_loop (body := (fun s => slices_Compact_api_Point_api_Point_b2 k1219 n1530 s.1 s.2.1 s.2.2)) (z := zz1517) (show loopO _ _ = _ from hs) (fun (s : (List (Int × Int)) × Int × Int) a wx => match s with | (s1621, k1623, k1624) => ∃ (ox : Own), a.defers = [] ∧ a.tmps.size = 61 ∧ a.eval (.tmp 0) = .slice As1 s1621.length cs1 ∧ a.eval (.tmp 3) = .int .i64 k1623 ∧ a.eval (.tmp 4) = pieceV As1 cs1 R25.s k1219 n1530 ∧ a.eval (.tmp 5) = .int .i64 k1624 ∧ Evo [1] own ox w wx ∧ RwO ox 1622 [] wx 25 R25 As1 cs1 s1621) ?_ ?_
        · exact ⟨(rl [(1, 1622)] own1533), hd1533, hz1533, e1533_0, e1533_3, e1533_4, e1533_5, (Evo.rl_ hX1533 hown rfl), (RwO.rl_ (mm := [(1, 1622)]) b1533_As1)⟩
        · rintro ⟨s1621, k1623, k1624⟩ zz1711 a1711 w1711 ⟨own1711, hd1712, hz1712, e1712_0, e1712_3, e1712_4, e1712_5, hE1712, b1712_As1⟩ hs Q1711 hn1711 hp1711 hz1711
          have hs : slices_Compact_api_Point_api_Point_b2 k1219 n1530 s1621 k1623 k1624 = some zz1711 := hs
          refine fl_seq (fun Q1713 hn1713 hp1713 => ?_)
          refine rg0_seq 61 own1711 [0, 0, 2, 7] [⟨[], [5], [], Fct.val 29 (.int .i64 k1624)⟩, ⟨[], [4], [], Fct.val 30 (pieceV As1 cs1 R25.s k1219 n1530)⟩, ⟨[1], [], [], Fct.val 31 (.int .i64 (n1530 - k1219))⟩, ⟨[0, 2], [], [], Fct.val 32 (.bool (decide (k1624 < (n1530 - k1219))))⟩] hz1712 hd1712 (by kernel_rfl) ?_ ?_
          · refine sc (fun _ _ _ _ s _ => px (or_move (s.1.trans e1712_5))) ?_
            refine sc (fun _ _ _ _ s _ => px (or_move (s.1.trans e1712_4))) ?_
            refine sc (fun _ _ _ f _ _ => px (or_lenW (R := R25) tu22 f.1 (cut_some hx1528).1 (cut_lt hn1530 hx1528).1 rfl)) ?_
            refine sc (fun _ _ _ f _ _ => px (or_lss f.1 f.2.1 rfl)) ?_
            exact steps_nil
          intro own1714 a1714 w1714 hd1714 hz1714 hk1714 hf1714 hE1714
          have e1714_0 := (hk1714 0 rfl).trans e1712_0
          have e1714_3 := (hk1714 3 rfl).trans e1712_3
          have e1714_4 := (hk1714 4 rfl).trans e1712_4
          have e1714_5 := (hk1714 5 rfl).trans e1712_5
          obtain ⟨(e1714_32 : a1714.eval (.tmp 32) = .bool (decide (k1624 < (n1530 - k1219)))), -⟩ := hf1714 [3] rfl
          have hX1714 := Evo.step hE1712 hown hE1714 rfl
          have b1714_As1 := re_ hE1714 b1712_As1
          refine fl_cond e1714_32 hs (fun c1715 hs => ?_) (fun c1715 hs => ?_)
          · refine fl_skip ?_
            refine hn1713 _ _ ?_
            refine fl_seq (fun Q1716 hn1716 hp1716 => ?_)
            refine fl_block (fun Q1757 hn1757 hx1757 hp1757 => ?_)
            have K1778 : ∀ (a1778 : Act) (w1778 : World) (own1778 : Own) (s1775 : List (Int × Int)) (k1777 : Int), a1778.defers = [] → a1778.tmps.size = 61 → a1778.eval (.tmp 0) = .slice As1 s1775.length cs1 → a1778.eval (.tmp 3) = .int .i64 k1777 → a1778.eval (.tmp 4) = pieceV As1 cs1 R25.s k1219 n1530 → a1778.eval (.tmp 5) = .int .i64 k1624 → Evo [1] own own1778 w w1778 → RwO own1778 1776 [] w1778 25 R25 As1 cs1 s1775 → slices_Compact_api_Point_api_Point_k3 k1624 s1775 k1777 = some zz1711 → (Q1757 .normal a1778 w1778 ∧ Q1757 (.exit 3) a1778 w1778) := by
              intro a1778 w1778 own1778 s1775 k1777 hd1779 hz1779 e1779_0 e1779_3 e1779_4 e1779_5 hE1779 b1779_As1 hs
              refine and_both (hn1757 _ _) (hx1757 _ _) ?_
              refine hn1716 _ _ ?_
              refine rg0 61 own1778 (bz 3) [⟨[], [5], [], Fct.val 33 (.int .i64 k1624)⟩, ⟨[0], [], [], Fct.val 34 (.int .i64 (ad k1624 1))⟩, ⟨[1], [], [], Fct.val 5 (.int .i64 (ad k1624 1))⟩] hz1779 hd1779 (by kernel_rfl) ?_ ?_
              · refine sc (fun _ _ _ _ s _ => px (or_move (s.1.trans e1779_5))) ?_
                refine sc (fun _ _ _ f _ _ => px (or_add f.1 rfl rfl)) ?_
                refine sc (fun _ _ _ f _ _ => px (or_assign f.1)) ?_
                exact steps_nil
              intro own1780 a1780 w1780 hd1780 hz1780 hk1780 hf1780 hE1780
              have e1780_0 := (hk1780 0 rfl).trans e1779_0
              have e1780_3 := (hk1780 3 rfl).trans e1779_3
              have e1780_4 := (hk1780 4 rfl).trans e1779_4
              obtain ⟨(e1780_5 : a1780.eval (.tmp 5) = .int .i64 (ad k1624 1)), -⟩ := hf1780 [2] rfl
              have hX1780 := Evo.step hE1779 hown hE1780 rfl
              have b1780_As1 := re_ hE1780 b1779_As1
              exact hn1711 _ _ _ hs ⟨(rl [(1776, 1622)] own1780), hd1780, hz1780, e1780_0, e1780_3, e1780_4, e1780_5, (Evo.rl_ hX1780 hown rfl), (RwO.rl_ (mm := [(1776, 1622)]) b1780_As1)⟩
            obtain ⟨q1781, hq1781, hs⟩ := obind hs
            obtain ⟨x1782, hx1782, hs⟩ := obind hs
            obtain ⟨q1783, hq1783, hs⟩ := obind hs
            obtain ⟨x1784, hx1784, hs⟩ := obind hs
            refine rg_draw_seq g_mixed (n := 61) (rs := []) (own0 := own1714) (K := []) (bs := [0, 0, 3, 7, 0, 0, 32, 112, 240, 511]) (ds := [⟨[], [4], [], Fct.val 35 (pieceV As1 cs1 R25.s k1219 n1530)⟩, ⟨[], [5], [], Fct.val 36 (.int .i64 k1624)⟩, ⟨[0, 1], [], [], Fct.val 37 (.pointer (some ((adr As1).add ((q1781 : Int).toNat * R25.s))))⟩, ⟨[2], [], [], Fct.val 38 (.agg #[.int .i64 x1782.1, .int .i64 x1782.2])⟩, ⟨[], [4], [], Fct.val 39 (pieceV As1 cs1 R25.s k1219 n1530)⟩, ⟨[], [5], [], Fct.val 40 (.int .i64 k1624)⟩, ⟨[5], [], [], Fct.val 41 (.int .i64 (sb k1624 1))⟩, ⟨[4, 6], [], [], Fct.val 42 (.pointer (some ((adr As1).add ((q1783 : Int).toNat * R25.s))))⟩, ⟨[7], [], [], Fct.val 43 (.agg #[.int .i64 x1784.1, .int .i64 x1784.2])⟩, ⟨[3, 8], [], [], Fct.val 44 (.bool (!decide (x1782 = x1784)))⟩]) (by kernel_rfl) hz1714 hd1714 nm_ ?_ ?_
            · refine sc (fun _ _ _ _ s _ => px (or_move (s.1.trans e1714_4))) ?_
              refine sc (fun _ _ _ _ s _ => px (or_move (s.1.trans e1714_5))) ?_
              refine sc (fun _ _ _ f _ _ => px (or_indexW (R := R25) tl22 f.1 f.2.1 (RdO.some_ (RwO.rd b1714_As1) hx1782) (cut_some hx1528).1 (piece_le (cut_toE hn1530 hx1528) (RwO.rd b1526_As1)) hq1781)) ?_
              refine sc (fun _ _ _ f _ hE => px (or_load (l := E25.f x1782) ta25 f.1 (RdO.cells (F := E25) (RwO.rd (re_ hE b1714_As1)) hx1782) rfl)) ?_
              refine sc (fun _ _ _ _ s _ => px (or_move (s.1.trans e1714_4))) ?_
              refine sc (fun _ _ _ _ s _ => px (or_move (s.1.trans e1714_5))) ?_
              refine sc (fun _ _ _ f _ _ => px (or_sub f.1 rfl rfl)) ?_
              refine sc (fun _ _ _ f _ _ => px (or_indexW (R := R25) tl22 f.1 f.2.1 (RdO.some_ (RwO.rd b1714_As1) hx1784) (cut_some hx1528).1 (piece_le (cut_toE hn1530 hx1528) (RwO.rd b1526_As1)) hq1783)) ?_
              refine sc (fun _ _ _ f _ hE => px (or_load (l := E25.f x1784) ta25 f.1 (RdO.cells (F := E25) (RwO.rd (re_ hE b1714_As1)) hx1784) rfl)) ?_
              refine sc (fun _ _ _ f _ _ => px (or_neqA sg25 f.1 f.2.1 (sn25 x1782.1 x1782.2 x1784.1 x1784.2 _) rfl)) ?_
              exact steps_nil
            intro own1785 a1785 w1785 hd1785 hz1785 hk1785 hf1785 hE1785
            have e1785_0 := (hk1785 0 rfl).trans e1714_0
            have e1785_3 := (hk1785 3 rfl).trans e1714_3
            have e1785_4 := (hk1785 4 rfl).trans e1714_4
            have e1785_5 := (hk1785 5 rfl).trans e1714_5
            obtain ⟨(e1785_44 : a1785.eval (.tmp 44) = .bool (!decide (x1782 = x1784))), -⟩ := hf1785 [9] rfl
            have hX1785 := Evo.step hX1714 hown hE1785 rfl
            have b1785_As1 := re_ hE1785 b1714_As1
            refine fl_cond e1785_44 hs (fun c1786 hs => ?_) (fun c1786 hs => ?_)
            · obtain ⟨q1790, hq1790, hs⟩ := obind hs
              obtain ⟨x1791, hx1791, hs⟩ := obind hs
              obtain ⟨x1792, hx1792, hs⟩ := obind hs
              obtain ⟨l1793, hl1793, hs⟩ := obind hs
              refine rg_plain_seq (n := 61) (rs := [Fct.rowAt 1622 [] 25 R25 As1 cs1 s1621]) (own0 := own1785) (K := [1622]) (bs := [0, 0, 0, 0, 12, 28, 63, 127]) (ds := [⟨[], [0], [], Fct.val 45 (.slice As1 s1621.length cs1)⟩, ⟨[], [3], [], Fct.val 46 (.int .i64 k1623)⟩, ⟨[], [4], [], Fct.val 47 (pieceV As1 cs1 R25.s k1219 n1530)⟩, ⟨[], [5], [], Fct.val 48 (.int .i64 k1624)⟩, ⟨[2, 3, 8], [], [], Fct.val 49 (.pointer (some ((adr As1).add ((q1790 : Int).toNat * R25.s))))⟩, ⟨[4, 8], [], [], Fct.val 50 (.agg #[.int .i64 x1791.1, .int .i64 x1791.2])⟩, ⟨[0, 1], [], [], Fct.val 51 (.pointer (some ((adr As1).add ((k1623 : Int).toNat * R25.s))))⟩, ⟨[6, 5, 8], [], [1622], Fct.rowAt 1794 [] 25 R25 As1 cs1 l1793⟩]) (by kernel_rfl) hz1785 hd1785 (by simp only [List.forall_mem_cons]; exact ⟨b1785_As1, fun _ h => nomatch h⟩) ?_ ?_
              · refine sc (fun _ _ _ _ s _ => px (or_move (s.1.trans e1785_0))) ?_
                refine sc (fun _ _ _ _ s _ => px (or_move (s.1.trans e1785_3))) ?_
                refine sc (fun _ _ _ _ s _ => px (or_move (s.1.trans e1785_4))) ?_
                refine sc (fun _ _ _ _ s _ => px (or_move (s.1.trans e1785_5))) ?_
                refine sc (fun own a wx hf hsl hE => ?_) ?_
                · obtain ⟨f_47, f_48, b_As1, -⟩ := hf
                  exact px (or_indexW (R := R25) tl22 f_47 f_48 (RdO.some_ (RwO.rd b1785_As1) hx1791) (cut_some hx1528).1 (piece_le (cut_toE hn1530 hx1528) (RwO.rd b1526_As1)) hq1790)
                refine sc (fun own a wx hf hsl hE => ?_) ?_
                · obtain ⟨f_49, b_As1, -⟩ := hf
                  exact px (or_load (l := E25.f x1791) ta25 f_49 (RdO.cells (F := E25) (RwO.rd b_As1) hx1791) rfl)
                refine sc (fun _ _ _ f _ _ => px (or_index (R := R25) (l := s1621) tl22 f.1 f.2.1 (RdO.some_ (RwO.rd b1785_As1) hx1792) hx1792)) ?_
                refine sc (fun own a wx hf hsl hE => ?_) ?_
                · obtain ⟨f_51, f_50, b_As1, -⟩ := hf
                  exact px (or_storeIx (R := R25) (lab := 1622) (lab2 := 1794) (cs := [.int .i64 x1791.1, .int .i64 x1791.2]) (v := x1791) ts25 f_51 f_50 rfl (Rep.fl_flat _) (fun _ _ => rfl) b_As1 hl1793 (mem_of rfl) (by decide) (fun own' a' w' ha hb => hb))
                exact steps_nil
              intro own1795 a1795 w1795 hd1795 hz1795 hk1795 hf1795 hE1795
              have e1795_0 := (hk1795 0 rfl).trans e1785_0
              have e1795_3 := (hk1795 3 rfl).trans e1785_3
              have e1795_4 := (hk1795 4 rfl).trans e1785_4
              have e1795_5 := (hk1795 5 rfl).trans e1785_5
              obtain ⟨(b1795_As1 : RwO own1795 1794 [] w1795 25 R25 As1 cs1 l1793), -⟩ := hf1795 [7] rfl
              have hX1795 := Evo.step hX1785 hown hE1795 rfl
              have m1796_0 : a1795.eval (.tmp 0) = .slice As1 l1793.length cs1 := e1795_0.trans (by rw [put_len hl1793])
              refine rg0 61 own1795 (bz 3) [⟨[], [3], [], Fct.val 52 (.int .i64 k1623)⟩, ⟨[0], [], [], Fct.val 53 (.int .i64 (ad k1623 1))⟩, ⟨[1], [], [], Fct.val 3 (.int .i64 (ad k1623 1))⟩] hz1795 hd1795 (by kernel_rfl) ?_ ?_
              · refine sc (fun _ _ _ _ s _ => px (or_move (s.1.trans e1795_3))) ?_
                refine sc (fun _ _ _ f _ _ => px (or_add f.1 rfl rfl)) ?_
                refine sc (fun _ _ _ f _ _ => px (or_assign f.1)) ?_
                exact steps_nil
              intro own1797 a1797 w1797 hd1797 hz1797 hk1797 hf1797 hE1797
              have e1797_0 := (hk1797 0 rfl).trans m1796_0
              have e1797_4 := (hk1797 4 rfl).trans e1795_4
              have e1797_5 := (hk1797 5 rfl).trans e1795_5
              obtain ⟨(e1797_3 : a1797.eval (.tmp 3) = .int .i64 (ad k1623 1)), -⟩ := hf1797 [2] rfl
              have hX1797 := Evo.step hX1795 hown hE1797 rfl
              have b1797_As1 := re_ hE1797 b1795_As1
              exact (K1778 _ _ (rl [(1794, 1776)] own1797) _ _ hd1797 hz1797 e1797_0 e1797_3 e1797_4 e1797_5 (Evo.rl_ hX1797 hown rfl) (RwO.rl_ (mm := [(1794, 1776)]) b1797_As1) hs).1
            refine fl_skip ?_
            exact (K1778 _ _ (rl [(1622, 1776)] own1785) _ _ hd1785 hz1785 e1785_0 e1785_3 e1785_4 e1785_5 (Evo.rl_ hX1785 hown rfl) (RwO.rl_ (mm := [(1622, 1776)]) b1785_As1) hs).1
          refine fl_exit ?_
          refine hp1713 _ _ _ rfl ?_
          replace hs := hz1711 _ hs
          refine hp1711 _ _ _ rfl ?_
          refine hx1534 _ _ ?_
          refine hn1532 _ _ ?_
          obtain ⟨x1801, hx1801, hs⟩ := obind hs
          obtain ⟨n1803, hn1803, hs⟩ := obind hs
          obtain ⟨l1804, hl1804, hs⟩ := obind hs
          refine rg_plain_seq (n := 61) (rs := [Fct.rowAt 1622 [] 25 R25 As1 cs1 s1621]) (own0 := own1714) (K := [1622]) (bs := [0, 0, 3, 7]) (ds := [⟨[], [0], [], Fct.val 54 (.slice As1 s1621.length cs1)⟩, ⟨[], [3], [], Fct.val 55 (.int .i64 k1623)⟩, ⟨[0, 1, 4], [], [], Fct.val 56 (pieceV As1 cs1 R25.s k1623 n1803)⟩, ⟨[2, 4], [], [1622], Fct.rowAt 1805 [] 25 R25 As1 cs1 l1804⟩]) (by kernel_rfl) hz1714 hd1714 (by simp only [List.forall_mem_cons]; exact ⟨b1714_As1, fun _ h => nomatch h⟩) ?_ ?_
          · refine sc (fun _ _ _ _ s _ => px (or_move (s.1.trans e1714_0))) ?_
            refine sc (fun _ _ _ _ s _ => px (or_move (s.1.trans e1714_3))) ?_
            refine sc (fun own a wx hf hsl hE => ?_) ?_
            · obtain ⟨f_54, f_55, b_As1, -⟩ := hf
              exact px (or_pieceW (R := R25) tu22 ts25 f_54 (Bnd.some_ f_55) (Bnd.noneE (osome hn1803)) (RwO.rd b_As1) (cut_toE hn1803 hx1801))
            refine sc (fun own a wx hf hsl hE => ?_) ?_
            · obtain ⟨f_56, b_As1, -⟩ := hf
              exact px (or_clear (R := R25) (lab := 1622) (lab2 := 1805) (z := .agg #[.int .i64 0, .int .i64 0]) (dv := (0, 0)) tu22 (by kernel_rfl) rfl f_56 b_As1 hl1804 (Rep.fl_flat _) (fun _ _ => rfl) (mem_of rfl) (by decide) (fun own' a' w' hb => hb))
            exact steps_nil
          intro own1806 a1806 w1806 hd1806 hz1806 hk1806 hf1806 hE1806
          have e1806_0 := (hk1806 0 rfl).trans e1714_0
          have e1806_3 := (hk1806 3 rfl).trans e1714_3
          obtain ⟨(b1806_As1 : RwO own1806 1805 [] w1806 25 R25 As1 cs1 l1804), -⟩ := hf1806 [3] rfl
          have hX1806 := Evo.step hX1714 hown hE1806 rfl
          have m1807_0 : a1806.eval (.tmp 0) = .slice As1 l1804.length cs1 := e1806_0.trans (by rw [clr_len hl1804])
          obtain ⟨x1810, hx1810, hs⟩ := obind hs
          refine rg_plain_seq (n := 61) (rs := [Fct.rowAt 1805 [] 25 R25 As1 cs1 l1804]) (own0 := own1806) (K := [1805]) (bs := [0, 0, 3, 7]) (ds := [⟨[], [0], [], Fct.val 57 (.slice As1 l1804.length cs1)⟩, ⟨[], [3], [], Fct.val 58 (.int .i64 k1623)⟩, ⟨[0, 1, 4], [], [1805], Fct.row 1812 [] 59 25 R25 x1810⟩, ⟨[2], [], [], Fct.rel [2, 59] (fun l => ∀ (A1811 : Option Addr) (cA1811 : Nat), l.getD 1 undef = .slice A1811 x1810.length cA1811 → l.getD 0 undef = .slice A1811 x1810.length cA1811)⟩]) (by kernel_rfl) hz1806 hd1806 (by simp only [List.forall_mem_cons]; exact ⟨b1806_As1, fun _ h => nomatch h⟩) ?_ ?_
          · refine sc (fun _ _ _ _ s _ => px (or_move (s.1.trans m1807_0))) ?_
            refine sc (fun _ _ _ _ s _ => px (or_move (s.1.trans e1806_3))) ?_
            refine sc (fun own a wx hf hsl hE => ?_) ?_
            · obtain ⟨f_57, f_58, b_As1, -⟩ := hf
              exact px (or_keep (R := R25) (lab := 1805) (lab2 := 1812) tu22 ts25 f_57 (Bnd.some_ f_58) b_As1 hx1810 (mem_of rfl) (by decide) (.inl (Rep.fl_flat _)))
            refine sc (fun own a wx hf hsl hE => ?_) ?_
            · obtain ⟨⟨⟨A1811, cA1811⟩, (f_59 : a.eval (.tmp 59) = .slice A1811 x1810.length cA1811), b_A1811⟩, -⟩ := hf
              exact px (or_mono (f := Fct.val 2 (.slice A1811 x1810.length cA1811)) (or_assign f_59) (fun own' a' w' v' hp h => fun _ _ h0' => by cases (f_59.symm.trans ((hp.2 59 (by decide)).symm.trans h0')); exact h))
            exact steps_nil
          intro own1813 a1813 w1813 hd1813 hz1813 hk1813 hf1813 hE1813
          obtain ⟨⟨⟨A1811, cA1811⟩, (f_59 : a1813.eval (.tmp 59) = .slice A1811 x1810.length cA1811), (b1813_A1811 : RwO own1813 1812 [] w1813 25 R25 A1811 cA1811 x1810)⟩, (q_2 : ∀ (A1811 : Option Addr) (cA1811 : Nat), a1813.eval (.tmp 59) = .slice A1811 x1810.length cA1811 → a1813.eval (.tmp 2) = .slice A1811 x1810.length cA1811), -⟩ := hf1813 [2, 3] rfl
          have e1813_2 := q_2 _ _ f_59
          have hX1813 := Evo.step hX1806 hown hE1813 rfl
          refine fl_ret ?_
          refine hp1523 _ _ _ rfl ?_
          refine hp1522 _ _ _ rfl ?_
          replace hs := hz1517 _ hs
          refine hp1517 _ _ _ rfl ?_
          refine hp921 _ _ _ rfl ?_
          refine hp919 _ _ _ rfl ?_
          obtain rfl := (osome hs).symm
          exact hret _ _ _ _ (.inl rfl) hd1813 (results1_ rfl (RVal.tmp_ e1813_2)) ⟨(rl [(1812, 2)] own1813), (A1811, cA1811), rfl, (Evo.rl_ hX1813 hown rfl), (RwO.rl_ (mm := [(1812, 2)]) b1813_A1811)⟩
      refine fl_skip ?_
      refine hn1523 _ _ ?_
      refine hn1522 _ _ ?_
      refine rg0 61 own1526 (bz 3) [⟨[], [3], [], Fct.val 14 (.int .i64 k1219)⟩, ⟨[0], [], [], Fct.val 15 (.int .i64 (ad k1219 1))⟩, ⟨[1], [], [], Fct.val 3 (.int .i64 (ad k1219 1))⟩] hz1526 hd1526 (by kernel_rfl) ?_ ?_
      · refine sc (fun _ _ _ _ s _ => px (or_move (s.1.trans e1526_3))) ?_
        refine sc (fun _ _ _ f _ _ => px (or_add f.1 rfl rfl)) ?_
        refine sc (fun _ _ _ f _ _ => px (or_assign f.1)) ?_
        exact steps_nil
      intro own1814 a1814 w1814 hd1814 hz1814 hk1814 hf1814 hE1814
      have e1814_0 := (hk1814 0 rfl).trans e1526_0
      obtain ⟨(e1814_3 : a1814.eval (.tmp 3) = .int .i64 (ad k1219 1)), -⟩ := hf1814 [2] rfl
      have hX1814 := Evo.step hX1526 hown hE1814 rfl
      have b1814_As1 := re_ hE1814 b1526_As1
      exact hn1517 _ _ _ hs ⟨own1814, hd1814, hz1814, e1814_0, e1814_3, hX1814, b1814_As1⟩
    refine fl_exit ?_
    refine hp1519 _ _ _ rfl ?_
    replace hs := hz1517 _ hs
    refine hp1517 _ _ _ rfl ?_
    refine hx921 _ _ ?_
    refine hn919 _ _ ?_
    refine rg0_seq 61 own1520 (bz 2) [⟨[], [0], [], Fct.val 60 (.slice As1 s1.length cs1)⟩, ⟨[0], [], [], Fct.val 2 (.slice As1 s1.length cs1)⟩] hz1520 hd1520 (by kernel_rfl) ?_ ?_
    · refine sc (fun _ _ _ _ s _ => px (or_move (s.1.trans e1520_0))) ?_
      refine sc (fun _ _ _ f _ _ => px (or_assign f.1)) ?_
      exact steps_nil
    intro own1815 a1815 w1815 hd1815 hz1815 hk1815 hf1815 hE1815
    obtain ⟨(e1815_2 : a1815.eval (.tmp 2) = .slice As1 s1.length cs1), -⟩ := hf1815 [1] rfl
    have hX1815 := Evo.step hX1520 hown hE1815 rfl
    have b1815_As1 := re_ hE1815 b1520_As1
    refine fl_ret ?_
    obtain rfl := (osome hs).symm
    exact hret _ _ _ _ (.inl rfl) hd1815 (results1_ rfl (RVal.tmp_ e1815_2)) ⟨(rl [(1, 2)] own1815), (As1, cs1), rfl, (Evo.rl_ hX1815 hown rfl), (RwO.rl_ (mm := [(1, 2)]) b1815_As1)⟩
theorem slices_Clone_api_Point_api_Point_w (w : World) (s1 : List (Int × Int)) (As1 : Option Addr) (cs1 : Nat) (hs1 : RdO (fun _ => 0) [0] w R25 As1 cs1 s1) (r : List (Int × Int)) (hs : slices_Clone_api_Point_api_Point s1 = some r) :
    Calls Try.prog 30 #[.slice As1 s1.length cs1] w fun e w' => ∃ (own' : Own) (x : Option Addr × Nat), e = .returned (.slice x.1 r.length x.2) ∧ Evo [] (fun _ => 0) own' w w' ∧ RwO own' 1 [] w' 25 R25 x.1 x.2 r := by
  refine fl_enter (n := 8) rfl rfl rfl (Nat.le_of_ble_eq_true rfl) ?_
  intro a0 Q hd0 hz0 harg hret
  have ha0 := harg 0 _ rfl
  clear harg
  have hE0 : Evo [] (fun _ => 0) (fun _ => 0) w w := Evo.refl _ _ _
  refine rg0_seq 8 (fun _ => 0) (bz 1) [⟨[], [], [], Fct.val 2 (.slice none 0 0)⟩] hz0 hd0 (by kernel_rfl) ?_ ?_
  · refine sc (fun _ _ _ _ _ _ => px (or_assign rfl)) ?_
    exact steps_nil
  intro own22 a22 w22 hd22 hz22 hk22 hf22 hE22
  have e22_0 := (hk22 0 rfl).trans ha0
  have hX22 := es_ hE0 hE22
  have b22_As1 := RdO.evo rfl hE22 hs1
  refine fl_seq (fun Q23 hn23 hp23 => ?_)
  refine rg0_seq 8 own22 (bz 2) [⟨[], [0], [], Fct.val 3 (.slice As1 s1.length cs1)⟩, ⟨[0], [], [], Fct.val 4 (.bool As1.isNone)⟩] hz22 hd22 (by kernel_rfl) ?_ ?_
  · refine sc (fun _ _ _ _ s _ => px (or_move (s.1.trans e22_0))) ?_
    refine sc (fun _ _ _ f _ _ => px (or_eqlNil tu22 f.1 rfl)) ?_
    exact steps_nil
  intro own24 a24 w24 hd24 hz24 hk24 hf24 hE24
  have e24_0 := (hk24 0 rfl).trans e22_0
  obtain ⟨(e24_4 : a24.eval (.tmp 4) = .bool As1.isNone), -⟩ := hf24 [1] rfl
  have hX24 := es_ hX22 hE24
  have b24_As1 := RdO.evo rfl hE24 b22_As1
  refine wpIn_cond_split e24_4 (fun hA25 => ?_) (fun hA25 => ?_)
  · have hl25 : s1 = [] := RdO.nil_of b24_As1 hA25
    have hs0 : ((app ([] : List (Int × Int)) s1).bind fun x28 => some x28) = some r := hs
    have hs : (some ([] : List (Int × Int))) = some r := by simpa [hl25, app, cut, capB] using hs0
    refine rg0_seq 8 own24 (bz 1) [⟨[], [], [], Fct.val 2 (.slice none 0 0)⟩] hz24 hd24 (by kernel_rfl) ?_ ?_
    · refine sc (fun _ _ _ _ _ _ => px (or_assign rfl)) ?_
      exact steps_nil
    intro own32 a32 w32 hd32 hz32 hk32 hf32 hE32
    obtain ⟨(e32_2 : a32.eval (.tmp 2) = .slice none 0 0), -⟩ := hf32 [0] rfl
    have hX32 := es_ hX24 hE32
    refine fl_ret ?_
    refine hp23 _ _ _ rfl ?_
    obtain rfl := osome hs
    exact hret _ _ _ _ (.inl rfl) hd32 (results1_ rfl (RVal.tmp_ e32_2)) ⟨own32, (none, 0), rfl, hX32, RwO.nil_⟩
  refine fl_skip ?_
  refine hn23 _ _ ?_
  obtain ⟨x28, hx28, hs⟩ := obind hs
  refine rg_plain_seq (n := 8) (rs := []) (own0 := own24) (K := [27]) (bs := [0, 0, 3, 7]) (ds := [⟨[], [], [], Fct.row 27 [] 5 25 R25 ([] : List (Int × Int))⟩, ⟨[], [0], [], Fct.val 6 (.slice As1 s1.length cs1)⟩, ⟨[0, 1], [], [27], Fct.row 29 [] 7 25 R25 x28⟩, ⟨[2], [], [], Fct.rel [2, 7] (fun l => ∀ (A30 : Option Addr) (cA30 : Nat), l.getD 1 undef = .slice A30 x28.length cA30 → l.getD 0 undef = .slice A30 x28.length cA30)⟩]) (by kernel_rfl) hz24 hd24 nm_ ?_ ?_
  · refine sc (fun _ _ _ _ _ _ => px (or_lit (lab := 27) (e := 25) (cs := #[]) (F := E25) (or_new [] rfl rfl trivial (by kernel_rfl)) rfl rfl (show 0 ≤ maxLen by decide))) ?_
    refine sc (fun _ _ _ _ s _ => px (or_move (s.1.trans e24_0))) ?_
    refine sc (fun own a wx hf hsl hE => ?_) ?_
    · obtain ⟨⟨⟨A26, cA26⟩, f_5, b_A26⟩, f_6, -⟩ := hf
      exact px (or_append (R := R25) (lab := 27) (lab2 := 29) (L := []) (L3 := []) tp22 f_5 b_A26 (by decide) f_6 (RdO.evo rfl hE b24_As1) hx28 (by decide) (by decide) (mem_of rfl) (.inl (Rep.fl_flat _)))
    refine sc (fun own a wx hf hsl hE => ?_) ?_
    · obtain ⟨⟨⟨A30, cA30⟩, (f_7 : a.eval (.tmp 7) = .slice A30 x28.length cA30), b_A30⟩, -⟩ := hf
      exact px (or_mono (f := Fct.val 2 (.slice A30 x28.length cA30)) (or_assign f_7) (fun own' a' w' v' hp h => fun _ _ h0' => by cases (f_7.symm.trans ((hp.2 7 (by decide)).symm.trans h0')); exact h))
    exact steps_nil
  intro own31 a31 w31 hd31 hz31 hk31 hf31 hE31
  obtain ⟨⟨⟨A30, cA30⟩, (f_7 : a31.eval (.tmp 7) = .slice A30 x28.length cA30), (b31_A30 : RwO own31 29 [] w31 25 R25 A30 cA30 x28)⟩, (q_2 : ∀ (A30 : Option Addr) (cA30 : Nat), a31.eval (.tmp 7) = .slice A30 x28.length cA30 → a31.eval (.tmp 2) = .slice A30 x28.length cA30), -⟩ := hf31 [2, 3] rfl
  have e31_2 := q_2 _ _ f_7
  have hX31 := es_ hX24 hE31
  refine fl_ret ?_
  obtain rfl := (osome hs).symm
  exact hret _ _ _ _ (.inl rfl) hd31 (results1_ rfl (RVal.tmp_ e31_2)) ⟨(rl [(29, 1)] own31), (A30, cA30), rfl, (Evo.rl_ hX31 (fun _ => Nat.le_refl 0) rfl), (RwO.rl_ (mm := [(29, 1)]) b31_A30)⟩
theorem slices_Clip_api_Point_api_Point_w (w : World) (own : Own) (s1 : List (Int × Int)) (As1 : Option Addr) (cs1 : Nat) (hown : ∀ b, own b ≤ 1) (hs1 : RdO own [1] w R25 As1 cs1 s1) (r : List (Int × Int)) (hs : slices_Clip_api_Point_api_Point s1 = some r) :
    Calls Try.prog 31 #[.slice As1 s1.length cs1] w fun e w' => ∃ (own' : Own) (x : Option Addr × Nat), e = .returned (.slice x.1 r.length r.length) ∧ Evo [] own own' w w' ∧ RdO own' [1, 2] w' R25 x.1 r.length r := by
  refine fl_enter (n := 9) rfl rfl rfl (Nat.le_of_ble_eq_true rfl) ?_
  intro a0 Q hd0 hz0 harg hret
  have ha0 := harg 0 _ rfl
  clear harg
  have hE0 : Evo [] own own w w := Evo.refl _ _ _
  refine rg0_seq 9 own (bz 1) [⟨[], [], [], Fct.val 2 (.slice none 0 0)⟩] hz0 hd0 (by kernel_rfl) ?_ ?_
  · refine sc (fun _ _ _ _ _ _ => px (or_assign rfl)) ?_
    exact steps_nil
  intro own16 a16 w16 hd16 hz16 hk16 hf16 hE16
  have e16_0 := (hk16 0 rfl).trans ha0
  have hX16 := Evo.step hE0 hown hE16 rfl
  have b16_As1 := RdO.evo rfl hE16 hs1
  obtain ⟨x17, hx17, hs⟩ := obind hs
  refine rg0_seq 9 own16 [0, 0, 2, 0, 8, 31, 63] [⟨[], [0], [], Fct.val 3 (.slice As1 s1.length cs1)⟩, ⟨[], [0], [], Fct.val 4 (.slice As1 s1.length cs1)⟩, ⟨[1], [], [], Fct.val 5 (.int .i64 (s1.length : Int))⟩, ⟨[], [0], [], Fct.val 6 (.slice As1 s1.length cs1)⟩, ⟨[3], [], [], Fct.val 7 (.int .i64 (s1.length : Int))⟩, ⟨[0, 2, 4], [], [], Fct.viewF [1] 8 R25 x17⟩, ⟨[5], [], [], Fct.rel [2, 8] (fun l => ∀ (A18 : Option Addr), l.getD 1 undef = .slice A18 x17.length x17.length → l.getD 0 undef = .slice A18 x17.length x17.length)⟩] hz16 hd16 (by kernel_rfl) ?_ ?_
  · refine sc (fun _ _ _ _ s _ => px (or_move (s.1.trans e16_0))) ?_
    refine sc (fun _ _ _ _ s _ => px (or_move (s.1.trans e16_0))) ?_
    refine sc (fun _ _ _ f _ _ => px (or_len tu22 f.1 rfl)) ?_
    refine sc (fun _ _ _ _ s _ => px (or_move (s.1.trans e16_0))) ?_
    refine sc (fun _ _ _ f _ _ => px (or_len tu22 f.1 rfl)) ?_
    refine sc (fun _ _ _ f _ hE => px (or_viewF (R := R25) (l := s1) (L := [1]) tu22 ts25 f.1 Bnd.none_ (Bnd.some_ f.2.1) (Bnd.some_ f.2.2.1) (RdO.evo rfl hE b16_As1) hx17 rfl (fun _ B h1 h2 => ⟨B, h1, h2⟩))) ?_
    refine sc (fun own a wx hf hsl hE => ?_) ?_
    · obtain ⟨⟨A18, (f_8 : a.eval (.tmp 8) = .slice A18 x17.length x17.length), b_A18⟩, -⟩ := hf
      exact px (or_mono (f := Fct.val 2 (.slice A18 x17.length x17.length)) (or_assign f_8) (fun own' a' w' v' hp h => fun _ h0' => by cases (f_8.symm.trans ((hp.2 8 (by decide)).symm.trans h0')); exact h))
    exact steps_nil
  intro own19 a19 w19 hd19 hz19 hk19 hf19 hE19
  obtain ⟨⟨A18, (f_8 : a19.eval (.tmp 8) = .slice A18 x17.length x17.length), (b19_A18 : RdO own19 [1] w19 R25 A18 x17.length x17)⟩, (q_2 : ∀ (A18 : Option Addr), a19.eval (.tmp 8) = .slice A18 x17.length x17.length → a19.eval (.tmp 2) = .slice A18 x17.length x17.length), -⟩ := hf19 [5, 6] rfl
  have e19_2 := q_2 _ f_8
  have hX19 := Evo.step hX16 hown hE19 rfl
  refine fl_ret ?_
  obtain rfl := (osome hs).symm
  exact hret _ _ _ _ (.inl rfl) hd19 (results1_ rfl (RVal.tmp_ e19_2)) ⟨own19, (A18, x17.length), rfl, hX19, (RdO.more b19_A18 (by decide))⟩
theorem ring_Thin_w (w : World) (l1 : List (Int × Int)) (Al1 : Option Addr) (cl1 : Nat) (hl1 : RdO (fun _ => 0) [0] w R25 Al1 cl1 l1) (r : List (Int × Int)) (hs : ring_Thin l1 = some r) :
    Calls Try.prog 16 #[.slice Al1 l1.length cl1] w fun e w' => ∃ (own' : Own) (x : Option Addr × Nat), e = .returned (.slice x.1 r.length r.length) ∧ Evo [] (fun _ => 0) own' w w' ∧ RdO own' [1] w' R25 x.1 r.length r := by
  refine fl_enter (n := 29) rfl rfl rfl (Nat.le_of_ble_eq_true rfl) ?_
  intro a0 Q hd0 hz0 harg hret
  have ha0 := harg 0 _ rfl
  clear harg
  have hE0 : Evo [] (fun _ => 0) (fun _ => 0) w w := Evo.refl _ _ _
  refine rg0_seq 29 (fun _ => 0) (bz 1) [⟨[], [], [], Fct.val 2 (.slice none 0 0)⟩] hz0 hd0 (by kernel_rfl) ?_ ?_
  · refine sc (fun _ _ _ _ _ _ => px (or_assign rfl)) ?_
    exact steps_nil
  intro own73 a73 w73 hd73 hz73 hk73 hf73 hE73
  have e73_0 := (hk73 0 rfl).trans ha0
  have hX73 := es_ hE0 hE73
  have b73_Al1 := RdO.evo rfl hE73 hl1
  obtain ⟨r74, hr74, hs⟩ := obind hs
  obtain ⟨r77, hr77, hs⟩ := obind hs
  refine rg_plain_seq (n := 29) (rs := []) (own0 := own73) (K := [76]) (bs := (bz 4)) (ds := [⟨[], [0], [], Fct.val 4 (.slice Al1 l1.length cl1)⟩, ⟨[0], [], [], Fct.row 76 [] 5 25 R25 r74⟩, ⟨[1], [], [76], Fct.mems [79] 6 (fun (x : Option Addr × Nat) => .slice x.1 r77.length x.2) (fun (x : Option Addr × Nat) own w => RwO own 79 [] w 25 R25 x.1 x.2 r77) (fun hk he h => RwO.evo (hits_sub hk (by decide)) he h)⟩, ⟨[2], [], [], Fct.rel [3, 6] (fun l => ∀ (A78 : Option Addr) (cA78 : Nat), l.getD 1 undef = .slice A78 r77.length cA78 → l.getD 0 undef = .slice A78 r77.length cA78)⟩]) (by kernel_rfl) hz73 hd73 nm_ ?_ ?_
  · refine sc (fun _ _ _ _ s _ => px (or_move (s.1.trans e73_0))) ?_
    refine sc (fun _ _ _ f _ hE => px (or_call cf30 (args1 f.1) (slices_Clone_api_Point_api_Point_w _ l1 Al1 cl1 (RdO.zero (RdO.evo rfl hE b73_Al1)) r74 hr74) (post_row (m' := (look0 [(1, 76)])) (.inl (Rep.fl_flat _)) rfl rfl (fun _ => rfl)))) ?_
    refine sc (fun own a wx hf hsl hE => ?_) ?_
    · obtain ⟨⟨⟨A75, cA75⟩, f_5, b_A75⟩, -⟩ := hf
      exact px (or_call cf29 (args1 f_5) (slices_Compact_api_Point_api_Point_w _ (forth own (look0 [(76, 1)])) r74 A75 cA75 (look0_le rfl) (RwO.forth_ (m := (look0 [(76, 1)])) b_A75) r77 hr77) (post_mems (m := (look0 [(76, 1)])) (m' := (look0 [(2, 79)])) (hm_of rfl) (fun own' w' a' x h1 h => ⟨x, h1, RwO.back_ h (by decide) (.inl (Rep.fl_flat _))⟩)))
    refine sc (fun own a wx hf hsl hE => ?_) ?_
    · obtain ⟨⟨⟨A78, cA78⟩, (f_6 : a.eval (.tmp 6) = .slice A78 r77.length cA78), b_A78⟩, -⟩ := hf
      exact px (or_mono (f := Fct.val 3 (.slice A78 r77.length cA78)) (or_assign f_6) (fun own' a' w' v' hp h => fun _ _ h0' => by cases (f_6.symm.trans ((hp.2 6 (by decide)).symm.trans h0')); exact h))
    exact steps_nil
  intro own80 a80 w80 hd80 hz80 hk80 hf80 hE80
  obtain ⟨⟨⟨A78, cA78⟩, (f_6 : a80.eval (.tmp 6) = .slice A78 r77.length cA78), (b80_A78 : RwO own80 79 [] w80 25 R25 A78 cA78 r77)⟩, (q_3 : ∀ (A78 : Option Addr) (cA78 : Nat), a80.eval (.tmp 6) = .slice A78 r77.length cA78 → a80.eval (.tmp 3) = .slice A78 r77.length cA78), -⟩ := hf80 [2, 3] rfl
  have e80_3 := q_3 _ _ f_6
  have hX80 := es_ hX73 hE80
  refine fl_seq (fun Q81 hn81 hp81 => ?_)
  refine fl_block (fun Q82 hn82 hx82 hp82 => ?_)
  refine fl_loop (body := (fun s => ring_Thin_b1 s)) (z := r) (show loopO _ _ = _ from hs) (fun (out99 : List (Int × Int)) a wx => ∃ (ox : Own) (A97 : Option Addr) (c98 : Nat), a.defers = [] ∧ a.tmps.size = 29 ∧ a.eval (.tmp 3) = .slice A97 out99.length c98 ∧ Evo [] (fun _ => 0) ox w wx ∧ RwO ox 100 [] wx 25 R25 A97 c98 out99) ?_ ?_
  · exact ⟨(rl [(79, 100)] own80), A78, cA78, hd80, hz80, e80_3, (Evo.rl_ hX80 (fun _ => Nat.le_refl 0) rfl), (RwO.rl_ (mm := [(79, 100)]) b80_A78)⟩
  · rintro out99 zz115 a115 w115 ⟨own115, A97, c98, hd116, hz116, e116_3, hE116, b116_A97⟩ hs Q115 hn115 hp115 hz115
    have hs : ring_Thin_b1 out99 = some zz115 := hs
    refine fl_seq (fun Q117 hn117 hp117 => ?_)
    obtain ⟨x118, hx118, hs⟩ := obind hs
    obtain ⟨x119, hx119, hs⟩ := obind hs
    obtain ⟨x120, hx120, hs⟩ := obind hs
    refine rg_draw_seq g_mixed (n := 29) (rs := []) (own0 := own115) (K := []) (bs := [0, 1, 3, 7, 15, 15, 47, 111, 255, 511, 15, 1039, 3087, 8191, 16383]) (ds := [⟨[], [3], [], Fct.val 7 (.slice A97 out99.length c98)⟩, ⟨[0], [], [], Fct.val 8 (.int .i64 (out99.length : Int))⟩, ⟨[1], [], [], Fct.val 9 (.bool (decide (1 < (out99.length : Int))))⟩, ⟨[2], [], [], Fct.val 10 (.bool (decide (1 < (out99.length : Int))))⟩, ⟨[3], [3], [], Fct.cond (decide (1 < (out99.length : Int))) (some 11) (Fct.val 11 (.slice A97 out99.length c98))⟩, ⟨[3], [3], [], Fct.cond (decide (1 < (out99.length : Int))) (some 12) (Fct.val 12 (.slice A97 out99.length c98))⟩, ⟨[3, 5], [], [], Fct.cond (decide (1 < (out99.length : Int))) (some 13) (Fct.val 13 (.int .i64 (out99.length : Int)))⟩, ⟨[3, 6], [], [], Fct.cond (decide (1 < (out99.length : Int))) (some 14) (Fct.val 14 (.int .i64 (sb (out99.length : Int) 1)))⟩, ⟨[3, 4, 7], [], [], Fct.cond (decide (1 < (out99.length : Int))) (some 15) (Fct.val 15 (.pointer (some ((adr A97).add ((sb (out99.length : Int) 1 : Int).toNat * R25.s)))))⟩, ⟨[3, 8], [], [], Fct.cond (decide (1 < (out99.length : Int))) (some 16) (Fct.val 16 (.agg #[.int .i64 x118.1, .int .i64 x118.2]))⟩, ⟨[3], [3], [], Fct.cond (decide (1 < (out99.length : Int))) (some 17) (Fct.val 17 (.slice A97 out99.length c98))⟩, ⟨[3, 10], [], [], Fct.cond (decide (1 < (out99.length : Int))) (some 18) (Fct.val 18 (.pointer (some ((adr A97).add ((0 : Int).toNat * R25.s)))))⟩, ⟨[3, 11], [], [], Fct.cond (decide (1 < (out99.length : Int))) (some 19) (Fct.val 19 (.agg #[.int .i64 x119.1, .int .i64 x119.2]))⟩, ⟨[3, 9, 12], [], [], Fct.cond (decide (1 < (out99.length : Int))) (some 20) (Fct.val 20 (.bool (decide (x118 = x119))))⟩, ⟨[3, 13], [], [], Fct.val 21 (.bool x120)⟩]) (by kernel_rfl) hz116 hd116 nm_ ?_ ?_
    · refine sc (fun _ _ _ _ s _ => px (or_move (s.1.trans e116_3))) ?_
      refine sc (fun _ _ _ f _ _ => px (or_len tu22 f.1 rfl)) ?_
      refine sc (fun _ _ _ f _ _ => px (or_gtr f.1 rfl rfl)) ?_
      refine sc (fun _ _ _ f _ _ => px (or_move f.1)) ?_
      refine sc (fun _ _ _ f s _ => sg_t rfl rfl rfl f.1 (fun hg => or_move (s.1.trans e116_3))) ?_
      refine sc (fun _ _ _ f s _ => sg_t rfl rfl rfl f.1 (fun hg => or_move (s.1.trans e116_3))) ?_
      refine sc (fun _ _ _ f _ _ => sg_t rfl rfl rfl f.1 (fun hg => or_len tu22 (f.2.1.1 hg) rfl)) ?_
      refine sc (fun _ _ _ f _ _ => sg_t rfl rfl rfl f.1 (fun hg => or_sub (f.2.1.1 hg) rfl rfl)) ?_
      refine sc (fun _ _ _ f _ _ => sg_t rfl rfl rfl f.1 (fun hg => or_index (R := R25) (l := out99) tl22 (f.2.1.1 hg) (f.2.2.1.1 hg) (RdO.some_ (RwO.rd b116_A97) (gd_t hx118 hg)) (gd_t hx118 hg))) ?_
      refine sc (fun _ _ _ f _ hE => sg_t rfl rfl rfl f.1 (fun hg => or_load (l := E25.f x118) ta25 (f.2.1.1 hg) (RdO.cells (F := E25) (RwO.rd (re_ hE b116_A97)) (gd_t hx118 hg)) rfl)) ?_
      refine sc (fun _ _ _ f s _ => sg_t rfl rfl rfl f.1 (fun hg => or_move (s.1.trans e116_3))) ?_
      refine sc (fun _ _ _ f _ _ => sg_t rfl rfl rfl f.1 (fun hg => or_index (R := R25) (l := out99) tl22 (f.2.1.1 hg) rfl (RdO.some_ (RwO.rd b116_A97) (gd_t hx119 hg)) (gd_t hx119 hg))) ?_
      refine sc (fun _ _ _ f _ hE => sg_t rfl rfl rfl f.1 (fun hg => or_load (l := E25.f x119) ta25 (f.2.1.1 hg) (RdO.cells (F := E25) (RwO.rd (re_ hE b116_A97)) (gd_t hx119 hg)) rfl)) ?_
      refine sc (fun _ _ _ f _ _ => sg_t rfl rfl rfl f.1 (fun hg => or_eqlA sg25 (f.2.1.1 hg) (f.2.2.1.1 hg) (se25 x118.1 x118.2 x119.1 x119.2 _) rfl)) ?_
      refine sc (fun _ _ _ f _ _ => px (or_and f.1 (fun hx => f.2.1.1 hx) rfl (osome hx120).symm)) ?_
      exact steps_nil
    intro own121 a121 w121 hd121 hz121 hk121 hf121 hE121
    have e121_3 := (hk121 3 rfl).trans e116_3
    obtain ⟨(e121_21 : a121.eval (.tmp 21) = .bool x120), -⟩ := hf121 [14] rfl
    have hX121 := es_ hE116 hE121
    have b121_A97 := re_ hE121 b116_A97
    refine fl_cond e121_21 hs (fun c122 hs => ?_) (fun c122 hs => ?_)
    · refine fl_skip ?_
      refine hn117 _ _ ?_
      refine fl_block (fun Q123 hn123 hx123 hp123 => ?_)
      obtain ⟨x126, hx126, hs⟩ := obind hs
      refine rg_plain (n := 29) (rs := [Fct.rowAt 100 [] 25 R25 A97 c98 out99]) (own0 := own121) (K := [100]) (bs := [0, 0, 2, 6, 15, 31]) (ds := [⟨[], [3], [], Fct.val 22 (.slice A97 out99.length c98)⟩, ⟨[], [3], [], Fct.val 23 (.slice A97 out99.length c98)⟩, ⟨[1], [], [], Fct.val 24 (.int .i64 (out99.length : Int))⟩, ⟨[2], [], [], Fct.val 25 (.int .i64 (sb (out99.length : Int) 1))⟩, ⟨[0, 3, 6], [], [100], Fct.row 128 [] 26 25 R25 x126⟩, ⟨[4], [], [], Fct.rel [3, 26] (fun l => ∀ (A127 : Option Addr) (cA127 : Nat), l.getD 1 undef = .slice A127 x126.length cA127 → l.getD 0 undef = .slice A127 x126.length cA127)⟩]) (by kernel_rfl) hz121 hd121 (by simp only [List.forall_mem_cons]; exact ⟨b121_A97, fun _ h => nomatch h⟩) ?_ ?_
      · refine sc (fun _ _ _ _ s _ => px (or_move (s.1.trans e121_3))) ?_
        refine sc (fun _ _ _ _ s _ => px (or_move (s.1.trans e121_3))) ?_
        refine sc (fun _ _ _ f _ _ => px (or_len tu22 f.1 rfl)) ?_
        refine sc (fun _ _ _ f _ _ => px (or_sub f.1 rfl rfl)) ?_
        refine sc (fun own a wx hf hsl hE => ?_) ?_
        · obtain ⟨f_22, f_25, b_A97, -⟩ := hf
          exact px (or_keep (R := R25) (lab := 100) (lab2 := 128) tu22 ts25 f_22 (Bnd.some_ f_25) b_A97 hx126 (mem_of rfl) (by decide) (.inl (Rep.fl_flat _)))
        refine sc (fun own a wx hf hsl hE => ?_) ?_
        · obtain ⟨⟨⟨A127, cA127⟩, (f_26 : a.eval (.tmp 26) = .slice A127 x126.length cA127), b_A127⟩, -⟩ := hf
          exact px (or_mono (f := Fct.val 3 (.slice A127 x126.length cA127)) (or_assign f_26) (fun own' a' w' v' hp h => fun _ _ h0' => by cases (f_26.symm.trans ((hp.2 26 (by decide)).symm.trans h0')); exact h))
        exact steps_nil
      intro own129 a129 w129 hd129 hz129 hk129 hf129 hE129
      obtain ⟨⟨⟨A127, cA127⟩, (f_26 : a129.eval (.tmp 26) = .slice A127 x126.length cA127), (b129_A127 : RwO own129 128 [] w129 25 R25 A127 cA127 x126)⟩, (q_3 : ∀ (A127 : Option Addr) (cA127 : Nat), a129.eval (.tmp 26) = .slice A127 x126.length cA127 → a129.eval (.tmp 3) = .slice A127 x126.length cA127), -⟩ := hf129 [4, 5] rfl
      have e129_3 := q_3 _ _ f_26
      have hX129 := es_ hX121 hE129
      refine hn123 _ _ ?_
      exact hn115 _ _ _ hs ⟨(rl [(128, 100)] own129), A127, cA127, hd129, hz129, e129_3, (Evo.rl_ hX129 (fun _ => Nat.le_refl 0) rfl), (RwO.rl_ (mm := [(128, 100)]) b129_A127)⟩
    refine fl_exit ?_
    refine hp117 _ _ _ rfl ?_
    replace hs := hz115 _ hs
    refine hp115 _ _ _ rfl ?_
    refine hx82 _ _ ?_
    refine hn81 _ _ ?_
    obtain ⟨r130, hr130, hs⟩ := obind hs
    refine rg0_seq 29 own121 (bz 3) [⟨[], [3], [], Fct.val 27 (.slice A97 out99.length c98)⟩, ⟨[0], [], [], Fct.mems [132, 133, 100] 28 (fun (x : Option Addr × Nat) => .slice x.1 r130.length r130.length) (fun (x : Option Addr × Nat) own w => RdO own [132, 133, 100] w R25 x.1 r130.length r130) (fun hk he h => RdO.evo (hits_sub hk (by decide)) he h)⟩, ⟨[1], [], [], Fct.rel [2, 28] (fun l => ∀ (A131 : Option Addr), l.getD 1 undef = .slice A131 r130.length r130.length → l.getD 0 undef = .slice A131 r130.length r130.length)⟩] hz121 hd121 (by kernel_rfl) ?_ ?_
    · refine sc (fun _ _ _ _ s _ => px (or_move (s.1.trans e121_3))) ?_
      refine sc (fun own _ _ f _ hE => px (or_call cf31 (args1 f.1) (slices_Clip_api_Point_api_Point_w _ (forth own (inL [100])) out99 A97 c98 inL_le (RdO.alias_ (La := [100]) (RwO.rd (re_ hE b121_A97)) (by decide)) r130 hr130) (post_alias (La := [100]) (m' := (look0 [(1, 132), (2, 133)])) (fun own' w' a' x ho hsz h1 h => ⟨x, h1, RdO.backN_ ho hsz h (by decide) (by decide) (by decide)⟩)))) ?_
      refine sc (fun own a wx hf hsl hE => ?_) ?_
      · obtain ⟨⟨⟨A131, cA131⟩, (f_28 : a.eval (.tmp 28) = .slice A131 r130.length r130.length), b_A131⟩, -⟩ := hf
        exact px (or_mono (f := Fct.val 2 (.slice A131 r130.length r130.length)) (or_assign f_28) (fun own' a' w' v' hp h => fun _ h0' => by cases (f_28.symm.trans ((hp.2 28 (by decide)).symm.trans h0')); exact h))
      exact steps_nil
    intro own134 a134 w134 hd134 hz134 hk134 hf134 hE134
    obtain ⟨⟨⟨A131, cA131⟩, (f_28 : a134.eval (.tmp 28) = .slice A131 r130.length r130.length), (b134_A131 : RdO own134 [132, 133, 100] w134 R25 A131 r130.length r130)⟩, (q_2 : ∀ (A131 : Option Addr), a134.eval (.tmp 28) = .slice A131 r130.length r130.length → a134.eval (.tmp 2) = .slice A131 r130.length r130.length), -⟩ := hf134 [1, 2] rfl
    have e134_2 := q_2 _ f_28
    have hX134 := es_ hX121 hE134
    refine fl_ret ?_
    obtain rfl := (osome hs).symm
    exact hret _ _ _ _ (.inl rfl) hd134 (results1_ rfl (RVal.tmp_ e134_2)) ⟨(rl [(100, 1), (132, 1), (133, 1)] own134), (A131, r130.length), rfl, (Evo.rl_ hX134 (fun _ => Nat.le_refl 0) rfl), (RdO.more (RdO.rl_ (mm := [(100, 1), (132, 1), (133, 1)]) b134_A131) (by decide))⟩
theorem polyclip_sides_w (w : World) (b1 : (Int × Int) × (Int × Int)) (r : (Int × Bool × Bool) × (Int × Bool × Bool) × (Int × Bool × Bool) × (Int × Bool × Bool)) (hs : polyclip_sides b1 = some r) :
    Calls Try.prog 27 #[.agg #[.int .i64 b1.1.1, .int .i64 b1.1.2, .int .i64 b1.2.1, .int .i64 b1.2.2]] w fun e w' => ∃ own' : Own, e = .returned (.agg #[.int .i64 r.1.1, .bool r.1.2.1, .bool r.1.2.2, .int .i64 r.2.1.1, .bool r.2.1.2.1, .bool r.2.1.2.2, .int .i64 r.2.2.1.1, .bool r.2.2.1.2.1, .bool r.2.2.1.2.2, .int .i64 r.2.2.2.1, .bool r.2.2.2.2.1, .bool r.2.2.2.2.2]) ∧ Evo [] (fun _ => 0) own' w w' := by
  refine fl_enter (n := 20) rfl rfl rfl (Nat.le_of_ble_eq_true rfl) ?_
  intro a0 Q hd0 hz0 harg hret
  have ha0 := harg 0 _ rfl
  clear harg
  have hE0 : Evo [] (fun _ => 0) (fun _ => 0) w w := Evo.refl _ _ _
  refine rg0_seq 20 (fun _ => 0) [0, 0] [⟨[], [0], [], Fct.blk 19 1 (fun g => .pointer (some ⟨g, 0, none⟩)) 31 #[.int .i64 b1.1.1, .int .i64 b1.1.2, .int .i64 b1.2.1, .int .i64 b1.2.2]⟩, ⟨[], [], [], Fct.blk 21 2 (fun g => .pointer (some ⟨g, 0, none⟩)) 57 #[.int .i64 0, .bool false, .bool false, .int .i64 0, .bool false, .bool false, .int .i64 0, .bool false, .bool false, .int .i64 0, .bool false, .bool false]⟩] hz0 hd0 (by kernel_rfl) ?_ ?_
  · refine sc (fun _ _ _ _ s _ => px (or_new [(0, .agg #[.int .i64 b1.1.1, .int .i64 b1.1.2, .int .i64 b1.2.1, .int .i64 b1.2.2])] rfl rfl ⟨(s.1.trans ha0), trivial⟩ (by kernel_rfl))) ?_
    refine sc (fun _ _ _ _ _ _ => px (or_new [] rfl rfl trivial (by kernel_rfl))) ?_
    exact steps_nil
  intro own22 a22 w22 hd22 hz22 hk22 hf22 hE22
  obtain ⟨⟨g18, (e22_1 : a22.eval (.tmp 1) = .pointer (some ⟨g18, 0, none⟩)), (b22_g18 : BlkO own22 19 w22 g18 31 #[.int .i64 b1.1.1, .int .i64 b1.1.2, .int .i64 b1.2.1, .int .i64 b1.2.2])⟩, ⟨g20, (e22_2 : a22.eval (.tmp 2) = .pointer (some ⟨g20, 0, none⟩)), (b22_g20 : BlkO own22 21 w22 g20 57 #[.int .i64 0, .bool false, .bool false, .int .i64 0, .bool false, .bool false, .int .i64 0, .bool false, .bool false, .int .i64 0, .bool false, .bool false])⟩, -⟩ := hf22 [0, 1] rfl
  have hX22 := es_ hE0 hE22
  refine rg_plain_seq (n := 20) (rs := [Fct.at_ 21 g20 57 #[.int .i64 0, .bool false, .bool false, .int .i64 0, .bool false, .bool false, .int .i64 0, .bool false, .bool false, .int .i64 0, .bool false, .bool false]]) (own0 := own22) (K := [21]) (bs := [0, 1, 3, 7, 0, 16, 48, 112, 0, 256, 768, 1792, 0, 4096, 12288, 28672, 65535, 131071]) (ds := [⟨[], [1], [], Fct.val 3 (.pointer (some ⟨g18, 0, none⟩))⟩, ⟨[0], [], [], Fct.val 4 (.pointer (some ⟨g18, 0, none⟩))⟩, ⟨[1], [], [], Fct.val 5 (.int .i64 b1.1.1)⟩, ⟨[2], [], [], Fct.val 6 (.agg #[.int .i64 b1.1.1, .bool true, .bool false])⟩, ⟨[], [1], [], Fct.val 7 (.pointer (some ⟨g18, 2, none⟩))⟩, ⟨[4], [], [], Fct.val 8 (.pointer (some ⟨g18, 2, none⟩))⟩, ⟨[5], [], [], Fct.val 9 (.int .i64 b1.2.1)⟩, ⟨[6], [], [], Fct.val 10 (.agg #[.int .i64 b1.2.1, .bool false, .bool false])⟩, ⟨[], [1], [], Fct.val 11 (.pointer (some ⟨g18, 0, none⟩))⟩, ⟨[8], [], [], Fct.val 12 (.pointer (some ⟨g18, 1, none⟩))⟩, ⟨[9], [], [], Fct.val 13 (.int .i64 b1.1.2)⟩, ⟨[10], [], [], Fct.val 14 (.agg #[.int .i64 b1.1.2, .bool true, .bool true])⟩, ⟨[], [1], [], Fct.val 15 (.pointer (some ⟨g18, 2, none⟩))⟩, ⟨[12], [], [], Fct.val 16 (.pointer (some ⟨g18, 3, none⟩))⟩, ⟨[13], [], [], Fct.val 17 (.int .i64 b1.2.2)⟩, ⟨[14], [], [], Fct.val 18 (.agg #[.int .i64 b1.2.2, .bool false, .bool true])⟩, ⟨[3, 7, 11, 15], [], [], Fct.val 19 (.agg #[.int .i64 b1.1.1, .bool true, .bool false, .int .i64 b1.2.1, .bool false, .bool false, .int .i64 b1.1.2, .bool true, .bool true, .int .i64 b1.2.2, .bool false, .bool true])⟩, ⟨[16, 18], [2], [21], Fct.at_ 23 g20 57 #[.int .i64 b1.1.1, .bool true, .bool false, .int .i64 b1.2.1, .bool false, .bool false, .int .i64 b1.1.2, .bool true, .bool true, .int .i64 b1.2.2, .bool false, .bool true]⟩]) (by kernel_rfl) hz22 hd22 (by simp only [List.forall_mem_cons]; exact ⟨b22_g20, fun _ h => nomatch h⟩) ?_ ?_
  · refine sc (fun _ _ _ _ s _ => px (or_field fo31_0 (s.1.trans e22_1) (by rfl))) ?_
    refine sc (fun _ _ _ f _ _ => px (or_field fo25_0 f.1 (by rfl))) ?_
    refine sc (fun _ _ _ f _ hE => px (or_load1 to3 f.1 (Blk.at_ (be_ hE b22_g18).2 0 rfl))) ?_
    refine sc (fun _ _ _ f _ _ => px (or_k [(5, .int .i64 b1.1.1)] rfl rfl ⟨f.1, trivial⟩ (by kernel_rfl))) ?_
    refine sc (fun _ _ _ _ s _ => px (or_field fo31_1 (s.1.trans e22_1) (by rfl))) ?_
    refine sc (fun _ _ _ f _ _ => px (or_field fo25_0 f.1 (by rfl))) ?_
    refine sc (fun _ _ _ f _ hE => px (or_load1 to3 f.1 (Blk.at_ (be_ hE b22_g18).2 2 rfl))) ?_
    refine sc (fun _ _ _ f _ _ => px (or_k [(9, .int .i64 b1.2.1)] rfl rfl ⟨f.1, trivial⟩ (by kernel_rfl))) ?_
    refine sc (fun _ _ _ _ s _ => px (or_field fo31_0 (s.1.trans e22_1) (by rfl))) ?_
    refine sc (fun _ _ _ f _ _ => px (or_field fo25_1 f.1 (by rfl))) ?_
    refine sc (fun _ _ _ f _ hE => px (or_load1 to3 f.1 (Blk.at_ (be_ hE b22_g18).2 1 rfl))) ?_
    refine sc (fun _ _ _ f _ _ => px (or_k [(13, .int .i64 b1.1.2)] rfl rfl ⟨f.1, trivial⟩ (by kernel_rfl))) ?_
    refine sc (fun _ _ _ _ s _ => px (or_field fo31_1 (s.1.trans e22_1) (by rfl))) ?_
    refine sc (fun _ _ _ f _ _ => px (or_field fo25_1 f.1 (by rfl))) ?_
    refine sc (fun _ _ _ f _ hE => px (or_load1 to3 f.1 (Blk.at_ (be_ hE b22_g18).2 3 rfl))) ?_
    refine sc (fun _ _ _ f _ _ => px (or_k [(17, .int .i64 b1.2.2)] rfl rfl ⟨f.1, trivial⟩ (by kernel_rfl))) ?_
    refine sc (fun _ _ _ f _ _ => px (or_k [(6, .agg #[.int .i64 b1.1.1, .bool true, .bool false]), (10, .agg #[.int .i64 b1.2.1, .bool false, .bool false]), (14, .agg #[.int .i64 b1.1.2, .bool true, .bool true]), (18, .agg #[.int .i64 b1.2.2, .bool false, .bool true])] rfl rfl ⟨f.1, f.2.1, f.2.2.1, f.2.2.2.1, trivial⟩ (by kernel_rfl))) ?_
    refine sc (fun own a wx hf hsl hE => ?_) ?_
    · obtain ⟨f_19, b_g20, -⟩ := hf
      obtain ⟨s_2, -⟩ := hsl
      exact px (or_store (l := #[.int .i64 b1.1.1, .bool true, .bool false, .int .i64 b1.2.1, .bool false, .bool false, .int .i64 b1.1.2, .bool true, .bool true, .int .i64 b1.2.2, .bool false, .bool true]) (lab := 21) (lab2 := 23) ts57 (s_2.trans e22_2) f_19 b_g20 (by simp) (by kernel_rfl) (mem_of rfl) (by decide) (by kernel_rfl) (fun own' a' w' ha hb => hb))
    exact steps_nil
  intro own24 a24 w24 hd24 hz24 hk24 hf24 hE24
  have e24_2 := (hk24 2 rfl).trans e22_2
  obtain ⟨(b24_g20 : BlkO own24 23 w24 g20 57 #[.int .i64 b1.1.1, .bool true, .bool false, .int .i64 b1.2.1, .bool false, .bool false, .int .i64 b1.1.2, .bool true, .bool true, .int .i64 b1.2.2, .bool false, .bool true]), -⟩ := hf24 [17] rfl
  have hX24 := es_ hX22 hE24
  refine fl_ret ?_
  obtain rfl := osome hs
  exact hret _ _ _ _ (.inl rfl) hd24 (results1_ rfl (RVal.cell_ e24_2 (run_loadVarAgg (l := [.int .i64 b1.1.1, .bool true, .bool false, .int .i64 b1.2.1, .bool false, .bool false, .int .i64 b1.1.2, .bool true, .bool true, .int .i64 b1.2.2, .bool false, .bool true]) ta57 (Blk.cellsFrom b24_g20.2 0 rfl) rfl))) ⟨own24, rfl, hX24⟩
theorem polyclip_Ring_w (w : World) (l1 : List (Int × Int)) (Al1 : Option Addr) (cl1 : Nat) (b2 : (Int × Int) × (Int × Int)) (hl1 : RdO (fun _ => 0) [0] w R25 Al1 cl1 l1) (r : List (Int × Int)) (hs : polyclip_Ring l1 b2 = some r) :
    Calls Try.prog 10 #[.slice Al1 l1.length cl1, .agg #[.int .i64 b2.1.1, .int .i64 b2.1.2, .int .i64 b2.2.1, .int .i64 b2.2.2]] w fun e w' => ∃ (own' : Own) (x : Option Addr × Nat), e = .returned (.slice x.1 r.length x.2) ∧ Evo [] (fun _ => 0) own' w w' ∧ RdO own' [1] w' R25 x.1 x.2 r := by
  refine fl_enter (n := 40) rfl rfl rfl (Nat.le_of_ble_eq_true rfl) ?_
  intro a0 Q hd0 hz0 harg hret
  have ha0 := harg 0 _ rfl
  have ha1 := harg 1 _ rfl
  clear harg
  have hE0 : Evo [] (fun _ => 0) (fun _ => 0) w w := Evo.refl _ _ _
  refine rg0_seq 40 (fun _ => 0) [0, 0] [⟨[], [1], [], Fct.blk 88 3 (fun g => .pointer (some ⟨g, 0, none⟩)) 31 #[.int .i64 b2.1.1, .int .i64 b2.1.2, .int .i64 b2.2.1, .int .i64 b2.2.2]⟩, ⟨[], [], [], Fct.val 4 (.slice none 0 0)⟩] hz0 hd0 (by kernel_rfl) ?_ ?_
  · refine sc (fun _ _ _ _ s _ => px (or_new [(1, .agg #[.int .i64 b2.1.1, .int .i64 b2.1.2, .int .i64 b2.2.1, .int .i64 b2.2.2])] rfl rfl ⟨(s.1.trans ha1), trivial⟩ (by kernel_rfl))) ?_
    refine sc (fun _ _ _ _ _ _ => px (or_assign rfl)) ?_
    exact steps_nil
  intro own89 a89 w89 hd89 hz89 hk89 hf89 hE89
  have e89_0 := (hk89 0 rfl).trans ha0
  obtain ⟨⟨g87, (e89_3 : a89.eval (.tmp 3) = .pointer (some ⟨g87, 0, none⟩)), (b89_g87 : BlkO own89 88 w89 g87 31 #[.int .i64 b2.1.1, .int .i64 b2.1.2, .int .i64 b2.2.1, .int .i64 b2.2.2])⟩, -⟩ := hf89 [0] rfl
  have hX89 := es_ hE0 hE89
  have b89_Al1 := RdO.evo rfl hE89 hl1
  refine fl_seq (fun Q90 hn90 hp90 => ?_)
  obtain ⟨r91, hr91, hs⟩ := obind hs
  obtain ⟨r92, hr92, hs⟩ := obind hs
  refine rg0_seq 40 own89 (bz 8) [⟨[], [0], [], Fct.val 7 (.slice Al1 l1.length cl1)⟩, ⟨[0], [], [], Fct.val 8 (.bool r91)⟩, ⟨[1], [], [], Fct.val 9 (.bool (!r91))⟩, ⟨[2], [], [], Fct.val 10 (.bool (!r91))⟩, ⟨[3], [3], [], Fct.cond (!(!r91)) (some 11) (Fct.val 11 (.agg #[.int .i64 b2.1.1, .int .i64 b2.1.2, .int .i64 b2.2.1, .int .i64 b2.2.2]))⟩, ⟨[3, 4], [], [], Fct.cond (!(!r91)) (some 12) (Fct.val 12 (.bool r92))⟩, ⟨[3, 5], [], [], Fct.cond (!(!r91)) (some 13) (Fct.val 13 (.bool (!r92)))⟩, ⟨[3, 6], [], [], Fct.val 14 (.bool ((!r91) || (!r92)))⟩] hz89 hd89 (by kernel_rfl) ?_ ?_
  · refine sc (fun _ _ _ _ s _ => px (or_move (s.1.trans e89_0))) ?_
    refine sc (fun _ _ _ f _ hE => px (or_call cf24 (args1 f.1) (exact_Right_w _ l1 Al1 cl1 (RdO.zero (RdO.evo rfl hE b89_Al1)) r91 hr91) post_val)) ?_
    refine sc (fun _ _ _ f _ _ => px (or_not f.1 rfl)) ?_
    refine sc (fun _ _ _ f _ _ => px (or_move f.1)) ?_
    refine sc (fun _ _ _ f s hE => sg_f rfl rfl rfl f.1 (fun hg => or_load (l := [.int .i64 b2.1.1, .int .i64 b2.1.2, .int .i64 b2.2.1, .int .i64 b2.2.2]) ta31 (s.1.trans e89_3) (Blk.cellsFrom (be_ hE b89_g87).2 0 rfl) rfl)) ?_
    refine sc (fun _ _ _ f _ _ => sg_f rfl rfl rfl f.1 (fun hg => or_call cf14 (args1 (f.2.1.1 hg)) (rows_Right_w _ b2  r92 (gd_t hr92 hg)) post_val)) ?_
    refine sc (fun _ _ _ f _ _ => sg_f rfl rfl rfl f.1 (fun hg => or_not (f.2.1.1 hg) rfl)) ?_
    refine sc (fun _ _ _ f _ _ => px (or_or f.1 rfl (fun hx => f.2.1.1 hx) rfl)) ?_
    exact steps_nil
  intro own93 a93 w93 hd93 hz93 hk93 hf93 hE93
  have e93_0 := (hk93 0 rfl).trans e89_0
  have e93_3 := (hk93 3 rfl).trans e89_3
  obtain ⟨(e93_14 : a93.eval (.tmp 14) = .bool ((!r91) || (!r92))), -⟩ := hf93 [7] rfl
  have hX93 := es_ hX89 hE93
  have b93_Al1 := RdO.evo rfl hE93 b89_Al1
  have b93_g87 := be_ hE93 b89_g87
  refine fl_cond e93_14 hs (fun c94 hs => ?_) (fun c94 hs => ?_)
  · refine rg0_seq 40 own93 (bz 1) [⟨[], [], [], Fct.val 4 (.slice none 0 0)⟩] hz93 hd93 (by kernel_rfl) ?_ ?_
    · refine sc (fun _ _ _ _ _ _ => px (or_assign rfl)) ?_
      exact steps_nil
    intro own95 a95 w95 hd95 hz95 hk95 hf95 hE95
    obtain ⟨(e95_4 : a95.eval (.tmp 4) = .slice none 0 0), -⟩ := hf95 [0] rfl
    have hX95 := es_ hX93 hE95
    refine fl_ret ?_
    refine hp90 _ _ _ rfl ?_
    obtain rfl := osome hs
    exact hret _ _ _ _ (.inl rfl) hd95 (results1_ rfl (RVal.tmp_ e95_4)) ⟨own95, (none, 0), rfl, hX95, RdO.nil_⟩
  refine fl_skip ?_
  refine hn90 _ _ ?_
  refine fl_seq (fun Q96 hn96 hp96 => ?_)
  obtain ⟨r97, hr97, hs⟩ := obind hs
  refine rg0_seq 40 own93 [0, 1, 0] [⟨[], [3], [], Fct.val 15 (.agg #[.int .i64 b2.1.1, .int .i64 b2.1.2, .int .i64 b2.2.1, .int .i64 b2.2.2])⟩, ⟨[0], [], [], Fct.val 16 (.agg #[.int .i64 r97.1.1, .bool r97.1.2.1, .bool r97.1.2.2, .int .i64 r97.2.1.1, .bool r97.2.1.2.1, .bool r97.2.1.2.2, .int .i64 r97.2.2.1.1, .bool r97.2.2.1.2.1, .bool r97.2.2.1.2.2, .int .i64 r97.2.2.2.1, .bool r97.2.2.2.2.1, .bool r97.2.2.2.2.2])⟩, ⟨[], [], [], Fct.val 17 (.int .i64 0)⟩] hz93 hd93 (by kernel_rfl) ?_ ?_
  · refine sc (fun _ _ _ _ s hE => px (or_load (l := [.int .i64 b2.1.1, .int .i64 b2.1.2, .int .i64 b2.2.1, .int .i64 b2.2.2]) ta31 (s.1.trans e93_3) (Blk.cellsFrom (be_ hE b93_g87).2 0 rfl) rfl)) ?_
    refine sc (fun _ _ _ f _ _ => px (or_call cf27 (args1 f.1) (polyclip_sides_w _ b2  r97 hr97) post_val)) ?_
    refine sc (fun _ _ _ _ _ _ => px (or_move rfl)) ?_
    exact steps_nil
  intro own98 a98 w98 hd98 hz98 hk98 hf98 hE98
  have e98_0 := (hk98 0 rfl).trans e93_0
  obtain ⟨(e98_16 : a98.eval (.tmp 16) = .agg #[.int .i64 r97.1.1, .bool r97.1.2.1, .bool r97.1.2.2, .int .i64 r97.2.1.1, .bool r97.2.1.2.1, .bool r97.2.1.2.2, .int .i64 r97.2.2.1.1, .bool r97.2.2.1.2.1, .bool r97.2.2.1.2.2, .int .i64 r97.2.2.2.1, .bool r97.2.2.2.2.1, .bool r97.2.2.2.2.2]), (e98_17 : a98.eval (.tmp 17) = .int .i64 0), -⟩ := hf98 [1, 2] rfl
  have hX98 := es_ hX93 hE98
  have b98_Al1 := RdO.evo rfl hE98 b93_Al1
  refine fl_block (fun Q99 hn99 hx99 hp99 => ?_)
  refine fl_loop (body := (fun s => polyclip_Ring_b1 r97 s.1 s.2)) (z := r) (show loopO _ _ = _ from hs) (fun (s : (List (Int × Int)) × Int) a wx => match s with | (l116, x118) => ∃ (ox : Own) (A114 : Option Addr) (c115 : Nat), a.defers = [] ∧ a.tmps.size = 40 ∧ a.eval (.tmp 0) = .slice A114 l116.length c115 ∧ a.eval (.tmp 16) = .agg #[.int .i64 r97.1.1, .bool r97.1.2.1, .bool r97.1.2.2, .int .i64 r97.2.1.1, .bool r97.2.1.2.1, .bool r97.2.1.2.2, .int .i64 r97.2.2.1.1, .bool r97.2.2.1.2.1, .bool r97.2.2.1.2.2, .int .i64 r97.2.2.2.1, .bool r97.2.2.2.2.1, .bool r97.2.2.2.2.2] ∧ a.eval (.tmp 17) = .int .i64 x118 ∧ Evo [] (fun _ => 0) ox w wx ∧ RdO ox [0, 117] wx R25 A114 c115 l116) ?_ ?_
  · exact ⟨own98, Al1, cl1, hd98, hz98, e98_0, e98_16, e98_17, hX98, (RdO.more b98_Al1 (by decide))⟩
  · rintro ⟨l116, x118⟩ zz135 a135 w135 ⟨own135, A114, c115, hd136, hz136, e136_0, e136_16, e136_17, hE136, b136_A114⟩ hs Q135 hn135 hp135 hz135
    have hs : polyclip_Ring_b1 r97 l116 x118 = some zz135 := hs
    refine rg0_seq 40 own135 (bz 1) [⟨[], [17], [], Fct.val 18 (.bool (decide (x118 < 4)))⟩] hz136 hd136 (by kernel_rfl) ?_ ?_
    · refine sc (fun _ _ _ _ s _ => px (or_lss (s.1.trans e136_17) rfl rfl)) ?_
      exact steps_nil
    intro own137 a137 w137 hd137 hz137 hk137 hf137 hE137
    have e137_0 := (hk137 0 rfl).trans e136_0
    have e137_16 := (hk137 16 rfl).trans e136_16
    have e137_17 := (hk137 17 rfl).trans e136_17
    obtain ⟨(e137_18 : a137.eval (.tmp 18) = .bool (decide (x118 < 4))), -⟩ := hf137 [0] rfl
    have hX137 := es_ hE136 hE137
    have b137_A114 := RdO.evo rfl hE137 b136_A114
    refine fl_seq (fun Q138 hn138 hp138 => ?_)
    refine fl_cond e137_18 hs (fun c139 hs => ?_) (fun c139 hs => ?_)
    · refine fl_skip ?_
      refine hn138 _ _ ?_
      refine fl_seq (fun Q140 hn140 hp140 => ?_)
      refine fl_block (fun Q141 hn141 hx141 hp141 => ?_)
      obtain ⟨x142, hx142, hs⟩ := obind hs
      refine rg_plain_seq (n := 40) (rs := []) (own0 := own137) (K := [144]) (bs := [0, 0, 3]) (ds := [⟨[], [16, 17], [], Fct.val 19 (.agg #[.int .i64 x142.1, .bool x142.2.1, .bool x142.2.2])⟩, ⟨[], [], [], Fct.blk 144 6 (fun g => .pointer (some ⟨g, 0, none⟩)) 56 #[.int .i64 0, .bool false, .bool false]⟩, ⟨[1, 0], [], [144], Fct.blk 145 6 (fun g => .pointer (some ⟨g, 0, none⟩)) 56 #[.int .i64 x142.1, .bool x142.2.1, .bool x142.2.2]⟩]) (by kernel_rfl) hz137 hd137 nm_ ?_ ?_
      · refine sc (fun _ _ _ _ s _ => px (or_indexA (F := E56) (l := [r97.1, r97.2.1, r97.2.2.1, r97.2.2.2]) (v := x142) tr57 ta56 rfl (s.1.trans e137_16) rfl (s.2.1.trans e137_17) hx142)) ?_
        refine sc (fun _ _ _ _ _ _ => px (or_new [] rfl rfl trivial (by kernel_rfl))) ?_
        refine sc (fun own a wx hf hsl hE => ?_) ?_
        · obtain ⟨⟨g143, f_6, b_g143⟩, f_19, -⟩ := hf
          exact px (or_store (l := #[.int .i64 x142.1, .bool x142.2.1, .bool x142.2.2]) (lab := 144) (lab2 := 145) ts56 f_6 f_19 b_g143 (by simp) (by kernel_rfl) (mem_of rfl) (by decide) (by kernel_rfl) (fun own' a' w' ha hb => ⟨_, (ha 6).trans f_6, hb⟩))
        exact steps_nil
      intro own146 a146 w146 hd146 hz146 hk146 hf146 hE146
      have e146_0 := (hk146 0 rfl).trans e137_0
      have e146_16 := (hk146 16 rfl).trans e137_16
      have e146_17 := (hk146 17 rfl).trans e137_17
      obtain ⟨⟨g143, (e146_6 : a146.eval (.tmp 6) = .pointer (some ⟨g143, 0, none⟩)), (b146_g143 : BlkO own146 145 w146 g143 56 #[.int .i64 x142.1, .bool x142.2.1, .bool x142.2.2])⟩, -⟩ := hf146 [2] rfl
      have hX146 := es_ hX137 hE146
      have b146_A114 := RdO.evo rfl hE146 b137_A114
      obtain ⟨r147, hr147, hs⟩ := obind hs
      refine rg0 40 own146 [0, 0, 2, 0, 8, 0, 32, 127, 255] [⟨[], [0], [], Fct.val 20 (.slice A114 l116.length c115)⟩, ⟨[], [6], [], Fct.val 21 (.pointer (some ⟨g143, 0, none⟩))⟩, ⟨[1], [], [], Fct.val 22 (.int .i64 x142.1)⟩, ⟨[], [6], [], Fct.val 23 (.pointer (some ⟨g143, 1, none⟩))⟩, ⟨[3], [], [], Fct.val 24 (.bool x142.2.1)⟩, ⟨[], [6], [], Fct.val 25 (.pointer (some ⟨g143, 2, none⟩))⟩, ⟨[5], [], [], Fct.val 26 (.bool x142.2.2)⟩, ⟨[0, 2, 4, 6], [], [], Fct.row 149 [] 27 25 R25 r147⟩, ⟨[7], [], [], Fct.rel [0, 27] (fun l => ∀ (A148 : Option Addr) (cA148 : Nat), l.getD 1 undef = .slice A148 r147.length cA148 → l.getD 0 undef = .slice A148 r147.length cA148)⟩] hz146 hd146 (by kernel_rfl) ?_ ?_
      · refine sc (fun _ _ _ _ s _ => px (or_move (s.1.trans e146_0))) ?_
        refine sc (fun _ _ _ _ s _ => px (or_field fo56_0 (s.1.trans e146_6) (by rfl))) ?_
        refine sc (fun _ _ _ f _ hE => px (or_load1 to3 f.1 (Blk.at_ (be_ hE b146_g143).2 0 rfl))) ?_
        refine sc (fun _ _ _ _ s _ => px (or_field fo56_1 (s.1.trans e146_6) (by rfl))) ?_
        refine sc (fun _ _ _ f _ hE => px (or_load1 to4 f.1 (Blk.at_ (be_ hE b146_g143).2 1 rfl))) ?_
        refine sc (fun _ _ _ _ s _ => px (or_field fo56_2 (s.1.trans e146_6) (by rfl))) ?_
        refine sc (fun _ _ _ f _ hE => px (or_load1 to4 f.1 (Blk.at_ (be_ hE b146_g143).2 2 rfl))) ?_
        refine sc (fun _ _ _ f _ hE => px (or_call cf8 (args4 f.1 f.2.1 f.2.2.1 f.2.2.2.1) (polyclip_Half_w _ l116 A114 c115 x142.1 x142.2.1 x142.2.2 (RdO.zero (RdO.evo rfl hE b146_A114)) r147 hr147) (post_row (m' := (look0 [(1, 149)])) (.inl (Rep.fl_flat _)) rfl rfl (fun _ => rfl)))) ?_
        refine sc (fun own a wx hf hsl hE => ?_) ?_
        · obtain ⟨⟨⟨A148, cA148⟩, (f_27 : a.eval (.tmp 27) = .slice A148 r147.length cA148), b_A148⟩, -⟩ := hf
          exact px (or_mono (f := Fct.val 0 (.slice A148 r147.length cA148)) (or_assign f_27) (fun own' a' w' v' hp h => fun _ _ h0' => by cases (f_27.symm.trans ((hp.2 27 (by decide)).symm.trans h0')); exact h))
        exact steps_nil
      intro own150 a150 w150 hd150 hz150 hk150 hf150 hE150
      have e150_16 := (hk150 16 rfl).trans e146_16
      have e150_17 := (hk150 17 rfl).trans e146_17
      obtain ⟨⟨⟨A148, cA148⟩, (f_27 : a150.eval (.tmp 27) = .slice A148 r147.length cA148), (b150_A148 : RwO own150 149 [] w150 25 R25 A148 cA148 r147)⟩, (q_0 : ∀ (A148 : Option Addr) (cA148 : Nat), a150.eval (.tmp 27) = .slice A148 r147.length cA148 → a150.eval (.tmp 0) = .slice A148 r147.length cA148), -⟩ := hf150 [7, 8] rfl
      have e150_0 := q_0 _ _ f_27
      have hX150 := es_ hX146 hE150
      refine hn141 _ _ ?_
      refine hn140 _ _ ?_
      refine rg0 40 own150 (bz 2) [⟨[], [17], [], Fct.val 28 (.int .i64 (ad x118 1))⟩, ⟨[0], [], [], Fct.val 17 (.int .i64 (ad x118 1))⟩] hz150 hd150 (by kernel_rfl) ?_ ?_
      · refine sc (fun _ _ _ _ s _ => px (or_add (s.1.trans e150_17) rfl rfl)) ?_
        refine sc (fun _ _ _ f _ _ => px (or_move f.1)) ?_
        exact steps_nil
      intro own151 a151 w151 hd151 hz151 hk151 hf151 hE151
      have e151_0 := (hk151 0 rfl).trans e150_0
      have e151_16 := (hk151 16 rfl).trans e150_16
      obtain ⟨(e151_17 : a151.eval (.tmp 17) = .int .i64 (ad x118 1)), -⟩ := hf151 [1] rfl
      have hX151 := es_ hX150 hE151
      have b151_A148 := re_ hE151 b150_A148
      exact hn135 _ _ _ hs ⟨(rl [(149, 117)] own151), A148, cA148, hd151, hz151, e151_0, e151_16, e151_17, (Evo.rl_ hX151 (fun _ => Nat.le_refl 0) rfl), (RdO.more (RdO.rl_ (mm := [(149, 117)]) (RwO.rd b151_A148)) (by decide))⟩
    refine fl_exit ?_
    refine hp138 _ _ _ rfl ?_
    replace hs := hz135 _ hs
    refine hp135 _ _ _ rfl ?_
    refine hx99 _ _ ?_
    refine hn96 _ _ ?_
    obtain ⟨r152, hr152, hs⟩ := obind hs
    refine rg0_seq 40 own137 (bz 3) [⟨[], [0], [], Fct.val 29 (.slice A114 l116.length c115)⟩, ⟨[0], [], [], Fct.mems [154] 30 (fun (x : Option Addr × Nat) => .slice x.1 r152.length r152.length) (fun (x : Option Addr × Nat) own w => RdO own [154] w R25 x.1 r152.length r152) (fun hk he h => RdO.evo (hits_sub hk (by decide)) he h)⟩, ⟨[1], [], [], Fct.rel [0, 30] (fun l => ∀ (A153 : Option Addr), l.getD 1 undef = .slice A153 r152.length r152.length → l.getD 0 undef = .slice A153 r152.length r152.length)⟩] hz137 hd137 (by kernel_rfl) ?_ ?_
    · refine sc (fun _ _ _ _ s _ => px (or_move (s.1.trans e137_0))) ?_
      refine sc (fun _ _ _ f _ hE => px (or_call cf16 (args1 f.1) (ring_Thin_w _ l116 A114 c115 (RdO.zero (RdO.evo rfl hE b137_A114)) r152 hr152) (post_mems (m := (fun _ => 0)) (m' := (look0 [(1, 154)])) (fun _ _ => .inl rfl) (fun own' w' a' x h1 h => ⟨x, h1, RdO.back_ h (by decide)⟩)))) ?_
      refine sc (fun own a wx hf hsl hE => ?_) ?_
      · obtain ⟨⟨⟨A153, cA153⟩, (f_30 : a.eval (.tmp 30) = .slice A153 r152.length r152.length), b_A153⟩, -⟩ := hf
        exact px (or_mono (f := Fct.val 0 (.slice A153 r152.length r152.length)) (or_assign f_30) (fun own' a' w' v' hp h => fun _ h0' => by cases (f_30.symm.trans ((hp.2 30 (by decide)).symm.trans h0')); exact h))
      exact steps_nil
    intro own155 a155 w155 hd155 hz155 hk155 hf155 hE155
    obtain ⟨⟨⟨A153, cA153⟩, (f_30 : a155.eval (.tmp 30) = .slice A153 r152.length r152.length), (b155_A153 : RdO own155 [154] w155 R25 A153 r152.length r152)⟩, (q_0 : ∀ (A153 : Option Addr), a155.eval (.tmp 30) = .slice A153 r152.length r152.length → a155.eval (.tmp 0) = .slice A153 r152.length r152.length), -⟩ := hf155 [1, 2] rfl
    have e155_0 := q_0 _ f_30
    have hX155 := es_ hX137 hE155
    refine fl_seq (fun Q156 hn156 hp156 => ?_)
    obtain ⟨r157, hr157, hs⟩ := obind hs
    obtain ⟨x158, hx158, hs⟩ := obind hs
    refine rg0_seq 40 own155 (bz 8) [⟨[], [0], [], Fct.val 31 (.slice A153 r152.length r152.length)⟩, ⟨[0], [], [], Fct.val 32 (.int .i64 (r152.length : Int))⟩, ⟨[1], [], [], Fct.val 33 (.bool (decide ((r152.length : Int) < 3)))⟩, ⟨[2], [], [], Fct.val 34 (.bool (decide ((r152.length : Int) < 3)))⟩, ⟨[3], [0], [], Fct.cond (!(decide ((r152.length : Int) < 3))) (some 35) (Fct.val 35 (.slice A153 r152.length r152.length))⟩, ⟨[3, 4], [], [], Fct.cond (!(decide ((r152.length : Int) < 3))) (some 36) (Fct.val 36 (.int .i64 r157))⟩, ⟨[3, 5], [], [], Fct.cond (!(decide ((r152.length : Int) < 3))) (some 37) (Fct.val 37 (.bool (decide (r157 = 0))))⟩, ⟨[3, 6], [], [], Fct.val 38 (.bool x158)⟩] hz155 hd155 (by kernel_rfl) ?_ ?_
    · refine sc (fun _ _ _ _ s _ => px (or_move (s.1.trans e155_0))) ?_
      refine sc (fun _ _ _ f _ _ => px (or_len tu22 f.1 rfl)) ?_
      refine sc (fun _ _ _ f _ _ => px (or_lss f.1 rfl rfl)) ?_
      refine sc (fun _ _ _ f _ _ => px (or_move f.1)) ?_
      refine sc (fun _ _ _ f s _ => sg_f rfl rfl rfl f.1 (fun hg => or_move (s.1.trans e155_0))) ?_
      refine sc (fun _ _ _ f _ hE => sg_f rfl rfl rfl f.1 (fun hg => or_call cf9 (args1 (f.2.1.1 hg)) (ring_Area_w _ r152 A153 r152.length (RdO.zero (RdO.evo rfl hE b155_A153)) r157 (gd_t hr157 hg)) post_val)) ?_
      refine sc (fun _ _ _ f _ _ => sg_f rfl rfl rfl f.1 (fun hg => or_eql (f.2.1.1 hg) rfl rfl)) ?_
      refine sc (fun _ _ _ f _ _ => px (or_or f.1 rfl (fun hx => f.2.1.1 hx) (osome hx158).symm)) ?_
      exact steps_nil
    intro own159 a159 w159 hd159 hz159 hk159 hf159 hE159
    have e159_0 := (hk159 0 rfl).trans e155_0
    obtain ⟨(e159_38 : a159.eval (.tmp 38) = .bool x158), -⟩ := hf159 [7] rfl
    have hX159 := es_ hX155 hE159
    have b159_A153 := RdO.evo rfl hE159 b155_A153
    refine fl_cond e159_38 hs (fun c160 hs => ?_) (fun c160 hs => ?_)
    · refine rg0_seq 40 own159 (bz 1) [⟨[], [], [], Fct.val 4 (.slice none 0 0)⟩] hz159 hd159 (by kernel_rfl) ?_ ?_
      · refine sc (fun _ _ _ _ _ _ => px (or_assign rfl)) ?_
        exact steps_nil
      intro own161 a161 w161 hd161 hz161 hk161 hf161 hE161
      obtain ⟨(e161_4 : a161.eval (.tmp 4) = .slice none 0 0), -⟩ := hf161 [0] rfl
      have hX161 := es_ hX159 hE161
      refine fl_ret ?_
      refine hp156 _ _ _ rfl ?_
      obtain rfl := osome hs
      exact hret _ _ _ _ (.inl rfl) hd161 (results1_ rfl (RVal.tmp_ e161_4)) ⟨own161, (none, 0), rfl, hX161, RdO.nil_⟩
    refine fl_skip ?_
    refine hn156 _ _ ?_
    refine rg0_seq 40 own159 (bz 2) [⟨[], [0], [], Fct.val 39 (.slice A153 r152.length r152.length)⟩, ⟨[0], [], [], Fct.val 4 (.slice A153 r152.length r152.length)⟩] hz159 hd159 (by kernel_rfl) ?_ ?_
    · refine sc (fun _ _ _ _ s _ => px (or_move (s.1.trans e159_0))) ?_
      refine sc (fun _ _ _ f _ _ => px (or_assign f.1)) ?_
      exact steps_nil
    intro own162 a162 w162 hd162 hz162 hk162 hf162 hE162
    obtain ⟨(e162_4 : a162.eval (.tmp 4) = .slice A153 r152.length r152.length), -⟩ := hf162 [1] rfl
    have hX162 := es_ hX159 hE162
    have b162_A153 := RdO.evo rfl hE162 b159_A153
    refine fl_ret ?_
    obtain rfl := (osome hs).symm
    exact hret _ _ _ _ (.inl rfl) hd162 (results1_ rfl (RVal.tmp_ e162_4)) ⟨(rl [(154, 1)] own162), (A153, r152.length), rfl, (Evo.rl_ hX162 (fun _ => Nat.le_refl 0) rfl), (RdO.rl_ (mm := [(154, 1)]) b162_A153)⟩
theorem ring_Alike_1_w (w : World) (x1 : Int) (f1 : List (Int × Int)) (gf1 : Nat) (tf1 : TypeId) (Af1_0 : Option Addr) (cf1_0 : Nat) (f2 : List (Int × Int)) (gf2 : Nat) (tf2 : TypeId) (Af2_0 : Option Addr) (cf2_0 : Nat) (hgf1 : BlkO (fun _ => 0) 0 w gf1 tf1 #[.slice Af1_0 f1.length cf1_0]) (hAf1_0 : RdO (fun _ => 0) [0] w R25 Af1_0 cf1_0 f1) (hgf2 : BlkO (fun _ => 0) 0 w gf2 tf2 #[.slice Af2_0 f2.length cf2_0]) (hAf2_0 : RdO (fun _ => 0) [0] w R25 Af2_0 cf2_0 f2) (r : Bool) (hs : ring_Alike_1 x1 f1 f2 = some r) :
    Calls Try.prog 35 #[.int .i64 x1, .pointer (some ⟨gf1, 0, none⟩), .pointer (some ⟨gf2, 0, none⟩)] w fun e w' => ∃ own' : Own, e = .returned (.bool r) ∧ Evo [] (fun _ => 0) own' w w' := by
  refine fl_enter (n := 26) rfl rfl rfl (Nat.le_of_ble_eq_true rfl) ?_
  intro a0 Q hd0 hz0 harg hret
  have ha0 := harg 0 _ rfl
  have ha1 := harg 1 _ rfl
  have ha2 := harg 2 _ rfl
  clear harg
  have hE0 : Evo [] (fun _ => 0) (fun _ => 0) w w := Evo.refl _ _ _
  refine rg0_seq 26 (fun _ => 0) (bz 1) [⟨[], [], [], Fct.val 4 (.bool false)⟩] hz0 hd0 (by kernel_rfl) ?_ ?_
  · refine sc (fun _ _ _ _ _ _ => px (or_assign rfl)) ?_
    exact steps_nil
  intro own69 a69 w69 hd69 hz69 hk69 hf69 hE69
  have e69_0 := (hk69 0 rfl).trans ha0
  have e69_1 := (hk69 1 rfl).trans ha1
  have e69_2 := (hk69 2 rfl).trans ha2
  have hX69 := es_ hE0 hE69
  have b69_Af1_0 := RdO.evo rfl hE69 hAf1_0
  have b69_gf1 := be_ hE69 hgf1
  have b69_Af2_0 := RdO.evo rfl hE69 hAf2_0
  have b69_gf2 := be_ hE69 hgf2
  refine fl_seq (fun Q70 hn70 hp70 => ?_)
  refine rg0_seq 26 own69 [0, 1, 0] [⟨[], [1], [], Fct.val 7 (.slice Af1_0 f1.length cf1_0)⟩, ⟨[0], [], [], Fct.val 8 (.int .i64 (f1.length : Int))⟩, ⟨[], [], [], Fct.val 9 (.int .i64 0)⟩] hz69 hd69 (by kernel_rfl) ?_ ?_
  · refine sc (fun _ _ _ _ s hE => px (or_load1 to22 (s.1.trans e69_1) (Blk.at_ (be_ hE b69_gf1).2 0 rfl))) ?_
    refine sc (fun _ _ _ f _ _ => px (or_len tu22 f.1 rfl)) ?_
    refine sc (fun _ _ _ _ _ _ => px (or_move rfl)) ?_
    exact steps_nil
  intro own71 a71 w71 hd71 hz71 hk71 hf71 hE71
  have e71_0 := (hk71 0 rfl).trans e69_0
  have e71_2 := (hk71 2 rfl).trans e69_2
  obtain ⟨(e71_7 : a71.eval (.tmp 7) = .slice Af1_0 f1.length cf1_0), (e71_8 : a71.eval (.tmp 8) = .int .i64 (f1.length : Int)), (e71_9 : a71.eval (.tmp 9) = .int .i64 0), -⟩ := hf71 [0, 1, 2] rfl
  have hX71 := es_ hX69 hE71
  have b71_Af1_0 := RdO.evo rfl hE71 b69_Af1_0
  have b71_Af2_0 := RdO.evo rfl hE71 b69_Af2_0
  have b71_gf2 := be_ hE71 b69_gf2
  refine fl_block (fun Q72 hn72 hx72 hp72 => ?_)
  refine fl_loop (body := (fun s => ring_Alike_1_b1 x1 f1 f2 s)) (z := r) (show loopO _ _ = _ from hs) (fun (x90 : Int) a wx => ∃ (ox : Own), a.defers = [] ∧ a.tmps.size = 26 ∧ a.eval (.tmp 0) = .int .i64 x1 ∧ a.eval (.tmp 2) = .pointer (some ⟨gf2, 0, none⟩) ∧ a.eval (.tmp 7) = .slice Af1_0 f1.length cf1_0 ∧ a.eval (.tmp 8) = .int .i64 (f1.length : Int) ∧ a.eval (.tmp 9) = .int .i64 x90 ∧ Evo [] (fun _ => 0) ox w wx ∧ BlkO ox 0 wx gf2 tf2 #[.slice Af2_0 f2.length cf2_0] ∧ RdO ox [0] wx R25 Af2_0 cf2_0 f2 ∧ RdO ox [0] wx R25 Af1_0 cf1_0 f1) ?_ ?_
  · exact ⟨own71, hd71, hz71, e71_0, e71_2, e71_7, e71_8, e71_9, hX71, b71_gf2, b71_Af2_0, b71_Af1_0⟩
  · rintro x90 zz108 a108 w108 ⟨own108, hd109, hz109, e109_0, e109_2, e109_7, e109_8, e109_9, hE109, b109_gf2, b109_Af2_0, b109_Af1_0⟩ hs Q108 hn108 hp108 hz108
    have hs : ring_Alike_1_b1 x1 f1 f2 x90 = some zz108 := hs
    refine rg0_seq 26 own108 (bz 1) [⟨[], [9, 8], [], Fct.val 10 (.bool (decide (x90 < (f1.length : Int))))⟩] hz109 hd109 (by kernel_rfl) ?_ ?_
    · refine sc (fun _ _ _ _ s _ => px (or_lss (s.1.trans e109_9) (s.2.1.trans e109_8) rfl)) ?_
      exact steps_nil
    intro own110 a110 w110 hd110 hz110 hk110 hf110 hE110
    have e110_0 := (hk110 0 rfl).trans e109_0
    have e110_2 := (hk110 2 rfl).trans e109_2
    have e110_7 := (hk110 7 rfl).trans e109_7
    have e110_8 := (hk110 8 rfl).trans e109_8
    have e110_9 := (hk110 9 rfl).trans e109_9
    obtain ⟨(e110_10 : a110.eval (.tmp 10) = .bool (decide (x90 < (f1.length : Int)))), -⟩ := hf110 [0] rfl
    have hX110 := es_ hE109 hE110
    have b110_gf2 := be_ hE110 b109_gf2
    have b110_Af2_0 := RdO.evo rfl hE110 b109_Af2_0
    have b110_Af1_0 := RdO.evo rfl hE110 b109_Af1_0
    refine fl_seq (fun Q111 hn111 hp111 => ?_)
    refine fl_cond e110_10 hs (fun c112 hs => ?_) (fun c112 hs => ?_)
    · refine fl_skip ?_
      refine hn111 _ _ ?_
      refine fl_seq (fun Q113 hn113 hp113 => ?_)
      refine fl_block (fun Q114 hn114 hx114 hp114 => ?_)
      obtain ⟨x115, hx115, hs⟩ := obind hs
      refine rg_plain_seq (n := 26) (rs := []) (own0 := own110) (K := [117]) (bs := [0, 0, 2, 0, 15, 31]) (ds := [⟨[], [9], [], Fct.val 11 (.int .i64 x90)⟩, ⟨[], [7, 9], [], Fct.val 12 (.pointer (some ((adr Af1_0).add ((x90 : Int).toNat * R25.s))))⟩, ⟨[1], [], [], Fct.val 13 (.agg #[.int .i64 x115.1, .int .i64 x115.2])⟩, ⟨[], [], [], Fct.blk 117 6 (fun g => .pointer (some ⟨g, 0, none⟩)) 25 #[.int .i64 0, .int .i64 0]⟩, ⟨[0], [], [], Fct.val 5 (.int .i64 x90)⟩, ⟨[3, 2], [], [117], Fct.blk 118 6 (fun g => .pointer (some ⟨g, 0, none⟩)) 25 #[.int .i64 x115.1, .int .i64 x115.2]⟩]) (by kernel_rfl) hz110 hd110 nm_ ?_ ?_
      · refine sc (fun _ _ _ _ s _ => px (or_move (s.1.trans e110_9))) ?_
        refine sc (fun _ _ _ _ s _ => px (or_index (R := R25) (l := f1) tl22 (s.1.trans e110_7) (s.2.1.trans e110_9) (RdO.some_ b110_Af1_0 hx115) hx115)) ?_
        refine sc (fun _ _ _ f _ hE => px (or_load (l := E25.f x115) ta25 f.1 (RdO.cells (F := E25) (RdO.evo rfl hE b110_Af1_0) hx115) rfl)) ?_
        refine sc (fun _ _ _ _ _ _ => px (or_new [] rfl rfl trivial (by kernel_rfl))) ?_
        refine sc (fun _ _ _ f _ _ => px (or_assign f.1)) ?_
        refine sc (fun own a wx hf hsl hE => ?_) ?_
        · obtain ⟨⟨g116, f_6, b_g116⟩, f_13, -⟩ := hf
          exact px (or_store (l := #[.int .i64 x115.1, .int .i64 x115.2]) (lab := 117) (lab2 := 118) ts25 f_6 f_13 b_g116 (by simp) (by kernel_rfl) (mem_of rfl) (by decide) (by kernel_rfl) (fun own' a' w' ha hb => ⟨_, (ha 6).trans f_6, hb⟩))
        exact steps_nil
      intro own119 a119 w119 hd119 hz119 hk119 hf119 hE119
      have e119_0 := (hk119 0 rfl).trans e110_0
      have e119_2 := (hk119 2 rfl).trans e110_2
      have e119_7 := (hk119 7 rfl).trans e110_7
      have e119_8 := (hk119 8 rfl).trans e110_8
      have e119_9 := (hk119 9 rfl).trans e110_9
      obtain ⟨⟨g116, (e119_6 : a119.eval (.tmp 6) = .pointer (some ⟨g116, 0, none⟩)), (b119_g116 : BlkO own119 118 w119 g116 25 #[.int .i64 x115.1, .int .i64 x115.2])⟩, (e119_5 : a119.eval (.tmp 5) = .int .i64 x90), -⟩ := hf119 [5, 4] rfl
      have hX119 := es_ hX110 hE119
      have b119_gf2 := be_ hE119 b110_gf2
      have b119_Af2_0 := RdO.evo rfl hE119 b110_Af2_0
      have b119_Af1_0 := RdO.evo rfl hE119 b110_Af1_0
      obtain ⟨x120, hx120, hs⟩ := obind hs
      obtain ⟨x121, hx121, hs⟩ := obind hs
      refine rg_draw_seq g_mixed (n := 26) (rs := []) (own0 := own119) (K := []) (bs := [0, 0, 0, 0, 12, 0, 32, 124, 254, 510, 1023]) (ds := [⟨[], [6], [], Fct.val 14 (.agg #[.int .i64 x115.1, .int .i64 x115.2])⟩, ⟨[], [2], [], Fct.val 15 (.slice Af2_0 f2.length cf2_0)⟩, ⟨[], [0], [], Fct.val 16 (.int .i64 x1)⟩, ⟨[], [5], [], Fct.val 17 (.int .i64 x90)⟩, ⟨[2, 3], [], [], Fct.val 18 (.int .i64 (ad x1 x90))⟩, ⟨[], [2], [], Fct.val 19 (.slice Af2_0 f2.length cf2_0)⟩, ⟨[5], [], [], Fct.val 20 (.int .i64 (f2.length : Int))⟩, ⟨[4, 6], [], [], Fct.val 21 (.int .i64 x120)⟩, ⟨[1, 7], [], [], Fct.val 22 (.pointer (some ((adr Af2_0).add ((x120 : Int).toNat * R25.s))))⟩, ⟨[8], [], [], Fct.val 23 (.agg #[.int .i64 x121.1, .int .i64 x121.2])⟩, ⟨[0, 9], [], [], Fct.val 24 (.bool (!decide (x115 = x121)))⟩]) (by kernel_rfl) hz119 hd119 nm_ ?_ ?_
      · refine sc (fun _ _ _ _ s hE => px (or_load (l := [.int .i64 x115.1, .int .i64 x115.2]) ta25 (s.1.trans e119_6) (Blk.cellsFrom (be_ hE b119_g116).2 0 rfl) rfl)) ?_
        refine sc (fun _ _ _ _ s hE => px (or_load1 to22 (s.1.trans e119_2) (Blk.at_ (be_ hE b119_gf2).2 0 rfl))) ?_
        refine sc (fun _ _ _ _ s _ => px (or_move (s.1.trans e119_0))) ?_
        refine sc (fun _ _ _ _ s _ => px (or_move (s.1.trans e119_5))) ?_
        refine sc (fun _ _ _ f _ _ => px (or_add f.1 f.2.1 rfl)) ?_
        refine sc (fun _ _ _ _ s hE => px (or_load1 to22 (s.1.trans e119_2) (Blk.at_ (be_ hE b119_gf2).2 0 rfl))) ?_
        refine sc (fun _ _ _ f _ _ => px (or_len tu22 f.1 rfl)) ?_
        refine sc (fun _ _ _ f _ _ => px (or_rem f.1 f.2.1 hx120)) ?_
        refine sc (fun _ _ _ f _ _ => px (or_index (R := R25) (l := f2) tl22 f.1 f.2.1 (RdO.some_ b119_Af2_0 hx121) hx121)) ?_
        refine sc (fun _ _ _ f _ hE => px (or_load (l := E25.f x121) ta25 f.1 (RdO.cells (F := E25) (RdO.evo rfl hE b119_Af2_0) hx121) rfl)) ?_
        refine sc (fun _ _ _ f _ _ => px (or_neqA sg25 f.1 f.2.1 (sn25 x115.1 x115.2 x121.1 x121.2 _) rfl)) ?_
        exact steps_nil
      intro own122 a122 w122 hd122 hz122 hk122 hf122 hE122
      have e122_0 := (hk122 0 rfl).trans e119_0
      have e122_2 := (hk122 2 rfl).trans e119_2
      have e122_7 := (hk122 7 rfl).trans e119_7
      have e122_8 := (hk122 8 rfl).trans e119_8
      have e122_9 := (hk122 9 rfl).trans e119_9
      obtain ⟨(e122_24 : a122.eval (.tmp 24) = .bool (!decide (x115 = x121))), -⟩ := hf122 [10] rfl
      have hX122 := es_ hX119 hE122
      have b122_gf2 := be_ hE122 b119_gf2
      have b122_Af2_0 := RdO.evo rfl hE122 b119_Af2_0
      have b122_Af1_0 := RdO.evo rfl hE122 b119_Af1_0
      refine fl_cond e122_24 hs (fun c123 hs => ?_) (fun c123 hs => ?_)
      · refine rg0_seq 26 own122 (bz 1) [⟨[], [], [], Fct.val 4 (.bool false)⟩] hz122 hd122 (by kernel_rfl) ?_ ?_
        · refine sc (fun _ _ _ _ _ _ => px (or_assign rfl)) ?_
          exact steps_nil
        intro own124 a124 w124 hd124 hz124 hk124 hf124 hE124
        obtain ⟨(e124_4 : a124.eval (.tmp 4) = .bool false), -⟩ := hf124 [0] rfl
        have hX124 := es_ hX122 hE124
        refine fl_ret ?_
        refine hp114 _ _ _ rfl ?_
        refine hp113 _ _ _ rfl ?_
        replace hs := hz108 _ hs
        refine hp108 _ _ _ rfl ?_
        refine hp72 _ _ _ rfl ?_
        refine hp70 _ _ _ rfl ?_
        obtain rfl := osome hs
        exact hret _ _ _ _ (.inl rfl) hd124 (results1_ rfl (RVal.tmp_ e124_4)) ⟨own124, rfl, hX124⟩
      refine fl_skip ?_
      refine hn114 _ _ ?_
      refine hn113 _ _ ?_
      refine rg0 26 own122 (bz 2) [⟨[], [9], [], Fct.val 25 (.int .i64 (ad x90 1))⟩, ⟨[0], [], [], Fct.val 9 (.int .i64 (ad x90 1))⟩] hz122 hd122 (by kernel_rfl) ?_ ?_
      · refine sc (fun _ _ _ _ s _ => px (or_add (s.1.trans e122_9) rfl rfl)) ?_
        refine sc (fun _ _ _ f _ _ => px (or_move f.1)) ?_
        exact steps_nil
      intro own125 a125 w125 hd125 hz125 hk125 hf125 hE125
      have e125_0 := (hk125 0 rfl).trans e122_0
      have e125_2 := (hk125 2 rfl).trans e122_2
      have e125_7 := (hk125 7 rfl).trans e122_7
      have e125_8 := (hk125 8 rfl).trans e122_8
      obtain ⟨(e125_9 : a125.eval (.tmp 9) = .int .i64 (ad x90 1)), -⟩ := hf125 [1] rfl
      have hX125 := es_ hX122 hE125
      have b125_gf2 := be_ hE125 b122_gf2
      have b125_Af2_0 := RdO.evo rfl hE125 b122_Af2_0
      have b125_Af1_0 := RdO.evo rfl hE125 b122_Af1_0
      exact hn108 _ _ _ hs ⟨own125, hd125, hz125, e125_0, e125_2, e125_7, e125_8, e125_9, hX125, b125_gf2, b125_Af2_0, b125_Af1_0⟩
    refine fl_exit ?_
    refine hp111 _ _ _ rfl ?_
    replace hs := hz108 _ hs
    refine hp108 _ _ _ rfl ?_
    refine hx72 _ _ ?_
    refine hn70 _ _ ?_
    refine rg0_seq 26 own110 (bz 1) [⟨[], [], [], Fct.val 4 (.bool true)⟩] hz110 hd110 (by kernel_rfl) ?_ ?_
    · refine sc (fun _ _ _ _ _ _ => px (or_assign rfl)) ?_
      exact steps_nil
    intro own126 a126 w126 hd126 hz126 hk126 hf126 hE126
    obtain ⟨(e126_4 : a126.eval (.tmp 4) = .bool true), -⟩ := hf126 [0] rfl
    have hX126 := es_ hX110 hE126
    refine fl_ret ?_
    obtain rfl := osome hs
    exact hret _ _ _ _ (.inl rfl) hd126 (results1_ rfl (RVal.tmp_ e126_4)) ⟨own126, rfl, hX126⟩
theorem ring_Alike_w (w : World) (x1 : List (Int × Int)) (Ax1 : Option Addr) (cx1 : Nat) (b2 : List (Int × Int)) (Ab2 : Option Addr) (cb2 : Nat) (hx1 : RdO (fun _ => 0) [0] w R25 Ax1 cx1 x1) (hb2 : RdO (fun _ => 0) [0] w R25 Ab2 cb2 b2) (r : Bool) (hs : ring_Alike x1 b2 = some r) :
    Calls Try.prog 21 #[.slice Ax1 x1.length cx1, .slice Ab2 b2.length cb2] w fun e w' => ∃ own' : Own, e = .returned (.bool r) ∧ Evo [] (fun _ => 0) own' w w' := by
  refine fl_enter (n := 25) rfl rfl rfl (Nat.le_of_ble_eq_true rfl) ?_
  intro a0 Q hd0 hz0 harg hret
  have ha0 := harg 0 _ rfl
  have ha1 := harg 1 _ rfl
  clear harg
  have hE0 : Evo [] (fun _ => 0) (fun _ => 0) w w := Evo.refl _ _ _
  refine rg0_seq 25 (fun _ => 0) [0, 0, 0] [⟨[], [0], [], Fct.blk 64 2 (fun g => .pointer (some ⟨g, 0, none⟩)) 22 #[.slice Ax1 x1.length cx1]⟩, ⟨[], [1], [], Fct.blk 66 3 (fun g => .pointer (some ⟨g, 0, none⟩)) 22 #[.slice Ab2 b2.length cb2]⟩, ⟨[], [], [], Fct.val 4 (.bool false)⟩] hz0 hd0 (by kernel_rfl) ?_ ?_
  · refine sc (fun _ _ _ _ s _ => px (or_new [(0, .slice Ax1 x1.length cx1)] rfl rfl ⟨(s.1.trans ha0), trivial⟩ (by kernel_rfl))) ?_
    refine sc (fun _ _ _ _ s _ => px (or_new [(1, .slice Ab2 b2.length cb2)] rfl rfl ⟨(s.1.trans ha1), trivial⟩ (by kernel_rfl))) ?_
    refine sc (fun _ _ _ _ _ _ => px (or_assign rfl)) ?_
    exact steps_nil
  intro own67 a67 w67 hd67 hz67 hk67 hf67 hE67
  obtain ⟨⟨g63, (e67_2 : a67.eval (.tmp 2) = .pointer (some ⟨g63, 0, none⟩)), (b67_g63 : BlkO own67 64 w67 g63 22 #[.slice Ax1 x1.length cx1])⟩, ⟨g65, (e67_3 : a67.eval (.tmp 3) = .pointer (some ⟨g65, 0, none⟩)), (b67_g65 : BlkO own67 66 w67 g65 22 #[.slice Ab2 b2.length cb2])⟩, -⟩ := hf67 [0, 1] rfl
  have hX67 := es_ hE0 hE67
  have b67_Ax1 := RdO.evo rfl hE67 hx1
  have b67_Ab2 := RdO.evo rfl hE67 hb2
  refine rg0_seq 25 own67 (bz 2) [⟨[], [2, 3], [], Fct.val 7 (.func (.func 35) #[] #[.pointer (some ⟨g63, 0, none⟩), .pointer (some ⟨g65, 0, none⟩)])⟩, ⟨[0], [], [], Fct.val 5 (.func (.func 35) #[] #[.pointer (some ⟨g63, 0, none⟩), .pointer (some ⟨g65, 0, none⟩)])⟩] hz67 hd67 (by kernel_rfl) ?_ ?_
  · refine sc (fun _ _ _ _ s _ => px (or_k [(2, .pointer (some ⟨g63, 0, none⟩)), (3, .pointer (some ⟨g65, 0, none⟩))] rfl rfl ⟨(s.1.trans e67_2), (s.2.1.trans e67_3), trivial⟩ (by kernel_rfl))) ?_
    refine sc (fun _ _ _ f _ _ => px (or_assign f.1)) ?_
    exact steps_nil
  intro own68 a68 w68 hd68 hz68 hk68 hf68 hE68
  have e68_2 := (hk68 2 rfl).trans e67_2
  have e68_3 := (hk68 3 rfl).trans e67_3
  obtain ⟨(e68_5 : a68.eval (.tmp 5) = .func (.func 35) #[] #[.pointer (some ⟨g63, 0, none⟩), .pointer (some ⟨g65, 0, none⟩)]), -⟩ := hf68 [1] rfl
  have hX68 := es_ hX67 hE68
  have b68_Ax1 := RdO.evo rfl hE68 b67_Ax1
  have b68_Ab2 := RdO.evo rfl hE68 b67_Ab2
  have b68_g63 := be_ hE68 b67_g63
  have b68_g65 := be_ hE68 b67_g65
  refine fl_seq (fun Q69 hn69 hp69 => ?_)
  refine rg0_seq 25 own68 [0, 1, 0, 4, 15] [⟨[], [2], [], Fct.val 8 (.slice Ax1 x1.length cx1)⟩, ⟨[0], [], [], Fct.val 9 (.int .i64 (x1.length : Int))⟩, ⟨[], [3], [], Fct.val 10 (.slice Ab2 b2.length cb2)⟩, ⟨[2], [], [], Fct.val 11 (.int .i64 (b2.length : Int))⟩, ⟨[1, 3], [], [], Fct.val 12 (.bool (!decide ((x1.length : Int) = (b2.length : Int))))⟩] hz68 hd68 (by kernel_rfl) ?_ ?_
  · refine sc (fun _ _ _ _ s hE => px (or_load1 to22 (s.1.trans e68_2) (Blk.at_ (be_ hE b68_g63).2 0 rfl))) ?_
    refine sc (fun _ _ _ f _ _ => px (or_len tu22 f.1 rfl)) ?_
    refine sc (fun _ _ _ _ s hE => px (or_load1 to22 (s.1.trans e68_3) (Blk.at_ (be_ hE b68_g65).2 0 rfl))) ?_
    refine sc (fun _ _ _ f _ _ => px (or_len tu22 f.1 rfl)) ?_
    refine sc (fun _ _ _ f _ _ => px (or_neq f.1 f.2.1 rfl)) ?_
    exact steps_nil
  intro own70 a70 w70 hd70 hz70 hk70 hf70 hE70
  have e70_2 := (hk70 2 rfl).trans e68_2
  have e70_3 := (hk70 3 rfl).trans e68_3
  have e70_5 := (hk70 5 rfl).trans e68_5
  obtain ⟨(e70_12 : a70.eval (.tmp 12) = .bool (!decide ((x1.length : Int) = (b2.length : Int)))), -⟩ := hf70 [4] rfl
  have hX70 := es_ hX68 hE70
  have b70_Ax1 := RdO.evo rfl hE70 b68_Ax1
  have b70_Ab2 := RdO.evo rfl hE70 b68_Ab2
  have b70_g63 := be_ hE70 b68_g63
  have b70_g65 := be_ hE70 b68_g65
  refine fl_cond e70_12 hs (fun c71 hs => ?_) (fun c71 hs => ?_)
  · refine rg0_seq 25 own70 (bz 1) [⟨[], [], [], Fct.val 4 (.bool false)⟩] hz70 hd70 (by kernel_rfl) ?_ ?_
    · refine sc (fun _ _ _ _ _ _ => px (or_assign rfl)) ?_
      exact steps_nil
    intro own72 a72 w72 hd72 hz72 hk72 hf72 hE72
    obtain ⟨(e72_4 : a72.eval (.tmp 4) = .bool false), -⟩ := hf72 [0] rfl
    have hX72 := es_ hX70 hE72
    refine fl_ret ?_
    refine hp69 _ _ _ rfl ?_
    obtain rfl := osome hs
    exact hret _ _ _ _ (.inl rfl) hd72 (results1_ rfl (RVal.tmp_ e72_4)) ⟨own72, rfl, hX72⟩
  refine fl_skip ?_
  refine hn69 _ _ ?_
  refine fl_seq (fun Q73 hn73 hp73 => ?_)
  refine rg0_seq 25 own70 [0, 1, 0] [⟨[], [3], [], Fct.val 13 (.slice Ab2 b2.length cb2)⟩, ⟨[0], [], [], Fct.val 14 (.int .i64 (b2.length : Int))⟩, ⟨[], [], [], Fct.val 15 (.int .i64 0)⟩] hz70 hd70 (by kernel_rfl) ?_ ?_
  · refine sc (fun _ _ _ _ s hE => px (or_load1 to22 (s.1.trans e70_3) (Blk.at_ (be_ hE b70_g65).2 0 rfl))) ?_
    refine sc (fun _ _ _ f _ _ => px (or_len tu22 f.1 rfl)) ?_
    refine sc (fun _ _ _ _ _ _ => px (or_move rfl)) ?_
    exact steps_nil
  intro own74 a74 w74 hd74 hz74 hk74 hf74 hE74
  have e74_2 := (hk74 2 rfl).trans e70_2
  have e74_5 := (hk74 5 rfl).trans e70_5
  obtain ⟨(e74_14 : a74.eval (.tmp 14) = .int .i64 (b2.length : Int)), (e74_15 : a74.eval (.tmp 15) = .int .i64 0), -⟩ := hf74 [1, 2] rfl
  have hX74 := es_ hX70 hE74
  have b74_Ax1 := RdO.evo rfl hE74 b70_Ax1
  have b74_Ab2 := RdO.evo rfl hE74 b70_Ab2
  have b74_g63 := be_ hE74 b70_g63
  have b74_g65 := be_ hE74 b70_g65
  refine fl_block (fun Q75 hn75 hx75 hp75 => ?_)
  refine fl_loop (body := (fun s => ring_Alike_b1 x1 b2 s)) (z := r) (show loopO _ _ = _ from hs) (fun (x88 : Int) a wx => ∃ (ox : Own), a.defers = [] ∧ a.tmps.size = 25 ∧ a.eval (.tmp 2) = .pointer (some ⟨g63, 0, none⟩) ∧ a.eval (.tmp 5) = .func (.func 35) #[] #[.pointer (some ⟨g63, 0, none⟩), .pointer (some ⟨g65, 0, none⟩)] ∧ a.eval (.tmp 14) = .int .i64 (b2.length : Int) ∧ a.eval (.tmp 15) = .int .i64 x88 ∧ Evo [] (fun _ => 0) ox w wx ∧ BlkO ox 64 wx g63 22 #[.slice Ax1 x1.length cx1] ∧ RdO ox [0] wx R25 Ax1 cx1 x1 ∧ BlkO ox 66 wx g65 22 #[.slice Ab2 b2.length cb2] ∧ RdO ox [0] wx R25 Ab2 cb2 b2) ?_ ?_
  · exact ⟨own74, hd74, hz74, e74_2, e74_5, e74_14, e74_15, hX74, b74_g63, b74_Ax1, b74_g65, b74_Ab2⟩
  · rintro x88 zz101 a101 w101 ⟨own101, hd102, hz102, e102_2, e102_5, e102_14, e102_15, hE102, b102_g63, b102_Ax1, b102_g65, b102_Ab2⟩ hs Q101 hn101 hp101 hz101
    have hs : ring_Alike_b1 x1 b2 x88 = some zz101 := hs
    refine rg0_seq 25 own101 (bz 1) [⟨[], [15, 14], [], Fct.val 16 (.bool (decide (x88 < (b2.length : Int))))⟩] hz102 hd102 (by kernel_rfl) ?_ ?_
    · refine sc (fun _ _ _ _ s _ => px (or_lss (s.1.trans e102_15) (s.2.1.trans e102_14) rfl)) ?_
      exact steps_nil
    intro own103 a103 w103 hd103 hz103 hk103 hf103 hE103
    have e103_2 := (hk103 2 rfl).trans e102_2
    have e103_5 := (hk103 5 rfl).trans e102_5
    have e103_14 := (hk103 14 rfl).trans e102_14
    have e103_15 := (hk103 15 rfl).trans e102_15
    obtain ⟨(e103_16 : a103.eval (.tmp 16) = .bool (decide (x88 < (b2.length : Int)))), -⟩ := hf103 [0] rfl
    have hX103 := es_ hE102 hE103
    have b103_g63 := be_ hE103 b102_g63
    have b103_Ax1 := RdO.evo rfl hE103 b102_Ax1
    have b103_g65 := be_ hE103 b102_g65
    have b103_Ab2 := RdO.evo rfl hE103 b102_Ab2
    refine fl_seq (fun Q104 hn104 hp104 => ?_)
    refine fl_cond e103_16 hs (fun c105 hs => ?_) (fun c105 hs => ?_)
    · refine fl_skip ?_
      refine hn104 _ _ ?_
      refine fl_seq (fun Q106 hn106 hp106 => ?_)
      refine fl_block (fun Q107 hn107 hx107 hp107 => ?_)
      refine rg0_seq 25 own103 (bz 2) [⟨[], [15], [], Fct.val 17 (.int .i64 x88)⟩, ⟨[0], [], [], Fct.val 6 (.int .i64 x88)⟩] hz103 hd103 (by kernel_rfl) ?_ ?_
      · refine sc (fun _ _ _ _ s _ => px (or_move (s.1.trans e103_15))) ?_
        refine sc (fun _ _ _ f _ _ => px (or_assign f.1)) ?_
        exact steps_nil
      intro own108 a108 w108 hd108 hz108 hk108 hf108 hE108
      have e108_2 := (hk108 2 rfl).trans e103_2
      have e108_5 := (hk108 5 rfl).trans e103_5
      have e108_14 := (hk108 14 rfl).trans e103_14
      have e108_15 := (hk108 15 rfl).trans e103_15
      obtain ⟨(e108_6 : a108.eval (.tmp 6) = .int .i64 x88), -⟩ := hf108 [1] rfl
      have hX108 := es_ hX103 hE108
      have b108_g63 := be_ hE108 b103_g63
      have b108_Ax1 := RdO.evo rfl hE108 b103_Ax1
      have b108_g65 := be_ hE108 b103_g65
      have b108_Ab2 := RdO.evo rfl hE108 b103_Ab2
      obtain ⟨r109, hr109, hs⟩ := obind hs
      refine rg0_seq 25 own108 [0, 0, 3] [⟨[], [5], [], Fct.val 18 (.func (.func 35) #[] #[.pointer (some ⟨g63, 0, none⟩), .pointer (some ⟨g65, 0, none⟩)])⟩, ⟨[], [6], [], Fct.val 19 (.int .i64 x88)⟩, ⟨[0, 1], [], [], Fct.val 20 (.bool r109)⟩] hz108 hd108 (by kernel_rfl) ?_ ?_
      · refine sc (fun _ _ _ _ s _ => px (or_move (s.1.trans e108_5))) ?_
        refine sc (fun _ _ _ _ s _ => px (or_move (s.1.trans e108_6))) ?_
        refine sc (fun _ _ _ f _ hE => px (or_callf cf35 f.1 (args1 f.2.1) rfl (ring_Alike_1_w _ x88 x1 g63 22 Ax1 cx1 b2 g65 22 Ab2 cb2 (BlkO.zero_ (be_ hE b108_g63)) (RdO.zero (RdO.evo rfl hE b108_Ax1)) (BlkO.zero_ (be_ hE b108_g65)) (RdO.zero (RdO.evo rfl hE b108_Ab2)) r109 hr109) post_val)) ?_
        exact steps_nil
      intro own110 a110 w110 hd110 hz110 hk110 hf110 hE110
      have e110_2 := (hk110 2 rfl).trans e108_2
      have e110_5 := (hk110 5 rfl).trans e108_5
      have e110_14 := (hk110 14 rfl).trans e108_14
      have e110_15 := (hk110 15 rfl).trans e108_15
      obtain ⟨(e110_20 : a110.eval (.tmp 20) = .bool r109), -⟩ := hf110 [2] rfl
      have hX110 := es_ hX108 hE110
      have b110_g63 := be_ hE110 b108_g63
      have b110_Ax1 := RdO.evo rfl hE110 b108_Ax1
      have b110_g65 := be_ hE110 b108_g65
      have b110_Ab2 := RdO.evo rfl hE110 b108_Ab2
      refine fl_cond e110_20 hs (fun c111 hs => ?_) (fun c111 hs => ?_)
      · refine rg0_seq 25 own110 (bz 1) [⟨[], [], [], Fct.val 4 (.bool true)⟩] hz110 hd110 (by kernel_rfl) ?_ ?_
        · refine sc (fun _ _ _ _ _ _ => px (or_assign rfl)) ?_
          exact steps_nil
        intro own112 a112 w112 hd112 hz112 hk112 hf112 hE112
        obtain ⟨(e112_4 : a112.eval (.tmp 4) = .bool true), -⟩ := hf112 [0] rfl
        have hX112 := es_ hX110 hE112
        refine fl_ret ?_
        refine hp107 _ _ _ rfl ?_
        refine hp106 _ _ _ rfl ?_
        replace hs := hz101 _ hs
        refine hp101 _ _ _ rfl ?_
        refine hp75 _ _ _ rfl ?_
        refine hp73 _ _ _ rfl ?_
        obtain rfl := osome hs
        exact hret _ _ _ _ (.inl rfl) hd112 (results1_ rfl (RVal.tmp_ e112_4)) ⟨own112, rfl, hX112⟩
      refine fl_skip ?_
      refine hn107 _ _ ?_
      refine hn106 _ _ ?_
      refine rg0 25 own110 (bz 2) [⟨[], [15], [], Fct.val 21 (.int .i64 (ad x88 1))⟩, ⟨[0], [], [], Fct.val 15 (.int .i64 (ad x88 1))⟩] hz110 hd110 (by kernel_rfl) ?_ ?_
      · refine sc (fun _ _ _ _ s _ => px (or_add (s.1.trans e110_15) rfl rfl)) ?_
        refine sc (fun _ _ _ f _ _ => px (or_move f.1)) ?_
        exact steps_nil
      intro own113 a113 w113 hd113 hz113 hk113 hf113 hE113
      have e113_2 := (hk113 2 rfl).trans e110_2
      have e113_5 := (hk113 5 rfl).trans e110_5
      have e113_14 := (hk113 14 rfl).trans e110_14
      obtain ⟨(e113_15 : a113.eval (.tmp 15) = .int .i64 (ad x88 1)), -⟩ := hf113 [1] rfl
      have hX113 := es_ hX110 hE113
      have b113_g63 := be_ hE113 b110_g63
      have b113_Ax1 := RdO.evo rfl hE113 b110_Ax1
      have b113_g65 := be_ hE113 b110_g65
      have b113_Ab2 := RdO.evo rfl hE113 b110_Ab2
      exact hn101 _ _ _ hs ⟨own113, hd113, hz113, e113_2, e113_5, e113_14, e113_15, hX113, b113_g63, b113_Ax1, b113_g65, b113_Ab2⟩
    refine fl_exit ?_
    refine hp104 _ _ _ rfl ?_
    replace hs := hz101 _ hs
    refine hp101 _ _ _ rfl ?_
    refine hx75 _ _ ?_
    refine hn73 _ _ ?_
    refine rg0_seq 25 own103 (bz 4) [⟨[], [2], [], Fct.val 22 (.slice Ax1 x1.length cx1)⟩, ⟨[0], [], [], Fct.val 23 (.int .i64 (x1.length : Int))⟩, ⟨[1], [], [], Fct.val 24 (.bool (decide ((x1.length : Int) = 0)))⟩, ⟨[2], [], [], Fct.val 4 (.bool (decide ((x1.length : Int) = 0)))⟩] hz103 hd103 (by kernel_rfl) ?_ ?_
    · refine sc (fun _ _ _ _ s hE => px (or_load1 to22 (s.1.trans e103_2) (Blk.at_ (be_ hE b103_g63).2 0 rfl))) ?_
      refine sc (fun _ _ _ f _ _ => px (or_len tu22 f.1 rfl)) ?_
      refine sc (fun _ _ _ f _ _ => px (or_eql f.1 rfl rfl)) ?_
      refine sc (fun _ _ _ f _ _ => px (or_assign f.1)) ?_
      exact steps_nil
    intro own114 a114 w114 hd114 hz114 hk114 hf114 hE114
    obtain ⟨(e114_4 : a114.eval (.tmp 4) = .bool (decide ((x1.length : Int) = 0))), -⟩ := hf114 [3] rfl
    have hX114 := es_ hX103 hE114
    refine fl_ret ?_
    obtain rfl := osome hs
    exact hret _ _ _ _ (.inl rfl) hd114 (results1_ rfl (RVal.tmp_ e114_4)) ⟨own114, rfl, hX114⟩
theorem law21_known_w (w : World) (r : Bool) (hs : law21_known = some r) :
    Calls Try.prog 7 #[] w fun e w' => ∃ own' : Own, e = .returned (.bool r) ∧ Evo [] (fun _ => 0) own' w w' := by
  refine fl_enter (n := 20) rfl rfl rfl (Nat.le_of_ble_eq_true rfl) ?_
  intro a0 Q hd0 hz0 harg hret
  clear harg
  have hE0 : Evo [] (fun _ => 0) (fun _ => 0) w w := Evo.refl _ _ _
  refine rg0_seq 20 (fun _ => 0) (bz 1) [⟨[], [], [], Fct.val 0 (.bool false)⟩] hz0 hd0 (by kernel_rfl) ?_ ?_
  · refine sc (fun _ _ _ _ _ _ => px (or_assign rfl)) ?_
    exact steps_nil
  intro own23 a23 w23 hd23 hz23 hk23 hf23 hE23
  have hX23 := es_ hE0 hE23
  refine rg0_seq 20 own23 [0, 0, 0, 0, 15, 31] [⟨[], [], [], Fct.val 3 (.agg #[.int .i64 0, .int .i64 0])⟩, ⟨[], [], [], Fct.val 4 (.agg #[.int .i64 8, .int .i64 0])⟩, ⟨[], [], [], Fct.val 5 (.agg #[.int .i64 8, .int .i64 8])⟩, ⟨[], [], [], Fct.val 6 (.agg #[.int .i64 0, .int .i64 8])⟩, ⟨[0, 1, 2, 3], [], [], Fct.row 25 [] 7 25 R25 [(0, 0), (8, 0), (8, 8), (0, 8)]⟩, ⟨[4], [], [], Fct.rel [1, 7] (fun l => ∀ (A24 : Option Addr) (cA24 : Nat), l.getD 1 undef = .slice A24 [(0, 0), (8, 0), (8, 8), (0, 8)].length cA24 → l.getD 0 undef = .slice A24 [(0, 0), (8, 0), (8, 8), (0, 8)].length cA24)⟩] hz23 hd23 (by kernel_rfl) ?_ ?_
  · refine sc (fun _ _ _ _ _ _ => px (or_k [] rfl rfl trivial (by kernel_rfl))) ?_
    refine sc (fun _ _ _ _ _ _ => px (or_k [] rfl rfl trivial (by kernel_rfl))) ?_
    refine sc (fun _ _ _ _ _ _ => px (or_k [] rfl rfl trivial (by kernel_rfl))) ?_
    refine sc (fun _ _ _ _ _ _ => px (or_k [] rfl rfl trivial (by kernel_rfl))) ?_
    refine sc (fun _ _ _ f _ _ => px (or_lit (lab := 25) (e := 25) (cs := #[.int .i64 0, .int .i64 0, .int .i64 8, .int .i64 0, .int .i64 8, .int .i64 8, .int .i64 0, .int .i64 8]) (F := E25) (or_new [(3, .agg #[.int .i64 0, .int .i64 0]), (4, .agg #[.int .i64 8, .int .i64 0]), (5, .agg #[.int .i64 8, .int .i64 8]), (6, .agg #[.int .i64 0, .int .i64 8])] rfl rfl ⟨f.1, f.2.1, f.2.2.1, f.2.2.2.1, trivial⟩ (by kernel_rfl)) rfl rfl (show 4 ≤ maxLen by decide))) ?_
    refine sc (fun own a wx hf hsl hE => ?_) ?_
    · obtain ⟨⟨⟨A24, cA24⟩, (f_7 : a.eval (.tmp 7) = .slice A24 [(0, 0), (8, 0), (8, 8), (0, 8)].length cA24), b_A24⟩, -⟩ := hf
      exact px (or_mono (f := Fct.val 1 (.slice A24 [(0, 0), (8, 0), (8, 8), (0, 8)].length cA24)) (or_assign f_7) (fun own' a' w' v' hp h => fun _ _ h0' => by cases (f_7.symm.trans ((hp.2 7 (by decide)).symm.trans h0')); exact h))
    exact steps_nil
  intro own26 a26 w26 hd26 hz26 hk26 hf26 hE26
  obtain ⟨⟨⟨A24, cA24⟩, (f_7 : a26.eval (.tmp 7) = .slice A24 [(0, 0), (8, 0), (8, 8), (0, 8)].length cA24), (b26_A24 : RwO own26 25 [] w26 25 R25 A24 cA24 [(0, 0), (8, 0), (8, 8), (0, 8)])⟩, (q_1 : ∀ (A24 : Option Addr) (cA24 : Nat), a26.eval (.tmp 7) = .slice A24 [(0, 0), (8, 0), (8, 8), (0, 8)].length cA24 → a26.eval (.tmp 1) = .slice A24 [(0, 0), (8, 0), (8, 8), (0, 8)].length cA24), -⟩ := hf26 [4, 5] rfl
  have e26_1 := q_1 _ _ f_7
  have hX26 := es_ hX23 hE26
  obtain ⟨r27, hr27, hs⟩ := obind hs
  refine rg0_seq 20 own26 [0, 0, 0, 6, 15, 31] [⟨[], [1], [], Fct.val 8 (.slice A24 [(0, 0), (8, 0), (8, 8), (0, 8)].length cA24)⟩, ⟨[], [], [], Fct.val 9 (.agg #[.int .i64 2, .int .i64 2])⟩, ⟨[], [], [], Fct.val 10 (.agg #[.int .i64 4, .int .i64 9])⟩, ⟨[1, 2], [], [], Fct.val 11 (.agg #[.int .i64 2, .int .i64 2, .int .i64 4, .int .i64 9])⟩, ⟨[0, 3], [], [], Fct.mems [29] 12 (fun (x : Option Addr × Nat) => .slice x.1 r27.length x.2) (fun (x : Option Addr × Nat) own w => RdO own [29] w R25 x.1 x.2 r27) (fun hk he h => RdO.evo (hits_sub hk (by decide)) he h)⟩, ⟨[4], [], [], Fct.rel [2, 12] (fun l => ∀ (A28 : Option Addr) (cA28 : Nat), l.getD 1 undef = .slice A28 r27.length cA28 → l.getD 0 undef = .slice A28 r27.length cA28)⟩] hz26 hd26 (by kernel_rfl) ?_ ?_
  · refine sc (fun _ _ _ _ s _ => px (or_move (s.1.trans e26_1))) ?_
    refine sc (fun _ _ _ _ _ _ => px (or_k [] rfl rfl trivial (by kernel_rfl))) ?_
    refine sc (fun _ _ _ _ _ _ => px (or_k [] rfl rfl trivial (by kernel_rfl))) ?_
    refine sc (fun _ _ _ f _ _ => px (or_k [(9, .agg #[.int .i64 2, .int .i64 2]), (10, .agg #[.int .i64 4, .int .i64 9])] rfl rfl ⟨f.1, f.2.1, trivial⟩ (by kernel_rfl))) ?_
    refine sc (fun _ _ _ f _ hE => px (or_call cf10 (args2 f.1 f.2.1) (polyclip_Ring_w _ [(0, 0), (8, 0), (8, 8), (0, 8)] A24 cA24 ((2, 2), (4, 9)) (RdO.zero (RwO.rd (re_ hE b26_A24))) r27 hr27) (post_mems (m := (fun _ => 0)) (m' := (look0 [(1, 29)])) (fun _ _ => .inl rfl) (fun own' w' a' x h1 h => ⟨x, h1, RdO.back_ h (by decide)⟩)))) ?_
    refine sc (fun own a wx hf hsl hE => ?_) ?_
    · obtain ⟨⟨⟨A28, cA28⟩, (f_12 : a.eval (.tmp 12) = .slice A28 r27.length cA28), b_A28⟩, -⟩ := hf
      exact px (or_mono (f := Fct.val 2 (.slice A28 r27.length cA28)) (or_assign f_12) (fun own' a' w' v' hp h => fun _ _ h0' => by cases (f_12.symm.trans ((hp.2 12 (by decide)).symm.trans h0')); exact h))
    exact steps_nil
  intro own30 a30 w30 hd30 hz30 hk30 hf30 hE30
  obtain ⟨⟨⟨A28, cA28⟩, (f_12 : a30.eval (.tmp 12) = .slice A28 r27.length cA28), (b30_A28 : RdO own30 [29] w30 R25 A28 cA28 r27)⟩, (q_2 : ∀ (A28 : Option Addr) (cA28 : Nat), a30.eval (.tmp 12) = .slice A28 r27.length cA28 → a30.eval (.tmp 2) = .slice A28 r27.length cA28), -⟩ := hf30 [4, 5] rfl
  have e30_2 := q_2 _ _ f_12
  have hX30 := es_ hX26 hE30
  obtain ⟨r33, hr33, hs⟩ := obind hs
  refine rg0_seq 20 own30 [0, 0, 0, 0, 0, 30, 63, 127] [⟨[], [2], [], Fct.val 13 (.slice A28 r27.length cA28)⟩, ⟨[], [], [], Fct.val 14 (.agg #[.int .i64 2, .int .i64 2])⟩, ⟨[], [], [], Fct.val 15 (.agg #[.int .i64 4, .int .i64 2])⟩, ⟨[], [], [], Fct.val 16 (.agg #[.int .i64 4, .int .i64 8])⟩, ⟨[], [], [], Fct.val 17 (.agg #[.int .i64 2, .int .i64 8])⟩, ⟨[1, 2, 3, 4], [], [], Fct.row 32 [] 18 25 R25 [(2, 2), (4, 2), (4, 8), (2, 8)]⟩, ⟨[0, 5], [], [], Fct.val 19 (.bool r33)⟩, ⟨[6], [], [], Fct.val 0 (.bool r33)⟩] hz30 hd30 (by kernel_rfl) ?_ ?_
  · refine sc (fun _ _ _ _ s _ => px (or_move (s.1.trans e30_2))) ?_
    refine sc (fun _ _ _ _ _ _ => px (or_k [] rfl rfl trivial (by kernel_rfl))) ?_
    refine sc (fun _ _ _ _ _ _ => px (or_k [] rfl rfl trivial (by kernel_rfl))) ?_
    refine sc (fun _ _ _ _ _ _ => px (or_k [] rfl rfl trivial (by kernel_rfl))) ?_
    refine sc (fun _ _ _ _ _ _ => px (or_k [] rfl rfl trivial (by kernel_rfl))) ?_
    refine sc (fun _ _ _ f _ _ => px (or_lit (lab := 32) (e := 25) (cs := #[.int .i64 2, .int .i64 2, .int .i64 4, .int .i64 2, .int .i64 4, .int .i64 8, .int .i64 2, .int .i64 8]) (F := E25) (or_new [(14, .agg #[.int .i64 2, .int .i64 2]), (15, .agg #[.int .i64 4, .int .i64 2]), (16, .agg #[.int .i64 4, .int .i64 8]), (17, .agg #[.int .i64 2, .int .i64 8])] rfl rfl ⟨f.1, f.2.1, f.2.2.1, f.2.2.2.1, trivial⟩ (by kernel_rfl)) rfl rfl (show 4 ≤ maxLen by decide))) ?_
    refine sc (fun own a wx hf hsl hE => ?_) ?_
    · obtain ⟨f_13, ⟨⟨A31, cA31⟩, f_18, b_A31⟩, -⟩ := hf
      exact px (or_call cf21 (args2 f_13 f_18) (ring_Alike_w _ r27 A28 cA28 [(2, 2), (4, 2), (4, 8), (2, 8)] A31 cA31 (RdO.zero (RdO.evo rfl hE b30_A28)) (RdO.zero (RwO.rd b_A31)) r33 hr33) post_val)
    refine sc (fun _ _ _ f _ _ => px (or_assign f.1)) ?_
    exact steps_nil
  intro own34 a34 w34 hd34 hz34 hk34 hf34 hE34
  obtain ⟨(e34_0 : a34.eval (.tmp 0) = .bool r33), -⟩ := hf34 [7] rfl
  have hX34 := es_ hX30 hE34
  refine fl_ret ?_
  obtain rfl := (osome hs).symm
  exact hret _ _ _ _ (.inl rfl) hd34 (results1_ rfl (RVal.tmp_ e34_0)) ⟨own34, rfl, hX34⟩
end Go.Proofs.Ytopnbammdeimcaa
